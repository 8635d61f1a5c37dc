-- PRINTED by print.py (a twelfth state) out of the translation. Not trusted: Lean checks it.
import Derived.Test.YtfhmjleimampeaaK0
import Derived.Test.YtfhmjleimampeaaGShort
import Derived.Test.YtfhmjleimampeaaK14
import Derived.Test.YtfhmjleimampeaaK15a
import Derived.Test.YtfhmjleimampeaaK17
namespace Go.Proofs.Ytfhmjleimampeaa.K
open Go.RowKit Go.Proofs.YtfhmjleimampeaaW.PrintWords Go.Proofs.YtfhmjleimampeaaW.PrintLast Go.Proofs.YtfhmjleimampeaaW.PrintMore
attribute [local go_sem] max2_int min2_int max_two min_two max_three min_three max_four min_four   -- for this text's walks alone
set_option linter.unusedVariables false
set_option linter.unusedSimpArgs false

/-! ### spileref34_Test: function 22 -/
def spileref34_Test.f (k : Nat) (l0 : List (S30)) (a1 : Int) (a2 : Int) : Option (Int × Int × Int) := (spileref34_Of.f k l0 a1 a2).bind fun bt452 => (if bt452.2.2 = 0 then (if (bt452.2.1.length : Int) = 0 then (some (0, 0, 9)) else ((spileref33_AtLeast.f k bt452.1 bt452.2.1).bind fun bt459 => (some (bt459.1, bt459.2.1, bt459.2.2)))) else (some (0, 0, bt452.2.2)))
theorem spileref34_Test.mono : ∀ a0 a1 a2 k, LeO (spileref34_Test.f k a0 a1 a2) (spileref34_Test.f (k + 1) a0 a1 a2) := by
 intro a0 a1 a2 k
 unfold spileref34_Test.f
 repeat' first
   | (with_reducible exact spileref33_AtLeast.mono _ _ _)
   | (with_reducible exact spileref34_Of.mono _ _ _ _)
   | (with_reducible exact LeO.refl _)
   | (with_reducible exact LeO.none _)
   | (with_reducible refine LeO.ite ?_ ?_)
   | (with_reducible refine LeO.bind ?_ (fun _ => ?_))
   | exact spileref33_AtLeast.mono _ _ _
   | exact spileref34_Of.mono _ _ _ _
   | exact LeO.none _
   | refine LeO.ite ?_ ?_
   | refine LeO.bind ?_ (fun _ => ?_)
set_option maxHeartbeats 8000000 in
set_option maxRecDepth 100000 in
theorem spileref34_Test.calls (k : Nat) (A0 : Option Addr) (c0 : Nat) (l0 : List (S30)) (a1 : Int) (a2 : Int) (r1 : Int) (r2 : Int) (r3 : Int) (w : World) (hr0 : Kd.C k30 w A0 l0.length l0) (hc0 : l0.length ≤ c0) (h : spileref34_Test.f k l0 a1 a2 = some (r1, r2, r3)) :
  Calls Try.prog 22 #[.slice A0 l0.length c0, .int .i64 a1, .int .i64 a2] w fun e w' => e = .returned (.tuple #[.int .i64 r1, .int .i64 r2, .int .i64 r3]) ∧ Below w.heap.size w w' := by
 have HR0 := Aside0.mk hr0
 have HC0 := Aside0.mk hc0
 clear hr0 hc0
 have HB := Aside0.mk (Below.refl w.heap.size w)
 have H : ((spileref34_Of.f k l0 a1 a2).bind fun bt452 => (if bt452.2.2 = 0 then (if (bt452.2.1.length : Int) = 0 then (some (0, 0, 9)) else ((spileref33_AtLeast.f k bt452.1 bt452.2.1).bind fun bt459 => (some (bt459.1, bt459.2.1, bt459.2.2)))) else (some (0, 0, bt452.2.2)))) = some (r1, r2, r3) := h
 clear h
 replace H := Option.bind_eq_some_iff.mp H
 obtain ⟨⟨t452, t453, t454⟩, A40, H⟩ := H
 replace H : (if t454 = 0 then (if (t453.length : Int) = 0 then (some (0, 0, 9)) else ((spileref33_AtLeast.f k t452 t453).bind fun bt459 => (some (bt459.1, bt459.2.1, bt459.2.2)))) else (some (0, 0, t454))) = some (r1, r2, r3) := H
 have A4 := Aside0.mk A40
 clear A40
 by_cases c5 : t454 = 0
 ·rw [if_pos c5] at H
  have c5b0 : (t454 == 0) = true := beq_iff_eq.mpr c5
  try simp only [beq_self_eq_true, Bool.not_true, Bool.false_or, Bool.true_and] at c5b0
  have c5b1 : (t454 != 0) = false := bne_eq_false_iff_eq.mpr c5
  clear c5
  by_cases c6 : (t453.length : Int) = 0
  ·rw [if_pos c6] at H
   have c6b0 : ((t453.length : Int) == 0) = true := beq_iff_eq.mpr c6
   try simp only [beq_self_eq_true, Bool.not_true, Bool.false_or, Bool.true_and] at c6b0
   have c6b1 : ((t453.length : Int) != 0) = false := bne_eq_false_iff_eq.mpr c6
   clear c6
   simp only [Option.some.injEq, Prod.mk.injEq] at H
   obtain ⟨rfl, rfl, rfl⟩ := H
   go_enter Try.func22, Try.ntmps22
   go_wp2_with (first | ((with_reducible refine gqC (f := 16) rfl ?_); refine GS.gL (some 16) Try.func16 #[.slice A0 l0.length c0, .int .i64 a1, .int .i64 a2] ?_; (with_reducible refine (spileref34_Of.calls k _ _ l0 a1 a2 t452 t453 t454 _ ?side1 ?side2 A4.out).mono ?_); (case side1 => exact GS.rC HR0.out); (case side2 => exact HC0.out); rintro e w7 ⟨v455, v457, rfl, ho0, ho1, hb⟩; refine ⟨_, rfl, ?_⟩; have n0_ := Aside0.mk (Kd.R_lower ho0 (lqZ (GS.lB HB.out))); have n1_ := Aside0.mk (Kd.R_lower ho1 (lqZ (GS.lB HB.out))); have n2_ := Aside0.mk (lqT (GS.lB HB.out) hb); clear HB; have HO456 := n0_; have HO458 := n1_; have HB := n2_; clear n0_ n1_ n2_; (try clear hb); (try clear hb2); (try clear hk); (try clear hi); (try clear ho0); (try clear ho1); obtain ⟨Ao8, co8, eo8⟩ := Kd.R_slice HO458.out; subst eo8))
   go_ret3
   exact ⟨by first | rfl | (simp [errW_none, errW_some] <;> rfl) | (simp [*, errW_none, errW_some] <;> rfl), GS.lB HB.out⟩
  ·rw [if_neg c6] at H
   have c6b0 : ((t453.length : Int) == 0) = false := beq_eq_false_iff_ne.mpr c6
   try simp only [beq_self_eq_true, Bool.not_true, Bool.false_or, Bool.true_and] at c6b0
   have c6b1 : ((t453.length : Int) != 0) = true := bne_iff_ne.mpr c6
   have c6b2 : ¬ (t453 = []) := fun h_ => c6 (by rw [h_]; rfl)
   replace H := Option.bind_eq_some_iff.mp H
   obtain ⟨⟨t459, t460, t461⟩, A90, H⟩ := H
   replace H : (some (t459, t460, t461)) = some (r1, r2, r3) := H
   have A9 := Aside0.mk A90
   clear A90
   simp only [Option.some.injEq, Prod.mk.injEq] at H
   obtain ⟨rfl, rfl, rfl⟩ := H
   go_enter Try.func22, Try.ntmps22
   go_wp2_with (first | ((with_reducible refine gqC (f := 16) rfl ?_); refine GS.gL (some 16) Try.func16 #[.slice A0 l0.length c0, .int .i64 a1, .int .i64 a2] ?_; (with_reducible refine (spileref34_Of.calls k _ _ l0 a1 a2 t452 t453 t454 _ ?side1 ?side2 A4.out).mono ?_); (case side1 => exact GS.rC HR0.out); (case side2 => exact HC0.out); rintro e w10 ⟨v455, v457, rfl, ho0, ho1, hb⟩; refine ⟨_, rfl, ?_⟩; have n0_ := Aside0.mk (Kd.R_lower ho0 (lqZ (GS.lB HB.out))); have n1_ := Aside0.mk (Kd.R_lower ho1 (lqZ (GS.lB HB.out))); have n2_ := Aside0.mk (lqT (GS.lB HB.out) hb); clear HB; have HO456 := n0_; have HO458 := n1_; have HB := n2_; clear n0_ n1_ n2_; (try clear hb); (try clear hb2); (try clear hk); (try clear hi); (try clear ho0); (try clear ho1); obtain ⟨Ao11, co11, eo11⟩ := Kd.R_slice HO458.out; subst eo11; obtain ⟨Ao12, co12, eo12⟩ := Kd.R_slice HO456.out; subst eo12) | ((with_reducible refine gqC (f := 46) rfl ?_); refine GS.gL (some 28) Try.func46 #[.slice Ao12 t452.length co12, .slice Ao11 t453.length co11] ?_; (with_reducible refine (spileref33_AtLeast.calls k _ _ t452 _ _ t453 t459 t460 t461 _ ?side1 ?side2 ?side3 ?side4 A9.out).mono ?_); (case side1 => repeat (first | exact (Kd.R_reads' HO456.out).2.2 | (with_reducible refine Kd.C_alloc ?_ _) | (with_reducible refine Kd.C_drewN ?_ _) | (with_reducible refine Kd.C_drew ?_))); (case side2 => exact (Kd.R_reads' HO456.out).2.1); (case side3 => repeat (first | exact (Kd.R_reads' HO458.out).2.2 | (with_reducible refine Kd.C_alloc ?_ _) | (with_reducible refine Kd.C_drewN ?_ _) | (with_reducible refine Kd.C_drew ?_))); (case side4 => exact (Kd.R_reads' HO458.out).2.1); rintro e w13 ⟨rfl, hb⟩; refine ⟨_, rfl, ?_⟩; have n0_ := Aside0.mk (Kd.R_below (GS.rR HO456.out) hb); have n1_ := Aside0.mk (Kd.R_below (GS.rR HO458.out) hb); have n2_ := Aside0.mk (lqT (GS.lB HB.out) hb); clear HO456; clear HO458; clear HB; have HO456 := n0_; have HO458 := n1_; have HB := n2_; clear n0_ n1_ n2_; (try clear hb); (try clear hb2); (try clear hk); (try clear hi)))
   go_ret3
   exact ⟨by first | rfl | (simp [errW_none, errW_some] <;> rfl) | (simp [*, errW_none, errW_some] <;> rfl), GS.lB HB.out⟩
 ·rw [if_neg c5] at H
  have c5b0 : (t454 == 0) = false := beq_eq_false_iff_ne.mpr c5
  try simp only [beq_self_eq_true, Bool.not_true, Bool.false_or, Bool.true_and] at c5b0
  have c5b1 : (t454 != 0) = true := bne_iff_ne.mpr c5
  simp only [Option.some.injEq, Prod.mk.injEq] at H
  obtain ⟨rfl, rfl, rfl⟩ := H
  go_enter Try.func22, Try.ntmps22
  go_wp2_with (first | ((with_reducible refine gqC (f := 16) rfl ?_); refine GS.gL (some 16) Try.func16 #[.slice A0 l0.length c0, .int .i64 a1, .int .i64 a2] ?_; (with_reducible refine (spileref34_Of.calls k _ _ l0 a1 a2 t452 t453 t454 _ ?side1 ?side2 A4.out).mono ?_); (case side1 => exact GS.rC HR0.out); (case side2 => exact HC0.out); rintro e w14 ⟨v455, v457, rfl, ho0, ho1, hb⟩; refine ⟨_, rfl, ?_⟩; have n0_ := Aside0.mk (Kd.R_lower ho0 (lqZ (GS.lB HB.out))); have n1_ := Aside0.mk (Kd.R_lower ho1 (lqZ (GS.lB HB.out))); have n2_ := Aside0.mk (lqT (GS.lB HB.out) hb); clear HB; have HO456 := n0_; have HO458 := n1_; have HB := n2_; clear n0_ n1_ n2_; (try clear hb); (try clear hb2); (try clear hk); (try clear hi); (try clear ho0); (try clear ho1)))
  go_ret3
  exact ⟨by first | rfl | (simp [errW_none, errW_some] <;> rfl) | (simp [*, errW_none, errW_some] <;> rfl), GS.lB HB.out⟩

/-! ### spileref33_Rises: function 49 -/
mutual
def spileref33_Rises.l0 : Nat → List Int → Int → Int → Option (Int × Int)
 | 0, _, _, _ => none
 | k + 1, x0, x5, x6 => if x6 < (x0.length : Int) then (spileref33_Rises.l1 k x0 x5 x6 0) else (some (x5, 0))
def spileref33_Rises.l1 : Nat → List Int → Int → Int → Int → Option (Int × Int)
 | 0, _, _, _, _ => none
 | k + 1, x0, x5, x6, x7 => if x7 < x6 then (if 0 ≤ x7 then (if x7 < (x0.length : Int) then (if 0 ≤ x6 then (if x6 < (x0.length : Int) then (if (rd x0 x7) < (rd x0 x6) then (spileref33_Rises.l1 k x0 (wrap64 (x5 + 1)) x6 (wrap64 (x7 + 1))) else (spileref33_Rises.l1 k x0 x5 x6 (wrap64 (x7 + 1)))) else (none)) else (none)) else (none)) else (none)) else (spileref33_Rises.l0 k x0 x5 (wrap64 (x6 + 1)))
end
def spileref33_Rises.f (k : Nat) (l0 : List Int) : Option (Int × Int) := (spileref33_Check.f k l0).bind fun t462 => (if t462 = 0 then (spileref33_Rises.l0 k l0 0 0) else (some (0, t462)))
theorem spileref33_Rises.mono_l : ∀ k, (∀ y0 y1 y2, LeO (spileref33_Rises.l0 k y0 y1 y2) (spileref33_Rises.l0 (k + 1) y0 y1 y2)) ∧ (∀ y0 y1 y2 y3, LeO (spileref33_Rises.l1 k y0 y1 y2 y3) (spileref33_Rises.l1 (k + 1) y0 y1 y2 y3))
 | 0 => ⟨fun _ _ _ r h => by simp [spileref33_Rises.l0] at h, fun _ _ _ _ r h => by simp [spileref33_Rises.l1] at h⟩
 | k + 1 => by
  obtain ⟨ih0, ih1⟩ := spileref33_Rises.mono_l k
  refine ⟨?_, ?_⟩
  ·intro y0 y1 y2
   unfold spileref33_Rises.l0
   repeat' first
   | (with_reducible exact ih0 _ _ _)
   | (with_reducible exact ih1 _ _ _ _)
   | (with_reducible exact spileref33_Check.mono _ _)
   | (with_reducible exact LeO.refl _)
   | (with_reducible exact LeO.none _)
   | (with_reducible refine LeO.ite ?_ ?_)
   | (with_reducible refine LeO.bind ?_ (fun _ => ?_))
   | exact ih0 _ _ _
   | exact ih1 _ _ _ _
   | exact spileref33_Check.mono _ _
   | exact LeO.none _
   | refine LeO.ite ?_ ?_
   | refine LeO.bind ?_ (fun _ => ?_)
  ·intro y0 y1 y2 y3
   unfold spileref33_Rises.l1
   repeat' first
   | (with_reducible exact ih0 _ _ _)
   | (with_reducible exact ih1 _ _ _ _)
   | (with_reducible exact spileref33_Check.mono _ _)
   | (with_reducible exact LeO.refl _)
   | (with_reducible exact LeO.none _)
   | (with_reducible refine LeO.ite ?_ ?_)
   | (with_reducible refine LeO.bind ?_ (fun _ => ?_))
   | exact ih0 _ _ _
   | exact ih1 _ _ _ _
   | exact spileref33_Check.mono _ _
   | exact LeO.none _
   | refine LeO.ite ?_ ?_
   | refine LeO.bind ?_ (fun _ => ?_)
theorem spileref33_Rises.mono : ∀ a0 k, LeO (spileref33_Rises.f k a0) (spileref33_Rises.f (k + 1) a0) := by
 intro a0 k
 obtain ⟨ih0, ih1⟩ := spileref33_Rises.mono_l k
 unfold spileref33_Rises.f
 repeat' first
   | (with_reducible exact ih0 _ _ _)
   | (with_reducible exact ih1 _ _ _ _)
   | (with_reducible exact spileref33_Check.mono _ _)
   | (with_reducible exact LeO.refl _)
   | (with_reducible exact LeO.none _)
   | (with_reducible refine LeO.ite ?_ ?_)
   | (with_reducible refine LeO.bind ?_ (fun _ => ?_))
   | exact ih0 _ _ _
   | exact ih1 _ _ _ _
   | exact spileref33_Check.mono _ _
   | exact LeO.none _
   | refine LeO.ite ?_ ?_
   | refine LeO.bind ?_ (fun _ => ?_)
set_option maxHeartbeats 8000000 in
set_option maxRecDepth 100000 in
theorem spileref33_Rises.calls (k : Nat) (A0 : Option Addr) (c0 : Nat) (l0 : List Int) (r1 : Int) (r2 : Int) (w : World) (hr0 : Kd.C (Kd.int .i64) w A0 l0.length l0) (hc0 : l0.length ≤ c0) (h : spileref33_Rises.f k l0 = some (r1, r2)) :
  Calls Try.prog 49 #[.slice A0 l0.length c0] w fun e w' => e = .returned (.tuple #[.int .i64 r1, .int .i64 r2]) ∧ Drawn0 w w' := by
 have HR0 := Aside0.mk hr0
 have HC0 := Aside0.mk hc0
 clear hr0 hc0
 have H : ((spileref33_Check.f k l0).bind fun t462 => (if t462 = 0 then (spileref33_Rises.l0 k l0 0 0) else (some (0, t462)))) = some (r1, r2) := h
 clear h
 replace H := Option.bind_eq_some_iff.mp H
 obtain ⟨t462, A20, H⟩ := H
 replace H : (if t462 = 0 then (spileref33_Rises.l0 k l0 0 0) else (some (0, t462))) = some (r1, r2) := H
 have A2 := Aside0.mk A20
 clear A20
 by_cases c3 : t462 = 0
 ·rw [if_pos c3] at H
  have c3b0 : (t462 == 0) = true := beq_iff_eq.mpr c3
  try simp only [beq_self_eq_true, Bool.not_true, Bool.false_or, Bool.true_and] at c3b0
  have c3b1 : (t462 != 0) = false := bne_eq_false_iff_eq.mpr c3
  clear c3
  have H' := Aside0.mk H
  clear H
  go_enter Try.func49, Try.ntmps49
  go_wp2_with (first | (go_at_call 68; (with_reducible refine (spileref33_Check.calls k _ _ l0 t462 _ ?side1 ?side2 A2.out).mono ?_); (case side1 => exact GS.rC HR0.out); (case side2 => exact HC0.out); rintro e w' ⟨rfl, ⟨nd, rfl⟩⟩; (try first | exact ⟨rfl, _, World.drewN_drewN _ _ _⟩ | exact ⟨rfl, _, Eq.trans (World.drewN_drewN _ _ _) (congrArg (World.drewN _) (Nat.add_assoc _ _ _))⟩)))
  repeat (go_quiet (first | (go_at_call 68; (with_reducible refine (spileref33_Check.calls k _ _ l0 t462 _ ?side1 ?side2 A2.out).mono ?_); (case side1 => exact GS.rC HR0.out); (case side2 => exact HC0.out); rintro e w' ⟨rfl, ⟨nd, rfl⟩⟩; (try first | exact ⟨rfl, _, World.drewN_drewN _ _ _⟩ | exact ⟨rfl, _, Eq.trans (World.drewN_drewN _ _ _) (congrArg (World.drewN _) (Nat.add_assoc _ _ _))⟩))); try go_wp2_with (first | (go_at_call 68; (with_reducible refine (spileref33_Check.calls k _ _ l0 t462 _ ?side1 ?side2 A2.out).mono ?_); (case side1 => exact GS.rC HR0.out); (case side2 => exact HC0.out); rintro e w' ⟨rfl, ⟨nd, rfl⟩⟩; (try first | exact ⟨rfl, _, World.drewN_drewN _ _ _⟩ | exact ⟨rfl, _, Eq.trans (World.drewN_drewN _ _ _) (congrArg (World.drewN _) (Nat.add_assoc _ _ _))⟩))))
  go_loopg [5, 6] k (fun kq v5 v6 w' => ∃ (x5_1 : Int) (x6_1 : Int), v5 = .int .i64 x5_1 ∧ v6 = .int .i64 x6_1 ∧ Aside0 (spileref33_Rises.l0 kq l0 x5_1 x6_1 = some (r1, r2)) ∧ Aside0 (kq ≤ k) ∧ Drawn0 w w')
  case atStart => exact ⟨(0), (0), (by first | rfl | (simp; done) | (simp [*]; done)), (by first | rfl | (simp; done) | (simp [*]; done)), H', ⟨Nat.le_refl _⟩, by repeat (first | exact Drawn0.refl _ | apply Drawn0.step)⟩
  case round =>
   clear H'
   try clear p2
   try clear c3
   try clear c3b0
   try clear c3b1
   obtain ⟨x5_1, x6_1, rfl, rfl, HA, HK1, ⟨m1, rfl⟩⟩ := hrel
   cases gk with
   | zero => exact absurd HA.out (by simp [spileref33_Rises.l0])
   | succ k1 =>
    have H := HA.out
    clear HA
    simp only [spileref33_Rises.l0] at H
    by_cases c4 : x6_1 < (l0.length : Int)
    ·rw [if_pos c4] at H
     have c4b0 : decide (x6_1 < (l0.length : Int)) = true := decide_eq_true c4
     clear c4
     have H' := Aside0.mk H
     clear H
     go_wp2
     repeat (go_quiet (fail); try go_wp2)
     go_loopg [5, 7] k1 (fun kq v5 v7 w' => ∃ (x5_2 : Int) (x7_2 : Int), v5 = .int .i64 x5_2 ∧ v7 = .int .i64 x7_2 ∧ Aside0 (spileref33_Rises.l1 kq l0 x5_2 x6_1 x7_2 = some (r1, r2)) ∧ Aside0 (kq ≤ k1) ∧ Drawn0 w w')
     case atStart => exact ⟨(x5_1), (0), (by first | rfl | (simp; done) | (simp [*]; done)), (by first | rfl | (simp; done) | (simp [*]; done)), H', ⟨Nat.le_refl _⟩, by repeat (first | exact Drawn0.refl _ | apply Drawn0.step)⟩
     case round =>
      clear H'
      try clear p2
      try clear c3
      try clear c3b0
      try clear c3b1
      try clear c4
      try clear c4b0
      try clear p2
      obtain ⟨x5_2, x7_2, rfl, rfl, HA, HK2, ⟨m2, rfl⟩⟩ := hrel
      cases gk with
      | zero => exact absurd HA.out (by simp [spileref33_Rises.l1])
      | succ k2 =>
       have H := HA.out
       clear HA
       simp only [spileref33_Rises.l1] at H
       by_cases c5 : x7_2 < x6_1
       ·rw [if_pos c5] at H
        have c5b0 : decide (x7_2 < x6_1) = true := decide_eq_true c5
        clear c5
        by_cases c6 : 0 ≤ x7_2
        ·rw [if_pos c6] at H
         have c6b0 : decide (0 ≤ x7_2) = true := decide_eq_true c6
         clear c6
         by_cases c7 : x7_2 < (l0.length : Int)
         ·rw [if_pos c7] at H
          have c7b0 : decide (x7_2 < (l0.length : Int)) = true := decide_eq_true c7
          clear c7
          by_cases c8 : 0 ≤ x6_1
          ·rw [if_pos c8] at H
           have c8b0 : decide (0 ≤ x6_1) = true := decide_eq_true c8
           clear c8
           by_cases c9 : x6_1 < (l0.length : Int)
           ·rw [if_pos c9] at H
            have c9b0 : decide (x6_1 < (l0.length : Int)) = true := decide_eq_true c9
            clear c9
            by_cases c10 : (rd l0 x7_2) < (rd l0 x6_1)
            ·rw [if_pos c10] at H
             have c10b0 : decide ((rd l0 x7_2) < (rd l0 x6_1)) = true := decide_eq_true c10
             clear c10
             have H' := Aside0.mk H
             clear H
             have p463 : 0 ≤ (x7_2 : Int) := of_decide_eq_true (by first | (with_reducible assumption) | assumption)
             have q463 : x7_2 < (l0.length : Int) := of_decide_eq_true (by first | (with_reducible assumption) | assumption)
             obtain ⟨ad463, e463, hx463_0⟩ := Kd.at_int HR0.out x7_2 p463 q463
             cases e463
             replace p463 := eq_true p463
             replace q463 := eq_true q463
             have p464 : 0 ≤ (x6_1 : Int) := of_decide_eq_true (by first | (with_reducible assumption) | assumption)
             have q464 : x6_1 < (l0.length : Int) := of_decide_eq_true (by first | (with_reducible assumption) | assumption)
             obtain ⟨ad464, e464, hx464_0⟩ := Kd.at_int HR0.out x6_1 p464 q464
             obtain rfl : ad463 = ad464 := (by injection e464)
             replace p464 := eq_true p464
             replace q464 := eq_true q464
             go_wp2
             repeat (go_quiet (fail); try go_wp2)
             go_roundg k2
             case measure => have := HK1.out; have := HK2.out; omega
             case rel => exact ⟨(wrap64 (x5_2 + 1)), (wrap64 (x7_2 + 1)), (by first | rfl | (simp; done) | (simp [*]; done)), (by first | rfl | (simp; done) | (simp [*]; done)), H', ⟨by have := HK1.out; have := HK2.out; omega⟩, by repeat (first | exact Drawn0.refl _ | apply Drawn0.step)⟩
            ·rw [if_neg c10] at H
             have c10b0 : decide ((rd l0 x7_2) < (rd l0 x6_1)) = false := decide_eq_false c10
             clear c10
             have H' := Aside0.mk H
             clear H
             have p463 : 0 ≤ (x7_2 : Int) := of_decide_eq_true (by first | (with_reducible assumption) | assumption)
             have q463 : x7_2 < (l0.length : Int) := of_decide_eq_true (by first | (with_reducible assumption) | assumption)
             obtain ⟨ad463, e463, hx463_0⟩ := Kd.at_int HR0.out x7_2 p463 q463
             cases e463
             replace p463 := eq_true p463
             replace q463 := eq_true q463
             have p464 : 0 ≤ (x6_1 : Int) := of_decide_eq_true (by first | (with_reducible assumption) | assumption)
             have q464 : x6_1 < (l0.length : Int) := of_decide_eq_true (by first | (with_reducible assumption) | assumption)
             obtain ⟨ad464, e464, hx464_0⟩ := Kd.at_int HR0.out x6_1 p464 q464
             obtain rfl : ad463 = ad464 := (by injection e464)
             replace p464 := eq_true p464
             replace q464 := eq_true q464
             go_wp2
             repeat (go_quiet (fail); try go_wp2)
             go_roundg k2
             case measure => have := HK1.out; have := HK2.out; omega
             case rel => exact ⟨(x5_2), (wrap64 (x7_2 + 1)), (by first | rfl | (simp; done) | (simp [*]; done)), (by first | rfl | (simp; done) | (simp [*]; done)), H', ⟨by have := HK1.out; have := HK2.out; omega⟩, by repeat (first | exact Drawn0.refl _ | apply Drawn0.step)⟩
           ·rw [if_neg c9] at H
            exact absurd H (by simp)
          ·rw [if_neg c8] at H
           exact absurd H (by simp)
         ·rw [if_neg c7] at H
          exact absurd H (by simp)
        ·rw [if_neg c6] at H
         exact absurd H (by simp)
       ·rw [if_neg c5] at H
        have c5b0 : decide (x7_2 < x6_1) = false := decide_eq_false c5
        clear c5
        have H' := Aside0.mk H
        clear H
        go_wp2
        repeat (go_quiet (fail); try go_wp2)
        go_roundg k2
        case measure => have := HK1.out; have := HK2.out; omega
        case rel => exact ⟨(x5_2), (wrap64 (x6_1 + 1)), (by first | rfl | (simp; done) | (simp [*]; done)), (by first | rfl | (simp; done) | (simp [*]; done)), H', ⟨by have := HK1.out; have := HK2.out; omega⟩, by repeat (first | exact Drawn0.refl _ | apply Drawn0.step)⟩
    ·rw [if_neg c4] at H
     have c4b0 : decide (x6_1 < (l0.length : Int)) = false := decide_eq_false c4
     clear c4
     simp only [Option.some.injEq, Prod.mk.injEq] at H
     obtain ⟨rfl, rfl⟩ := H
     go_wp2
     repeat (go_quiet (fail); try go_wp2)
     go_ret2
     exact ⟨by first | rfl | (simp; done) | (simp [*]; done), by repeat (first | exact Drawn0.refl _ | apply Drawn0.step)⟩
 ·rw [if_neg c3] at H
  have c3b0 : (t462 == 0) = false := beq_eq_false_iff_ne.mpr c3
  try simp only [beq_self_eq_true, Bool.not_true, Bool.false_or, Bool.true_and] at c3b0
  have c3b1 : (t462 != 0) = true := bne_iff_ne.mpr c3
  simp only [Option.some.injEq, Prod.mk.injEq] at H
  obtain ⟨rfl, rfl⟩ := H
  go_enter Try.func49, Try.ntmps49
  go_wp2_with (first | (go_at_call 68; (with_reducible refine (spileref33_Check.calls k _ _ l0 t462 _ ?side1 ?side2 A2.out).mono ?_); (case side1 => exact GS.rC HR0.out); (case side2 => exact HC0.out); rintro e w' ⟨rfl, ⟨nd, rfl⟩⟩; (try first | exact ⟨rfl, _, World.drewN_drewN _ _ _⟩ | exact ⟨rfl, _, Eq.trans (World.drewN_drewN _ _ _) (congrArg (World.drewN _) (Nat.add_assoc _ _ _))⟩)))
  repeat (go_quiet (first | (go_at_call 68; (with_reducible refine (spileref33_Check.calls k _ _ l0 t462 _ ?side1 ?side2 A2.out).mono ?_); (case side1 => exact GS.rC HR0.out); (case side2 => exact HC0.out); rintro e w' ⟨rfl, ⟨nd, rfl⟩⟩; (try first | exact ⟨rfl, _, World.drewN_drewN _ _ _⟩ | exact ⟨rfl, _, Eq.trans (World.drewN_drewN _ _ _) (congrArg (World.drewN _) (Nat.add_assoc _ _ _))⟩))); try go_wp2_with (first | (go_at_call 68; (with_reducible refine (spileref33_Check.calls k _ _ l0 t462 _ ?side1 ?side2 A2.out).mono ?_); (case side1 => exact GS.rC HR0.out); (case side2 => exact HC0.out); rintro e w' ⟨rfl, ⟨nd, rfl⟩⟩; (try first | exact ⟨rfl, _, World.drewN_drewN _ _ _⟩ | exact ⟨rfl, _, Eq.trans (World.drewN_drewN _ _ _) (congrArg (World.drewN _) (Nat.add_assoc _ _ _))⟩))))
  go_ret2
  exact ⟨by first | rfl | (simp; done) | (simp [*]; done), by repeat (first | exact Drawn0.refl _ | apply Drawn0.step)⟩

end Go.Proofs.Ytfhmjleimampeaa.K
