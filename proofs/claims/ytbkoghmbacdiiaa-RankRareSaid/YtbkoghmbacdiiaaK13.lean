-- PRINTED by print.py (a twelfth state) out of the translation. Not trusted: Lean checks it.
import Derived.Test.YtbkoghmbacdiiaaK0
import Derived.Test.YtbkoghmbacdiiaaK11
import Derived.Test.YtbkoghmbacdiiaaK12
namespace Go.Proofs.Ytbkoghmbacdiiaa.K
open Go.RowKit Go.Proofs.YtbkoghmbacdiiaaW.PrintWords Go.Proofs.YtbkoghmbacdiiaaW.PrintLast Go.Proofs.YtbkoghmbacdiiaaW.PrintMore
attribute [local go_sem] max2_int min2_int max_two min_two max_three min_three max_four min_four   -- for this text's walks alone
set_option linter.unusedVariables false
set_option linter.unusedSimpArgs false

/-! ### spileref33_Quantile: function 17 -/
mutual
def spileref33_Quantile.j0 : Nat → List Int → Int → Int → Bool → Option (Int × Int)
 | 0, _, _, _, _ => none
 | k + 1, x0, x1, x2, x29 => if x29 = true then (some (0, 2)) else (spileref33_Quantile.l0 k x0 x1 x2 1)
def spileref33_Quantile.l0 : Nat → List Int → Int → Int → Int → Option (Int × Int)
 | 0, _, _, _, _ => none
 | k + 1, x0, x1, x2, x9 => if (wrap64 (x9 * x2)) < (wrap64 ((x0.length : Int) * x1)) then (spileref33_Quantile.l0 k x0 x1 x2 (wrap64 (x9 + 1))) else ((spileref33_sorted.f k x0).bind fun t306 => (if 0 ≤ (wrap64 (x9 - 1)) then (if (wrap64 (x9 - 1)) < (t306.length : Int) then (some (rd t306 (wrap64 (x9 - 1)), 0)) else (none)) else (none)))
end
def spileref33_Quantile.f (k : Nat) (l0 : List Int) (a1 : Int) (a2 : Int) : Option (Int × Int) := (spileref33_Check.f k l0).bind fun t305 => (if t305 = 0 then (if a2 < 1 then (spileref33_Quantile.j0 k l0 a1 a2 true) else (if a2 > 1000 then (spileref33_Quantile.j0 k l0 a1 a2 true) else (if a1 < 0 then (spileref33_Quantile.j0 k l0 a1 a2 true) else (spileref33_Quantile.j0 k l0 a1 a2 (decide (a1 > a2)))))) else (some (0, t305)))
theorem spileref33_Quantile.mono_l : ∀ k, (∀ y0 y1 y2 y3, LeO (spileref33_Quantile.j0 k y0 y1 y2 y3) (spileref33_Quantile.j0 (k + 1) y0 y1 y2 y3)) ∧ (∀ y0 y1 y2 y3, LeO (spileref33_Quantile.l0 k y0 y1 y2 y3) (spileref33_Quantile.l0 (k + 1) y0 y1 y2 y3))
 | 0 => ⟨fun _ _ _ _ r h => by simp [spileref33_Quantile.j0] at h, fun _ _ _ _ r h => by simp [spileref33_Quantile.l0] at h⟩
 | k + 1 => by
  obtain ⟨ih0, ih1⟩ := spileref33_Quantile.mono_l k
  refine ⟨?_, ?_⟩
  ·intro y0 y1 y2 y3
   unfold spileref33_Quantile.j0
   repeat' first
   | (with_reducible exact ih0 _ _ _ _)
   | (with_reducible exact ih1 _ _ _ _)
   | (with_reducible exact spileref33_Check.mono _ _)
   | (with_reducible exact spileref33_sorted.mono _ _)
   | (with_reducible exact LeO.refl _)
   | (with_reducible exact LeO.none _)
   | (with_reducible refine LeO.ite ?_ ?_)
   | (with_reducible refine LeO.bind ?_ (fun _ => ?_))
   | exact ih0 _ _ _ _
   | exact ih1 _ _ _ _
   | exact spileref33_Check.mono _ _
   | exact spileref33_sorted.mono _ _
   | exact LeO.none _
   | refine LeO.ite ?_ ?_
   | refine LeO.bind ?_ (fun _ => ?_)
  ·intro y0 y1 y2 y3
   unfold spileref33_Quantile.l0
   repeat' first
   | (with_reducible exact ih0 _ _ _ _)
   | (with_reducible exact ih1 _ _ _ _)
   | (with_reducible exact spileref33_Check.mono _ _)
   | (with_reducible exact spileref33_sorted.mono _ _)
   | (with_reducible exact LeO.refl _)
   | (with_reducible exact LeO.none _)
   | (with_reducible refine LeO.ite ?_ ?_)
   | (with_reducible refine LeO.bind ?_ (fun _ => ?_))
   | exact ih0 _ _ _ _
   | exact ih1 _ _ _ _
   | exact spileref33_Check.mono _ _
   | exact spileref33_sorted.mono _ _
   | exact LeO.none _
   | refine LeO.ite ?_ ?_
   | refine LeO.bind ?_ (fun _ => ?_)
theorem spileref33_Quantile.mono : ∀ a0 a1 a2 k, LeO (spileref33_Quantile.f k a0 a1 a2) (spileref33_Quantile.f (k + 1) a0 a1 a2) := by
 intro a0 a1 a2 k
 obtain ⟨ih0, ih1⟩ := spileref33_Quantile.mono_l k
 unfold spileref33_Quantile.f
 repeat' first
   | (with_reducible exact ih0 _ _ _ _)
   | (with_reducible exact ih1 _ _ _ _)
   | (with_reducible exact spileref33_Check.mono _ _)
   | (with_reducible exact spileref33_sorted.mono _ _)
   | (with_reducible exact LeO.refl _)
   | (with_reducible exact LeO.none _)
   | (with_reducible refine LeO.ite ?_ ?_)
   | (with_reducible refine LeO.bind ?_ (fun _ => ?_))
   | exact ih0 _ _ _ _
   | exact ih1 _ _ _ _
   | exact spileref33_Check.mono _ _
   | exact spileref33_sorted.mono _ _
   | exact LeO.none _
   | refine LeO.ite ?_ ?_
   | refine LeO.bind ?_ (fun _ => ?_)
set_option maxHeartbeats 8000000 in
set_option maxRecDepth 100000 in
theorem spileref33_Quantile.calls (k : Nat) (A0 : Option Addr) (c0 : Nat) (l0 : List Int) (a1 : Int) (a2 : Int) (r1 : Int) (r2 : Int) (w : World) (hr0 : Kd.C (Kd.int .i64) w A0 l0.length l0) (hc0 : l0.length ≤ c0) (h : spileref33_Quantile.f k l0 a1 a2 = some (r1, r2)) :
  Calls Try.prog 17 #[.slice A0 l0.length c0, .int .i64 a1, .int .i64 a2] w fun e w' => e = .returned (.tuple #[.int .i64 r1, .int .i64 r2]) ∧ Below w.heap.size w w' := by
 have HR0 := Aside0.mk hr0
 have HC0 := Aside0.mk hc0
 clear hr0 hc0
 have HB := Aside0.mk (Below.refl w.heap.size w)
 have H : ((spileref33_Check.f k l0).bind fun t305 => (if t305 = 0 then (if a2 < 1 then (spileref33_Quantile.j0 k l0 a1 a2 true) else (if a2 > 1000 then (spileref33_Quantile.j0 k l0 a1 a2 true) else (if a1 < 0 then (spileref33_Quantile.j0 k l0 a1 a2 true) else (spileref33_Quantile.j0 k l0 a1 a2 (decide (a1 > a2)))))) else (some (0, t305)))) = some (r1, r2) := h
 clear h
 replace H := Option.bind_eq_some_iff.mp H
 obtain ⟨t305, A40, H⟩ := H
 replace H : (if t305 = 0 then (if a2 < 1 then (spileref33_Quantile.j0 k l0 a1 a2 true) else (if a2 > 1000 then (spileref33_Quantile.j0 k l0 a1 a2 true) else (if a1 < 0 then (spileref33_Quantile.j0 k l0 a1 a2 true) else (spileref33_Quantile.j0 k l0 a1 a2 (decide (a1 > a2)))))) else (some (0, t305))) = some (r1, r2) := H
 have A4 := Aside0.mk A40
 clear A40
 by_cases c5 : t305 = 0
 ·rw [if_pos c5] at H
  have c5b0 : (t305 == 0) = true := beq_iff_eq.mpr c5
  try simp only [beq_self_eq_true, Bool.not_true, Bool.false_or, Bool.true_and] at c5b0
  have c5b1 : (t305 != 0) = false := bne_eq_false_iff_eq.mpr c5
  clear c5
  have HC6 := Aside0.mk H
  clear H
  go_enter Try.func17, Try.ntmps17
  go_upto_region 4 with (first | ((with_reducible refine gqC (f := 40) rfl ?_); refine goesL_ (some 11) rfl rfl Try.func40 (by kernel_rfl) rfl #[.slice A0 l0.length c0] rfl (by (try simp only [List.map_toArray, List.map_cons, List.map_nil]); first | done | rfl | (simp only [List.length_drop, List.length_take]; rfl)) ?_; (with_reducible refine (spileref33_Check.calls k _ _ l0 t305 _ ?side1 ?side2 A4.out).mono ?_); (case side1 => repeat (first | exact HR0.out | (with_reducible refine Kd.C_alloc ?_ _) | (with_reducible refine Kd.C_drewN ?_ _) | (with_reducible refine Kd.C_drew ?_))); (case side2 => exact HC0.out); rintro e w' ⟨rfl, ⟨nd, rfl⟩⟩; refine ⟨_, rfl, ?_⟩))
  (try simp only [Act.put, List.setIfInBounds_toArray, List.set_cons_zero, List.set_cons_succ])
  go_cut [29] (fun v29 wc => ∃ (kq : Nat) (x29_5 : Bool), v29 = .bool x29_5 ∧ Aside0 (spileref33_Quantile.j0 kq l0 a1 a2 x29_5 = some (r1, r2)) ∧ Aside0 (kq ≤ k) ∧ Aside0 (Below w.heap.size w wc))
  case first =>
   have H := HC6.out
   clear HC6
   by_cases c7 : a2 < 1
   ·rw [if_pos c7] at H
    have c7b0 : decide (a2 < 1) = true := decide_eq_true c7
    clear c7
    (first | rw [c7b0] | (simp only [i64_w, i32_w]; rw [c7b0]) | skip)
    have H' := Aside0.mk H
    clear H
    go_wp2
    go_meet
    case rel => exact ⟨_, (true), (by first | rfl | (simp; done) | (simp [*]; done)), H', ⟨by first | omega | exact Nat.le_refl _⟩, ⟨by repeat (first | (with_reducible first | exact HB.out | apply lqA | apply lqN | apply lqD) | exact HB.out)⟩⟩
   ·rw [if_neg c7] at H
    have c7b0 : decide (a2 < 1) = false := decide_eq_false c7
    clear c7
    (first | rw [c7b0] | (simp only [i64_w, i32_w]; rw [c7b0]) | skip)
    by_cases c8 : a2 > 1000
    ·rw [if_pos c8] at H
     have c8b0 : decide (1000 < a2) = true := decide_eq_true c8
     clear c8
     have H' := Aside0.mk H
     clear H
     go_wp2
     go_meet
     case rel => exact ⟨_, (true), (by first | rfl | (simp; done) | (simp [*]; done)), H', ⟨by first | omega | exact Nat.le_refl _⟩, ⟨by repeat (first | (with_reducible first | exact HB.out | apply lqA | apply lqN | apply lqD) | exact HB.out)⟩⟩
    ·rw [if_neg c8] at H
     have c8b0 : decide (1000 < a2) = false := decide_eq_false c8
     clear c8
     by_cases c9 : a1 < 0
     ·rw [if_pos c9] at H
      have c9b0 : decide (a1 < 0) = true := decide_eq_true c9
      clear c9
      have H' := Aside0.mk H
      clear H
      go_wp2
      go_meet
      case rel => exact ⟨_, (true), (by first | rfl | (simp; done) | (simp [*]; done)), H', ⟨by first | omega | exact Nat.le_refl _⟩, ⟨by repeat (first | (with_reducible first | exact HB.out | apply lqA | apply lqN | apply lqD) | exact HB.out)⟩⟩
     ·rw [if_neg c9] at H
      have c9b0 : decide (a1 < 0) = false := decide_eq_false c9
      clear c9
      have H' := Aside0.mk H
      clear H
      go_wp2
      go_meet
      case rel => exact ⟨_, (decide (a1 > a2)), (by first | rfl | (simp; done) | (simp [*]; done)), H', ⟨by first | omega | exact Nat.le_refl _⟩, ⟨by repeat (first | (with_reducible first | exact HB.out | apply lqA | apply lqN | apply lqD) | exact HB.out)⟩⟩
  case rest =>
   clear HC6
   try clear c1
   try clear p2
   try clear c4
   try clear c5
   try clear c5b0
   try clear c5b1
   try clear c7
   try clear c7b0
   try clear c8
   try clear c8b0
   try clear c9
   try clear c9b0
   obtain ⟨kq, x29_5, rfl, HA, HJ5, HB⟩ := hcut
   cases kq with
   | zero => exact absurd HA.out (by simp [spileref33_Quantile.j0])
   | succ kj5 =>
    have H := HA.out
    clear HA
    simp only [spileref33_Quantile.j0] at H
    by_cases c10 : x29_5 = true
    ·subst c10
     have H1 : (some (0, 2)) = some (r1, r2) := by rw [if_pos rfl] at H; exact H
     clear H
     have H := H1
     clear H1
     simp only [Option.some.injEq, Prod.mk.injEq] at H
     obtain ⟨rfl, rfl⟩ := H
     go_wp2
     go_ret2
     exact ⟨by first | rfl | (simp [errW_none, errW_some] <;> rfl) | (simp [*, errW_none, errW_some] <;> rfl), by repeat (first | (with_reducible first | exact HB.out | apply lqA | apply lqN | apply lqD) | exact HB.out)⟩
    ·replace c10 := Bool.eq_false_iff.mpr c10
     subst c10
     have H1 : (spileref33_Quantile.l0 kj5 l0 a1 a2 1) = some (r1, r2) := by rw [if_neg (show ¬ (false = true) by decide)] at H; exact H
     clear H
     have H := H1
     clear H1
     have H' := Aside0.mk H
     clear H
     go_wp2
     go_loopg [9] kj5 (fun kq v9 w' => ∃ (x9_2 : Int), v9 = .int .i64 x9_2 ∧ Aside0 (spileref33_Quantile.l0 kq l0 a1 a2 x9_2 = some (r1, r2)) ∧ Aside0 (kq ≤ kj5) ∧ Aside0 (Below w.heap.size w w'))
     case atStart => exact ⟨(1), (by first | rfl | (simp; done) | (simp [*]; done)), H', ⟨Nat.le_refl _⟩, ⟨by repeat (first | (with_reducible first | exact HB.out | apply lqA | apply lqN | apply lqD) | exact HB.out)⟩⟩
     case round =>
      clear H'
      try clear c1
      try clear p2
      try clear c4
      try clear c5
      try clear c5b0
      try clear c5b1
      try clear c7
      try clear c7b0
      try clear c8
      try clear c8b0
      try clear c9
      try clear c9b0
      try clear c10
      try clear p2
      obtain ⟨x9_2, rfl, HA, HK2, HB⟩ := hrel
      cases gk with
      | zero => exact absurd HA.out (by simp [spileref33_Quantile.l0])
      | succ k2 =>
       have H := HA.out
       clear HA
       simp only [spileref33_Quantile.l0] at H
       by_cases c11 : (wrap64 (x9_2 * a2)) < (wrap64 ((l0.length : Int) * a1))
       ·rw [if_pos c11] at H
        have c11b0 : decide ((wrap64 (x9_2 * a2)) < (wrap64 ((l0.length : Int) * a1))) = true := decide_eq_true c11
        clear c11
        have H' := Aside0.mk H
        clear H
        go_wp2
        go_roundg k2
        case measure => have := HJ5.out; have := HK2.out; omega
        case rel => exact ⟨(wrap64 (x9_2 + 1)), (by first | rfl | (simp; done) | (simp [*]; done)), H', ⟨by have := HJ5.out; have := HK2.out; omega⟩, ⟨by repeat (first | (with_reducible first | exact HB.out | apply lqA | apply lqN | apply lqD) | exact HB.out)⟩⟩
       ·rw [if_neg c11] at H
        have c11b0 : decide ((wrap64 (x9_2 * a2)) < (wrap64 ((l0.length : Int) * a1))) = false := decide_eq_false c11
        clear c11
        replace H := Option.bind_eq_some_iff.mp H
        obtain ⟨t306, A120, H⟩ := H
        replace H : (if 0 ≤ (wrap64 (x9_2 - 1)) then (if (wrap64 (x9_2 - 1)) < (t306.length : Int) then (some (rd t306 (wrap64 (x9_2 - 1)), 0)) else (none)) else (none)) = some (r1, r2) := H
        have A12 := Aside0.mk A120
        clear A120
        obtain ⟨ji13, hji13⟩ : ∃ j_ : Int, (wrap64 (x9_2 - 1)) = j_ := ⟨_, rfl⟩
        replace H : (if 0 ≤ (ji13) then (if (ji13) < (t306.length : Int) then (some (rd t306 (ji13), 0)) else (none)) else (none)) = some (r1, r2) := by first | (rw [hji13] at H; exact H) | (simp only [hji13] at H ⊢; exact H)
        (try rw [hji13] at A12)
        have hji13w : (IntKind.i64.wrap (x9_2 - 1)) = ji13 := (i64_w _).trans hji13
        by_cases c14 : 0 ≤ (ji13)
        ·rw [if_pos c14] at H
         have c14b0 : decide (0 ≤ (ji13)) = true := decide_eq_true c14
         clear c14
         by_cases c15 : (ji13) < (t306.length : Int)
         ·rw [if_pos c15] at H
          have c15b0 : decide ((ji13) < (t306.length : Int)) = true := decide_eq_true c15
          clear c15
          simp only [Option.some.injEq, Prod.mk.injEq] at H
          obtain ⟨rfl, rfl⟩ := H
          go_wp2_with (first | ((with_reducible refine gqC (f := 41) rfl ?_); refine goesL_ (some 41) rfl rfl Try.func41 (by kernel_rfl) rfl #[.slice A0 l0.length c0] rfl (by (try simp only [List.map_toArray, List.map_cons, List.map_nil]); first | done | rfl | (simp only [List.length_drop, List.length_take]; rfl)) ?_; (with_reducible refine (spileref33_sorted.calls k2 _ _ l0 t306 _ ?side1 ?side2 A12.out).mono ?_); (case side1 => repeat (first | exact (Kd.C_below HR0.out HB.out) | (with_reducible refine Kd.C_alloc ?_ _) | (with_reducible refine Kd.C_drewN ?_ _) | (with_reducible refine Kd.C_drew ?_))); (case side2 => exact HC0.out); rintro e w16 ⟨v307, rfl, ho0, hb⟩; refine ⟨_, rfl, ?_⟩; have n0_ := Aside0.mk (Kd.R_lower ho0 (lqZ (by repeat (first | (with_reducible first | exact HB.out | apply lqA | apply lqN | apply lqD) | exact HB.out)))); have n1_ := Aside0.mk (lqT (by repeat (first | (with_reducible first | exact HB.out | apply lqA | apply lqN | apply lqD) | exact HB.out)) hb); clear HB; have HO308 := n0_; have HB := n1_; clear n0_ n1_; (try clear hb); (try clear hb2); (try clear hk); (try clear hi); (try clear ho0); obtain ⟨Ao17, co17, eo17⟩ := Kd.R_slice HO308.out; subst eo17; have p309 : 0 ≤ ((ji13) : Int) := of_decide_eq_true (by first | (with_reducible assumption) | assumption); have q309 : (ji13) < (t306.length : Int) := of_decide_eq_true (by first | (with_reducible assumption) | assumption); obtain ⟨ad309, e309, hx309_0⟩ := Kd.at_int (Kd.R_reads' HO308.out).2.2 (ji13) p309 q309; cases e309; replace p309 := eq_true p309; replace q309 := eq_true q309))
          go_ret2
          exact ⟨by first | rfl | (simp [errW_none, errW_some] <;> rfl) | (simp only [← hji13]; first | rfl | (simp [errW_none, errW_some] <;> rfl)) | (simp [*, errW_none, errW_some] <;> rfl), by repeat (first | (with_reducible first | exact HB.out | apply lqA | apply lqN | apply lqD) | exact HB.out)⟩
         ·rw [if_neg c15] at H
          exact absurd H (by simp)
        ·rw [if_neg c14] at H
         exact absurd H (by simp)
 ·rw [if_neg c5] at H
  have c5b0 : (t305 == 0) = false := beq_eq_false_iff_ne.mpr c5
  try simp only [beq_self_eq_true, Bool.not_true, Bool.false_or, Bool.true_and] at c5b0
  have c5b1 : (t305 != 0) = true := bne_iff_ne.mpr c5
  simp only [Option.some.injEq, Prod.mk.injEq] at H
  obtain ⟨rfl, rfl⟩ := H
  go_enter Try.func17, Try.ntmps17
  go_wp2_with (first | ((with_reducible refine gqC (f := 40) rfl ?_); refine goesL_ (some 11) rfl rfl Try.func40 (by kernel_rfl) rfl #[.slice A0 l0.length c0] rfl (by (try simp only [List.map_toArray, List.map_cons, List.map_nil]); first | done | rfl | (simp only [List.length_drop, List.length_take]; rfl)) ?_; (with_reducible refine (spileref33_Check.calls k _ _ l0 t305 _ ?side1 ?side2 A4.out).mono ?_); (case side1 => repeat (first | exact HR0.out | (with_reducible refine Kd.C_alloc ?_ _) | (with_reducible refine Kd.C_drewN ?_ _) | (with_reducible refine Kd.C_drew ?_))); (case side2 => exact HC0.out); rintro e w' ⟨rfl, ⟨nd, rfl⟩⟩; refine ⟨_, rfl, ?_⟩))
  go_ret2
  exact ⟨by first | rfl | (simp [errW_none, errW_some] <;> rfl) | (simp [*, errW_none, errW_some] <;> rfl), by repeat (first | (with_reducible first | exact HB.out | apply lqA | apply lqN | apply lqD) | exact HB.out)⟩

/-! ### spileref33_rank: function 56 -/
mutual
def spileref33_rank.l0 : Nat → List Int → Int → Int → Int → Option (Int)
 | 0, _, _, _, _ => none
 | k + 1, x0, x1, x5, x6 => if x6 < (x0.length : Int) then (if 0 ≤ x6 then (if (rd x0 x6) < x1 then (spileref33_rank.j1 k x0 x1 (wrap64 (x5 + 2)) x6) else (spileref33_rank.j1 k x0 x1 x5 x6)) else (none)) else (some x5)
def spileref33_rank.j1 : Nat → List Int → Int → Int → Int → Option (Int)
 | 0, _, _, _, _ => none
 | k + 1, x0, x1, x5, x6 => if 0 ≤ x6 then (if x6 < (x0.length : Int) then (if (rd x0 x6) = x1 then (spileref33_rank.l0 k x0 x1 (wrap64 (x5 + 1)) (wrap64 (x6 + 1))) else (spileref33_rank.l0 k x0 x1 x5 (wrap64 (x6 + 1)))) else (none)) else (none)
end
def spileref33_rank.f (k : Nat) (l0 : List Int) (a1 : Int) : Option (Int) := spileref33_rank.l0 k l0 a1 1 0
theorem spileref33_rank.mono_l : ∀ k, (∀ y0 y1 y2 y3, LeO (spileref33_rank.l0 k y0 y1 y2 y3) (spileref33_rank.l0 (k + 1) y0 y1 y2 y3)) ∧ (∀ y0 y1 y2 y3, LeO (spileref33_rank.j1 k y0 y1 y2 y3) (spileref33_rank.j1 (k + 1) y0 y1 y2 y3))
 | 0 => ⟨fun _ _ _ _ r h => by simp [spileref33_rank.l0] at h, fun _ _ _ _ r h => by simp [spileref33_rank.j1] at h⟩
 | k + 1 => by
  obtain ⟨ih0, ih1⟩ := spileref33_rank.mono_l k
  refine ⟨?_, ?_⟩
  ·intro y0 y1 y2 y3
   unfold spileref33_rank.l0
   repeat' first
   | (with_reducible exact ih0 _ _ _ _)
   | (with_reducible exact ih1 _ _ _ _)
   | (with_reducible exact LeO.refl _)
   | (with_reducible exact LeO.none _)
   | (with_reducible refine LeO.ite ?_ ?_)
   | (with_reducible refine LeO.bind ?_ (fun _ => ?_))
   | exact ih0 _ _ _ _
   | exact ih1 _ _ _ _
   | exact LeO.none _
   | refine LeO.ite ?_ ?_
   | refine LeO.bind ?_ (fun _ => ?_)
  ·intro y0 y1 y2 y3
   unfold spileref33_rank.j1
   repeat' first
   | (with_reducible exact ih0 _ _ _ _)
   | (with_reducible exact ih1 _ _ _ _)
   | (with_reducible exact LeO.refl _)
   | (with_reducible exact LeO.none _)
   | (with_reducible refine LeO.ite ?_ ?_)
   | (with_reducible refine LeO.bind ?_ (fun _ => ?_))
   | exact ih0 _ _ _ _
   | exact ih1 _ _ _ _
   | exact LeO.none _
   | refine LeO.ite ?_ ?_
   | refine LeO.bind ?_ (fun _ => ?_)
theorem spileref33_rank.mono : ∀ a0 a1 k, LeO (spileref33_rank.f k a0 a1) (spileref33_rank.f (k + 1) a0 a1) := by
 intro a0 a1 k
 obtain ⟨ih0, ih1⟩ := spileref33_rank.mono_l k
 unfold spileref33_rank.f
 repeat' first
   | (with_reducible exact ih0 _ _ _ _)
   | (with_reducible exact ih1 _ _ _ _)
   | (with_reducible exact LeO.refl _)
   | (with_reducible exact LeO.none _)
   | (with_reducible refine LeO.ite ?_ ?_)
   | (with_reducible refine LeO.bind ?_ (fun _ => ?_))
   | exact ih0 _ _ _ _
   | exact ih1 _ _ _ _
   | exact LeO.none _
   | refine LeO.ite ?_ ?_
   | refine LeO.bind ?_ (fun _ => ?_)
set_option maxHeartbeats 8000000 in
set_option maxRecDepth 100000 in
theorem spileref33_rank.calls (k : Nat) (A0 : Option Addr) (c0 : Nat) (l0 : List Int) (a1 : Int) (r : Int) (w : World) (hr0 : Kd.C (Kd.int .i64) w A0 l0.length l0) (hc0 : l0.length ≤ c0) (h : spileref33_rank.f k l0 a1 = some r) :
  Calls Try.prog 56 #[.slice A0 l0.length c0, .int .i64 a1] w fun e w' => e = .returned (.int .i64 r) ∧ Drawn0 w w' := by
 have HR0 := Aside0.mk hr0
 have HC0 := Aside0.mk hc0
 clear hr0 hc0
 have H : (spileref33_rank.l0 k l0 a1 1 0) = some r := h
 clear h
 have H' := Aside0.mk H
 clear H
 go_enter Try.func56, Try.ntmps56
 go_wp2
 go_loopg [5, 6] k (fun kq v5 v6 w' => ∃ (x5_1 : Int) (x6_1 : Int), v5 = .int .i64 x5_1 ∧ v6 = .int .i64 x6_1 ∧ Aside0 (spileref33_rank.l0 kq l0 a1 x5_1 x6_1 = some r) ∧ Aside0 (kq ≤ k) ∧ Drawn0 w w')
 case atStart => exact ⟨(1), (0), (by first | rfl | (simp; done) | (simp [*]; done)), (by first | rfl | (simp; done) | (simp [*]; done)), H', ⟨Nat.le_refl _⟩, by repeat (first | exact Drawn0.refl _ | apply Drawn0.step)⟩
 case round =>
  clear H'
  try clear p2
  obtain ⟨x5_1, x6_1, rfl, rfl, HA, HK1, ⟨m1, rfl⟩⟩ := hrel
  cases gk with
  | zero => exact absurd HA.out (by simp [spileref33_rank.l0])
  | succ k1 =>
   have H := HA.out
   clear HA
   simp only [spileref33_rank.l0] at H
   by_cases c3 : x6_1 < (l0.length : Int)
   ·rw [if_pos c3] at H
    have c3b0 : decide (x6_1 < (l0.length : Int)) = true := decide_eq_true c3
    clear c3
    by_cases c4 : 0 ≤ x6_1
    ·rw [if_pos c4] at H
     have c4b0 : decide (0 ≤ x6_1) = true := decide_eq_true c4
     clear c4
     have HC5 := Aside0.mk H
     clear H
     have p310 : 0 ≤ (x6_1 : Int) := of_decide_eq_true (by first | (with_reducible assumption) | assumption)
     have q310 : x6_1 < (l0.length : Int) := of_decide_eq_true (by first | (with_reducible assumption) | assumption)
     obtain ⟨ad310, e310, hx310_0⟩ := Kd.at_int HR0.out x6_1 p310 q310
     cases e310
     replace p310 := eq_true p310
     replace q310 := eq_true q310
     go_upto_if 18 with (fail)
     go_cut [5] (fun v5 wc => ∃ (kq : Nat) (x5_4 : Int), v5 = .int .i64 x5_4 ∧ Aside0 (spileref33_rank.j1 kq l0 a1 x5_4 x6_1 = some r) ∧ Aside0 (kq ≤ k1) ∧ Drawn0 w wc)
     case first =>
      have H := HC5.out
      clear HC5
      by_cases c6 : (rd l0 x6_1) < a1
      ·rw [if_pos c6] at H
       have c6b0 : decide ((rd l0 x6_1) < a1) = true := decide_eq_true c6
       clear c6
       (first | rw [c6b0] | (simp only [i64_w, i32_w]; rw [c6b0]) | skip)
       have H' := Aside0.mk H
       clear H
       go_wp2
       go_meet
       case rel => exact ⟨_, (wrap64 (x5_1 + 2)), (by first | rfl | (simp; done) | (simp [*]; done)), H', ⟨by have := HK1.out; first | omega | exact Nat.le_refl _⟩, by repeat (first | exact Drawn0.refl _ | apply Drawn0.step)⟩
      ·rw [if_neg c6] at H
       have c6b0 : decide ((rd l0 x6_1) < a1) = false := decide_eq_false c6
       clear c6
       (first | rw [c6b0] | (simp only [i64_w, i32_w]; rw [c6b0]) | skip)
       have H' := Aside0.mk H
       clear H
       go_wp2
       go_meet
       case rel => exact ⟨_, (x5_1), (by first | rfl | (simp; done) | (simp [*]; done)), H', ⟨by have := HK1.out; first | omega | exact Nat.le_refl _⟩, by repeat (first | exact Drawn0.refl _ | apply Drawn0.step)⟩
     case rest =>
      clear HC5
      try clear p2
      try clear c3
      try clear c3b0
      try clear p3
      try clear q3
      try clear hx3
      try clear c4
      try clear c4b0
      try clear c5
      try clear c6
      try clear c6b0
      try clear p6
      try clear hx310_0
      try clear p2
      try clear p310
      try clear q310
      obtain ⟨kq, x5_4, rfl, HA, HJ4, ⟨mc4, rfl⟩⟩ := hcut
      cases kq with
      | zero => exact absurd HA.out (by simp [spileref33_rank.j1])
      | succ kj4 =>
       have H := HA.out
       clear HA
       simp only [spileref33_rank.j1] at H
       by_cases c7 : 0 ≤ x6_1
       ·rw [if_pos c7] at H
        have c7b0 : decide (0 ≤ x6_1) = true := decide_eq_true c7
        clear c7
        by_cases c8 : x6_1 < (l0.length : Int)
        ·rw [if_pos c8] at H
         have c8b0 : decide (x6_1 < (l0.length : Int)) = true := decide_eq_true c8
         clear c8
         by_cases c9 : (rd l0 x6_1) = a1
         ·rw [if_pos c9] at H
          have c9b0 : ((rd l0 x6_1) == a1) = true := beq_iff_eq.mpr c9
          try simp only [beq_self_eq_true, Bool.not_true, Bool.false_or, Bool.true_and] at c9b0
          have c9b1 : ((rd l0 x6_1) != a1) = false := bne_eq_false_iff_eq.mpr c9
          clear c9
          have H' := Aside0.mk H
          clear H
          have p311 : 0 ≤ (x6_1 : Int) := of_decide_eq_true (by first | (with_reducible assumption) | assumption)
          have q311 : x6_1 < (l0.length : Int) := of_decide_eq_true (by first | (with_reducible assumption) | assumption)
          obtain ⟨ad311, e311, hx311_0⟩ := Kd.at_int HR0.out x6_1 p311 q311
          obtain rfl : ad310 = ad311 := (by injection e311)
          replace p311 := eq_true p311
          replace q311 := eq_true q311
          go_wp2
          go_roundg kj4
          case measure => have := HK1.out; have := HJ4.out; omega
          case rel => exact ⟨(wrap64 (x5_4 + 1)), (wrap64 (x6_1 + 1)), (by first | rfl | (simp; done) | (simp [*]; done)), (by first | rfl | (simp; done) | (simp [*]; done)), H', ⟨by have := HK1.out; have := HJ4.out; omega⟩, by repeat (first | exact Drawn0.refl _ | apply Drawn0.step)⟩
         ·rw [if_neg c9] at H
          have c9b0 : ((rd l0 x6_1) == a1) = false := beq_eq_false_iff_ne.mpr c9
          try simp only [beq_self_eq_true, Bool.not_true, Bool.false_or, Bool.true_and] at c9b0
          have c9b1 : ((rd l0 x6_1) != a1) = true := bne_iff_ne.mpr c9
          have H' := Aside0.mk H
          clear H
          have p311 : 0 ≤ (x6_1 : Int) := of_decide_eq_true (by first | (with_reducible assumption) | assumption)
          have q311 : x6_1 < (l0.length : Int) := of_decide_eq_true (by first | (with_reducible assumption) | assumption)
          obtain ⟨ad311, e311, hx311_0⟩ := Kd.at_int HR0.out x6_1 p311 q311
          obtain rfl : ad310 = ad311 := (by injection e311)
          replace p311 := eq_true p311
          replace q311 := eq_true q311
          go_wp2
          go_roundg kj4
          case measure => have := HK1.out; have := HJ4.out; omega
          case rel => exact ⟨(x5_4), (wrap64 (x6_1 + 1)), (by first | rfl | (simp; done) | (simp [*]; done)), (by first | rfl | (simp; done) | (simp [*]; done)), H', ⟨by have := HK1.out; have := HJ4.out; omega⟩, by repeat (first | exact Drawn0.refl _ | apply Drawn0.step)⟩
        ·rw [if_neg c8] at H
         exact absurd H (by simp)
       ·rw [if_neg c7] at H
        exact absurd H (by simp)
    ·rw [if_neg c4] at H
     exact absurd H (by simp)
   ·rw [if_neg c3] at H
    have c3b0 : decide (x6_1 < (l0.length : Int)) = false := decide_eq_false c3
    clear c3
    obtain rfl := Option.some.inj H
    go_wp2
    go_ret
    exact ⟨by first | rfl | (simp; done) | (simp [*]; done), by repeat (first | exact Drawn0.refl _ | apply Drawn0.step)⟩

/-! ### spileref33_ranks: function 43 -/
def spileref33_ranks.l0 : Nat → List Int → List Int → Int → Option (List Int)
 | 0, _, _, _ => none
 | k + 1, x0, x3, x4 => if x4 < (x0.length : Int) then (if 0 ≤ x4 then ((spileref33_rank.f k x0 (rd x0 x4)).bind fun t316 => (if x3.length < 17592186044416 then (spileref33_ranks.l0 k x0 (x3 ++ [t316]) (wrap64 (x4 + 1))) else (none))) else (none)) else (some x3)
def spileref33_ranks.f (k : Nat) (l0 : List Int) : Option (List Int) := spileref33_ranks.l0 k l0 (([] : List Int)) 0
theorem spileref33_ranks.mono_l : ∀ k, (∀ y0 y1 y2, LeO (spileref33_ranks.l0 k y0 y1 y2) (spileref33_ranks.l0 (k + 1) y0 y1 y2))
 | 0 => fun _ _ _ r h => by simp [spileref33_ranks.l0] at h
 | k + 1 => by
  have ih0 := spileref33_ranks.mono_l k
  ·intro y0 y1 y2
   unfold spileref33_ranks.l0
   repeat' first
   | (with_reducible exact ih0 _ _ _)
   | (with_reducible exact spileref33_rank.mono _ _ _)
   | (with_reducible exact LeO.refl _)
   | (with_reducible exact LeO.none _)
   | (with_reducible refine LeO.ite ?_ ?_)
   | (with_reducible refine LeO.bind ?_ (fun _ => ?_))
   | exact ih0 _ _ _
   | exact spileref33_rank.mono _ _ _
   | exact LeO.none _
   | refine LeO.ite ?_ ?_
   | refine LeO.bind ?_ (fun _ => ?_)
theorem spileref33_ranks.mono : ∀ a0 k, LeO (spileref33_ranks.f k a0) (spileref33_ranks.f (k + 1) a0) := by
 intro a0 k
 have ih0 := spileref33_ranks.mono_l k
 unfold spileref33_ranks.f
 repeat' first
   | (with_reducible exact ih0 _ _ _)
   | (with_reducible exact spileref33_rank.mono _ _ _)
   | (with_reducible exact LeO.refl _)
   | (with_reducible exact LeO.none _)
   | (with_reducible refine LeO.ite ?_ ?_)
   | (with_reducible refine LeO.bind ?_ (fun _ => ?_))
   | exact ih0 _ _ _
   | exact spileref33_rank.mono _ _ _
   | exact LeO.none _
   | refine LeO.ite ?_ ?_
   | refine LeO.bind ?_ (fun _ => ?_)
set_option maxHeartbeats 8000000 in
set_option maxRecDepth 100000 in
theorem spileref33_ranks.calls (k : Nat) (A0 : Option Addr) (c0 : Nat) (l0 : List Int) (r : List Int) (w : World) (hr0 : Kd.C (Kd.int .i64) w A0 l0.length l0) (hc0 : l0.length ≤ c0) (h : spileref33_ranks.f k l0 = some r) :
  Calls Try.prog 43 #[.slice A0 l0.length c0] w fun e w' => ∃ v0_ : Value, e = .returned (v0_) ∧ Kd.R (Kd.int .i64) 3 w' w.heap.size (fun _ => True) v0_ r ∧ Below w.heap.size w w' := by
 have HR0 := Aside0.mk hr0
 have HC0 := Aside0.mk hc0
 clear hr0 hc0
 have HB := Aside0.mk (Below.refl w.heap.size w)
 have H : (spileref33_ranks.l0 k l0 (([] : List Int)) 0) = some r := h
 clear h
 obtain ⟨y312, hy312⟩ : ∃ y_ : List Int, y_ = (([] : List Int)) := ⟨_, rfl⟩
 replace H : (spileref33_ranks.l0 k l0 y312 0) = some r := by first | (rw [hy312]; with_reducible exact H) | (have H2_ := (Option.bind_some _ _).symm.trans H; rw [hy312]; with_reducible exact H2_) | (have H2_ := (Option.bind_some _ _).symm.trans H; with_reducible exact H2_) | with_reducible exact H | (rw [hy312]; exact H) | exact H
 have Ny312 := Aside0.mk hy312
 clear hy312
 have H' := Aside0.mk H
 clear H
 go_enter Try.func43, Try.ntmps43
 go_wp2_with (first | ((with_reducible refine gqD (N := 5) rfl ?_); refine Kd.R_lit (Kd.int .i64) _ 3 ?hg (N := 5) ?hd (xs := ([] : List Int)) (inner := []) (ok := fun _ => True) (okp := fun _ => True) ?hr ?hp (fun _ hk => hk) trivial (Below.refl _ _) (Nat.le_refl _) (by simp) ?_; (case hd => rfl); (case hg => rfl); (case hr => first | (go_simp; done) | (go_simp; rfl)); (case hp => exact (Reps.none _ _)); intro v313 w2 ho3 hb hg_ hnew_; clear hg_ hnew_; (first | rw [← Ny312.out] at ho3 | (simp only [Int.reduceToNat] at ho3; rw [← Ny312.out] at ho3)); have n0_ := Aside0.mk (Kd.R_lower ho3 (lqZ (by repeat (first | (with_reducible first | exact HB.out | apply lqA | apply lqN | apply lqD) | exact HB.out)))); have n1_ := Aside0.mk (lqT (by repeat (first | (with_reducible first | exact HB.out | apply lqA | apply lqN | apply lqD) | exact HB.out)) hb); clear HB; have HO314 := n0_; have HB := n1_; clear n0_ n1_; clear hb ho3))
 go_loopg [3, 4] k (fun kq v3 v4 w' => ∃ (x3_1 : List Int) (x4_1 : Int), v4 = .int .i64 x4_1 ∧ Aside0 (spileref33_ranks.l0 kq l0 x3_1 x4_1 = some r) ∧ Aside0 (kq ≤ k) ∧ Aside0 (Kd.R (Kd.int .i64) 3 w' w.heap.size (fun _ => True) v3 x3_1) ∧ Aside0 (Below w.heap.size w w'))
 case atStart => exact ⟨(y312), (0), (by first | rfl | (simp; done) | (simp [*]; done)), H', ⟨Nat.le_refl _⟩, ⟨by (with_reducible repeat (first | apply Kd.R_alloc | apply Kd.R_drewN | apply Kd.R_drew)); exact HO314.out⟩, ⟨by repeat (first | (with_reducible first | exact HB.out | apply lqA | apply lqN | apply lqD) | exact HB.out)⟩⟩
 case round =>
  clear H'
  try clear p2
  obtain ⟨x3_1, x4_1, rfl, HA, HK1, HO_3, HB⟩ := hrel
  cases gk with
  | zero => exact absurd HA.out (by simp [spileref33_ranks.l0])
  | succ k1 =>
   have H := HA.out
   clear HA
   simp only [spileref33_ranks.l0] at H
   by_cases c4 : x4_1 < (l0.length : Int)
   ·rw [if_pos c4] at H
    have c4b0 : decide (x4_1 < (l0.length : Int)) = true := decide_eq_true c4
    clear c4
    by_cases c5 : 0 ≤ x4_1
    ·rw [if_pos c5] at H
     have c5b0 : decide (0 ≤ x4_1) = true := decide_eq_true c5
     clear c5
     replace H := Option.bind_eq_some_iff.mp H
     obtain ⟨t316, A60, H⟩ := H
     replace H : (if x3_1.length < 17592186044416 then (spileref33_ranks.l0 k1 l0 (x3_1 ++ [t316]) (wrap64 (x4_1 + 1))) else (none)) = some r := H
     have A6 := Aside0.mk A60
     clear A60
     by_cases c7 : x3_1.length < 17592186044416
     ·rw [if_pos c7] at H
      have LMc7 := Aside0.mk c7
      clear c7
      obtain ⟨y317, hy317⟩ : ∃ y_ : List Int, y_ = (x3_1 ++ [t316]) := ⟨_, rfl⟩
      replace H : (spileref33_ranks.l0 k1 l0 y317 (wrap64 (x4_1 + 1))) = some r := by first | (rw [hy317]; with_reducible exact H) | (have H2_ := (Option.bind_some _ _).symm.trans H; rw [hy317]; with_reducible exact H2_) | (have H2_ := (Option.bind_some _ _).symm.trans H; with_reducible exact H2_) | with_reducible exact H | (rw [hy317]; exact H) | exact H
      have Ny317 := Aside0.mk hy317
      clear hy317
      have H' := Aside0.mk H
      clear H
      have p315 : 0 ≤ (x4_1 : Int) := of_decide_eq_true (by first | (with_reducible assumption) | assumption)
      have q315 : x4_1 < (l0.length : Int) := of_decide_eq_true (by first | (with_reducible assumption) | assumption)
      obtain ⟨ad315, e315, hx315_0⟩ := Kd.at_int HR0.out x4_1 p315 q315
      cases e315
      replace hx315_0 := (HB.out.cell (World.block_lt_of_cell? w _ hx315_0)).trans hx315_0
      replace p315 := eq_true p315
      replace q315 := eq_true q315
      go_wp2_with (first | ((with_reducible refine gqC (f := 56) rfl ?_); refine goesL_ (some 18) rfl rfl Try.func56 (by kernel_rfl) rfl #[.slice (some ad315) l0.length c0, .int .i64 (rd l0 x4_1)] rfl (by (try simp only [List.map_toArray, List.map_cons, List.map_nil]); first | done | rfl | (simp only [List.length_drop, List.length_take]; rfl)) ?_; (with_reducible refine (spileref33_rank.calls k1 _ _ l0 (rd l0 x4_1) t316 _ ?side1 ?side2 A6.out).mono ?_); (case side1 => repeat (first | exact (Kd.C_below HR0.out HB.out) | (with_reducible refine Kd.C_alloc ?_ _) | (with_reducible refine Kd.C_drewN ?_ _) | (with_reducible refine Kd.C_drew ?_))); (case side2 => exact HC0.out); rintro e w' ⟨rfl, ⟨nd, rfl⟩⟩; refine ⟨_, rfl, ?_⟩) | ((with_reducible refine gate_builtin (b := .append) (xs := #[.tmp 12, .tmp 19]) rfl ?_); at_builtin; refine Kd.R_append (Kd.int .i64) (w0 := w) w.heap.size rfl (.tmp 12) (.tmp 19) 27 3 (.int .i64 0) 8 rfl Try.underlying27 info3 rfl (by decide) (by omega) u3 x3_1 t316 [.int .i64 t316] (fun _ => True) (fun _ => False) rfl rfl ?aP (fun _ hk => hk.elim) ?aF ?aO ?aB ?aS ?aL ?_; (case aP => exact rfl); (case aB => exact (by repeat (first | (with_reducible first | exact HB.out | apply lqA | apply lqN | apply lqD) | exact HB.out))); (case aF => exact (fun _ _ => trivial)); (case aO => exact (by (with_reducible repeat (first | apply Kd.R_alloc | apply Kd.R_drewN | apply Kd.R_drew)); exact HO_3.out)); (case aS => exact (lqZ (by repeat (first | (with_reducible first | exact HB.out | apply lqA | apply lqN | apply lqD) | exact HB.out)))); (case aL => have := LMc7.out; omega); intro v318 w8 ho hb hg hat; rw [← Ny317.out] at ho; have n0_ := Aside0.mk (hb); have n1_ := Aside0.mk (ho); clear HB; clear HO_3; have HB := n0_; have HO319 := n1_; clear n0_ n1_; clear ho hb hg hat))
      go_roundg k1
      case measure => have := HK1.out; omega
      case rel => exact ⟨(y317), (wrap64 (x4_1 + 1)), (by first | rfl | (simp; done) | (simp [*]; done)), H', ⟨by have := HK1.out; omega⟩, ⟨by (with_reducible repeat (first | apply Kd.R_alloc | apply Kd.R_drewN | apply Kd.R_drew)); exact HO319.out⟩, ⟨by repeat (first | (with_reducible first | exact HB.out | apply lqA | apply lqN | apply lqD) | exact HB.out)⟩⟩
     ·rw [if_neg c7] at H
      exact absurd H (by simp)
    ·rw [if_neg c5] at H
     exact absurd H (by simp)
   ·rw [if_neg c4] at H
    have c4b0 : decide (x4_1 < (l0.length : Int)) = false := decide_eq_false c4
    clear c4
    obtain rfl := Option.some.inj H
    go_wp2
    go_ret
    exact ⟨_, by first | rfl | (simp [errW_none, errW_some] <;> rfl) | (simp [*, errW_none, errW_some] <;> rfl), by (with_reducible repeat (first | apply Kd.R_alloc | apply Kd.R_drewN | apply Kd.R_drew)); exact HO_3.out, by repeat (first | (with_reducible first | exact HB.out | apply lqA | apply lqN | apply lqD) | exact HB.out)⟩

/-! ### spileref33_Ranks: function 19 -/
def spileref33_Ranks.f (k : Nat) (l0 : List Int) : Option (List Int × Int) := (spileref33_Check.f k l0).bind fun t320 => (if t320 = 0 then ((spileref33_ranks.f k l0).bind fun t321 => (some (t321, 0))) else (some (([] : List Int), t320)))
theorem spileref33_Ranks.mono : ∀ a0 k, LeO (spileref33_Ranks.f k a0) (spileref33_Ranks.f (k + 1) a0) := by
 intro a0 k
 unfold spileref33_Ranks.f
 repeat' first
   | (with_reducible exact spileref33_Check.mono _ _)
   | (with_reducible exact spileref33_ranks.mono _ _)
   | (with_reducible exact LeO.refl _)
   | (with_reducible exact LeO.none _)
   | (with_reducible refine LeO.ite ?_ ?_)
   | (with_reducible refine LeO.bind ?_ (fun _ => ?_))
   | exact spileref33_Check.mono _ _
   | exact spileref33_ranks.mono _ _
   | exact LeO.none _
   | refine LeO.ite ?_ ?_
   | refine LeO.bind ?_ (fun _ => ?_)
set_option maxHeartbeats 8000000 in
set_option maxRecDepth 100000 in
theorem spileref33_Ranks.calls (k : Nat) (A0 : Option Addr) (c0 : Nat) (l0 : List Int) (r1 : List Int) (r2 : Int) (w : World) (hr0 : Kd.C (Kd.int .i64) w A0 l0.length l0) (hc0 : l0.length ≤ c0) (h : spileref33_Ranks.f k l0 = some (r1, r2)) :
  Calls Try.prog 19 #[.slice A0 l0.length c0] w fun e w' => ∃ v0_ : Value, e = .returned (.tuple #[v0_, .int .i64 r2]) ∧ Kd.R (Kd.int .i64) 3 w' w.heap.size (fun _ => True) v0_ r1 ∧ Below w.heap.size w w' := by
 have HR0 := Aside0.mk hr0
 have HC0 := Aside0.mk hc0
 clear hr0 hc0
 have HB := Aside0.mk (Below.refl w.heap.size w)
 have H : ((spileref33_Check.f k l0).bind fun t320 => (if t320 = 0 then ((spileref33_ranks.f k l0).bind fun t321 => (some (t321, 0))) else (some (([] : List Int), t320)))) = some (r1, r2) := h
 clear h
 replace H := Option.bind_eq_some_iff.mp H
 obtain ⟨t320, A20, H⟩ := H
 replace H : (if t320 = 0 then ((spileref33_ranks.f k l0).bind fun t321 => (some (t321, 0))) else (some (([] : List Int), t320))) = some (r1, r2) := H
 have A2 := Aside0.mk A20
 clear A20
 by_cases c3 : t320 = 0
 ·rw [if_pos c3] at H
  have c3b0 : (t320 == 0) = true := beq_iff_eq.mpr c3
  try simp only [beq_self_eq_true, Bool.not_true, Bool.false_or, Bool.true_and] at c3b0
  have c3b1 : (t320 != 0) = false := bne_eq_false_iff_eq.mpr c3
  clear c3
  replace H := Option.bind_eq_some_iff.mp H
  obtain ⟨t321, A40, H⟩ := H
  replace H : (some (t321, 0)) = some (r1, r2) := H
  have A4 := Aside0.mk A40
  clear A40
  simp only [Option.some.injEq, Prod.mk.injEq] at H
  obtain ⟨rfl, rfl⟩ := H
  go_enter Try.func19, Try.ntmps19
  go_wp2_with (first | ((with_reducible refine gqC (f := 40) rfl ?_); refine goesL_ (some 6) rfl rfl Try.func40 (by kernel_rfl) rfl #[.slice A0 l0.length c0] rfl (by (try simp only [List.map_toArray, List.map_cons, List.map_nil]); first | done | rfl | (simp only [List.length_drop, List.length_take]; rfl)) ?_; (with_reducible refine (spileref33_Check.calls k _ _ l0 t320 _ ?side1 ?side2 A2.out).mono ?_); (case side1 => repeat (first | exact HR0.out | (with_reducible refine Kd.C_alloc ?_ _) | (with_reducible refine Kd.C_drewN ?_ _) | (with_reducible refine Kd.C_drew ?_))); (case side2 => exact HC0.out); rintro e w' ⟨rfl, ⟨nd, rfl⟩⟩; refine ⟨_, rfl, ?_⟩) | ((with_reducible refine gqC (f := 43) rfl ?_); refine goesL_ (some 11) rfl rfl Try.func43 (by kernel_rfl) rfl #[.slice A0 l0.length c0] rfl (by (try simp only [List.map_toArray, List.map_cons, List.map_nil]); first | done | rfl | (simp only [List.length_drop, List.length_take]; rfl)) ?_; (with_reducible refine (spileref33_ranks.calls k _ _ l0 t321 _ ?side1 ?side2 A4.out).mono ?_); (case side1 => repeat (first | exact HR0.out | (with_reducible refine Kd.C_alloc ?_ _) | (with_reducible refine Kd.C_drewN ?_ _) | (with_reducible refine Kd.C_drew ?_))); (case side2 => exact HC0.out); rintro e w5 ⟨v322, rfl, ho0, hb⟩; refine ⟨_, rfl, ?_⟩; have n0_ := Aside0.mk (Kd.R_lower ho0 (lqZ (by repeat (first | (with_reducible first | exact HB.out | apply lqA | apply lqN | apply lqD) | exact HB.out)))); have n1_ := Aside0.mk (lqT (by repeat (first | (with_reducible first | exact HB.out | apply lqA | apply lqN | apply lqD) | exact HB.out)) hb); clear HB; have HO323 := n0_; have HB := n1_; clear n0_ n1_; (try clear hb); (try clear hb2); (try clear hk); (try clear hi); (try clear ho0)))
  go_ret2
  exact ⟨_, by first | rfl | (simp [errW_none, errW_some] <;> rfl) | (simp [*, errW_none, errW_some] <;> rfl), by (with_reducible repeat (first | apply Kd.R_alloc | apply Kd.R_drewN | apply Kd.R_drew)); exact HO323.out, by repeat (first | (with_reducible first | exact HB.out | apply lqA | apply lqN | apply lqD) | exact HB.out)⟩
 ·rw [if_neg c3] at H
  have c3b0 : (t320 == 0) = false := beq_eq_false_iff_ne.mpr c3
  try simp only [beq_self_eq_true, Bool.not_true, Bool.false_or, Bool.true_and] at c3b0
  have c3b1 : (t320 != 0) = true := bne_iff_ne.mpr c3
  simp only [Option.some.injEq, Prod.mk.injEq] at H
  obtain ⟨rfl, rfl⟩ := H
  go_enter Try.func19, Try.ntmps19
  go_wp2_with (first | ((with_reducible refine gqC (f := 40) rfl ?_); refine goesL_ (some 6) rfl rfl Try.func40 (by kernel_rfl) rfl #[.slice A0 l0.length c0] rfl (by (try simp only [List.map_toArray, List.map_cons, List.map_nil]); first | done | rfl | (simp only [List.length_drop, List.length_take]; rfl)) ?_; (with_reducible refine (spileref33_Check.calls k _ _ l0 t320 _ ?side1 ?side2 A2.out).mono ?_); (case side1 => repeat (first | exact HR0.out | (with_reducible refine Kd.C_alloc ?_ _) | (with_reducible refine Kd.C_drewN ?_ _) | (with_reducible refine Kd.C_drew ?_))); (case side2 => exact HC0.out); rintro e w' ⟨rfl, ⟨nd, rfl⟩⟩; refine ⟨_, rfl, ?_⟩))
  go_ret2
  exact ⟨_, by first | rfl | (simp [errW_none, errW_some] <;> rfl) | (simp [*, errW_none, errW_some] <;> rfl), by first | exact Kd.R_nil _ _ _ _ _ | exact Kd.N_nil _ _ _ _ _ | exact Kd.V_nil _ _ _ _ _ | exact Kd.Q_nil _ _ _ _ _ | exact Kd.S_nil _ _ _ _ _, by repeat (first | (with_reducible first | exact HB.out | apply lqA | apply lqN | apply lqD) | exact HB.out)⟩

/-! ### spileref33_Rises: function 21 -/
mutual
def spileref33_Rises.l0 : Nat → List Int → Int → Int → Option (Int × Int)
 | 0, _, _, _ => none
 | k + 1, x0, x5, x6 => if x6 < (x0.length : Int) then (spileref33_Rises.l1 k x0 x5 x6 0) else (some (x5, 0))
def spileref33_Rises.l1 : Nat → List Int → Int → Int → Int → Option (Int × Int)
 | 0, _, _, _, _ => none
 | k + 1, x0, x5, x6, x7 => if x7 < x6 then (if 0 ≤ x7 then (if x7 < (x0.length : Int) then (if 0 ≤ x6 then (if x6 < (x0.length : Int) then (if (rd x0 x7) < (rd x0 x6) then (spileref33_Rises.l1 k x0 (wrap64 (x5 + 1)) x6 (wrap64 (x7 + 1))) else (spileref33_Rises.l1 k x0 x5 x6 (wrap64 (x7 + 1)))) else (none)) else (none)) else (none)) else (none)) else (spileref33_Rises.l0 k x0 x5 (wrap64 (x6 + 1)))
end
def spileref33_Rises.f (k : Nat) (l0 : List Int) : Option (Int × Int) := (spileref33_Check.f k l0).bind fun t324 => (if t324 = 0 then (spileref33_Rises.l0 k l0 0 0) else (some (0, t324)))
theorem spileref33_Rises.mono_l : ∀ k, (∀ y0 y1 y2, LeO (spileref33_Rises.l0 k y0 y1 y2) (spileref33_Rises.l0 (k + 1) y0 y1 y2)) ∧ (∀ y0 y1 y2 y3, LeO (spileref33_Rises.l1 k y0 y1 y2 y3) (spileref33_Rises.l1 (k + 1) y0 y1 y2 y3))
 | 0 => ⟨fun _ _ _ r h => by simp [spileref33_Rises.l0] at h, fun _ _ _ _ r h => by simp [spileref33_Rises.l1] at h⟩
 | k + 1 => by
  obtain ⟨ih0, ih1⟩ := spileref33_Rises.mono_l k
  refine ⟨?_, ?_⟩
  ·intro y0 y1 y2
   unfold spileref33_Rises.l0
   repeat' first
   | (with_reducible exact ih0 _ _ _)
   | (with_reducible exact ih1 _ _ _ _)
   | (with_reducible exact spileref33_Check.mono _ _)
   | (with_reducible exact LeO.refl _)
   | (with_reducible exact LeO.none _)
   | (with_reducible refine LeO.ite ?_ ?_)
   | (with_reducible refine LeO.bind ?_ (fun _ => ?_))
   | exact ih0 _ _ _
   | exact ih1 _ _ _ _
   | exact spileref33_Check.mono _ _
   | exact LeO.none _
   | refine LeO.ite ?_ ?_
   | refine LeO.bind ?_ (fun _ => ?_)
  ·intro y0 y1 y2 y3
   unfold spileref33_Rises.l1
   repeat' first
   | (with_reducible exact ih0 _ _ _)
   | (with_reducible exact ih1 _ _ _ _)
   | (with_reducible exact spileref33_Check.mono _ _)
   | (with_reducible exact LeO.refl _)
   | (with_reducible exact LeO.none _)
   | (with_reducible refine LeO.ite ?_ ?_)
   | (with_reducible refine LeO.bind ?_ (fun _ => ?_))
   | exact ih0 _ _ _
   | exact ih1 _ _ _ _
   | exact spileref33_Check.mono _ _
   | exact LeO.none _
   | refine LeO.ite ?_ ?_
   | refine LeO.bind ?_ (fun _ => ?_)
theorem spileref33_Rises.mono : ∀ a0 k, LeO (spileref33_Rises.f k a0) (spileref33_Rises.f (k + 1) a0) := by
 intro a0 k
 obtain ⟨ih0, ih1⟩ := spileref33_Rises.mono_l k
 unfold spileref33_Rises.f
 repeat' first
   | (with_reducible exact ih0 _ _ _)
   | (with_reducible exact ih1 _ _ _ _)
   | (with_reducible exact spileref33_Check.mono _ _)
   | (with_reducible exact LeO.refl _)
   | (with_reducible exact LeO.none _)
   | (with_reducible refine LeO.ite ?_ ?_)
   | (with_reducible refine LeO.bind ?_ (fun _ => ?_))
   | exact ih0 _ _ _
   | exact ih1 _ _ _ _
   | exact spileref33_Check.mono _ _
   | exact LeO.none _
   | refine LeO.ite ?_ ?_
   | refine LeO.bind ?_ (fun _ => ?_)
set_option maxHeartbeats 8000000 in
set_option maxRecDepth 100000 in
theorem spileref33_Rises.calls (k : Nat) (A0 : Option Addr) (c0 : Nat) (l0 : List Int) (r1 : Int) (r2 : Int) (w : World) (hr0 : Kd.C (Kd.int .i64) w A0 l0.length l0) (hc0 : l0.length ≤ c0) (h : spileref33_Rises.f k l0 = some (r1, r2)) :
  Calls Try.prog 21 #[.slice A0 l0.length c0] w fun e w' => e = .returned (.tuple #[.int .i64 r1, .int .i64 r2]) ∧ Drawn0 w w' := by
 have HR0 := Aside0.mk hr0
 have HC0 := Aside0.mk hc0
 clear hr0 hc0
 have H : ((spileref33_Check.f k l0).bind fun t324 => (if t324 = 0 then (spileref33_Rises.l0 k l0 0 0) else (some (0, t324)))) = some (r1, r2) := h
 clear h
 replace H := Option.bind_eq_some_iff.mp H
 obtain ⟨t324, A20, H⟩ := H
 replace H : (if t324 = 0 then (spileref33_Rises.l0 k l0 0 0) else (some (0, t324))) = some (r1, r2) := H
 have A2 := Aside0.mk A20
 clear A20
 by_cases c3 : t324 = 0
 ·rw [if_pos c3] at H
  have c3b0 : (t324 == 0) = true := beq_iff_eq.mpr c3
  try simp only [beq_self_eq_true, Bool.not_true, Bool.false_or, Bool.true_and] at c3b0
  have c3b1 : (t324 != 0) = false := bne_eq_false_iff_eq.mpr c3
  clear c3
  have H' := Aside0.mk H
  clear H
  go_enter Try.func21, Try.ntmps21
  go_wp2_with (first | (go_at_call 40; (with_reducible refine (spileref33_Check.calls k _ _ l0 t324 _ ?side1 ?side2 A2.out).mono ?_); (case side1 => repeat (first | exact HR0.out | (with_reducible refine Kd.C_alloc ?_ _) | (with_reducible refine Kd.C_drewN ?_ _) | (with_reducible refine Kd.C_drew ?_))); (case side2 => exact HC0.out); rintro e w' ⟨rfl, ⟨nd, rfl⟩⟩; (try first | exact ⟨rfl, _, World.drewN_drewN _ _ _⟩ | exact ⟨rfl, _, Eq.trans (World.drewN_drewN _ _ _) (congrArg (World.drewN _) (Nat.add_assoc _ _ _))⟩)))
  repeat (go_quiet (first | (go_at_call 40; (with_reducible refine (spileref33_Check.calls k _ _ l0 t324 _ ?side1 ?side2 A2.out).mono ?_); (case side1 => repeat (first | exact HR0.out | (with_reducible refine Kd.C_alloc ?_ _) | (with_reducible refine Kd.C_drewN ?_ _) | (with_reducible refine Kd.C_drew ?_))); (case side2 => exact HC0.out); rintro e w' ⟨rfl, ⟨nd, rfl⟩⟩; (try first | exact ⟨rfl, _, World.drewN_drewN _ _ _⟩ | exact ⟨rfl, _, Eq.trans (World.drewN_drewN _ _ _) (congrArg (World.drewN _) (Nat.add_assoc _ _ _))⟩))); try go_wp2_with (first | (go_at_call 40; (with_reducible refine (spileref33_Check.calls k _ _ l0 t324 _ ?side1 ?side2 A2.out).mono ?_); (case side1 => repeat (first | exact HR0.out | (with_reducible refine Kd.C_alloc ?_ _) | (with_reducible refine Kd.C_drewN ?_ _) | (with_reducible refine Kd.C_drew ?_))); (case side2 => exact HC0.out); rintro e w' ⟨rfl, ⟨nd, rfl⟩⟩; (try first | exact ⟨rfl, _, World.drewN_drewN _ _ _⟩ | exact ⟨rfl, _, Eq.trans (World.drewN_drewN _ _ _) (congrArg (World.drewN _) (Nat.add_assoc _ _ _))⟩))))
  go_loopg [5, 6] k (fun kq v5 v6 w' => ∃ (x5_1 : Int) (x6_1 : Int), v5 = .int .i64 x5_1 ∧ v6 = .int .i64 x6_1 ∧ Aside0 (spileref33_Rises.l0 kq l0 x5_1 x6_1 = some (r1, r2)) ∧ Aside0 (kq ≤ k) ∧ Drawn0 w w')
  case atStart => exact ⟨(0), (0), (by first | rfl | (simp; done) | (simp [*]; done)), (by first | rfl | (simp; done) | (simp [*]; done)), H', ⟨Nat.le_refl _⟩, by repeat (first | exact Drawn0.refl _ | apply Drawn0.step)⟩
  case round =>
   clear H'
   try clear c2
   try clear p2
   try clear c3
   try clear c3b0
   try clear c3b1
   obtain ⟨x5_1, x6_1, rfl, rfl, HA, HK1, ⟨m1, rfl⟩⟩ := hrel
   cases gk with
   | zero => exact absurd HA.out (by simp [spileref33_Rises.l0])
   | succ k1 =>
    have H := HA.out
    clear HA
    simp only [spileref33_Rises.l0] at H
    by_cases c4 : x6_1 < (l0.length : Int)
    ·rw [if_pos c4] at H
     have c4b0 : decide (x6_1 < (l0.length : Int)) = true := decide_eq_true c4
     clear c4
     have H' := Aside0.mk H
     clear H
     go_wp2
     repeat (go_quiet (fail); try go_wp2)
     go_loopg [5, 7] k1 (fun kq v5 v7 w' => ∃ (x5_2 : Int) (x7_2 : Int), v5 = .int .i64 x5_2 ∧ v7 = .int .i64 x7_2 ∧ Aside0 (spileref33_Rises.l1 kq l0 x5_2 x6_1 x7_2 = some (r1, r2)) ∧ Aside0 (kq ≤ k1) ∧ Drawn0 w w')
     case atStart => exact ⟨(x5_1), (0), (by first | rfl | (simp; done) | (simp [*]; done)), (by first | rfl | (simp; done) | (simp [*]; done)), H', ⟨Nat.le_refl _⟩, by repeat (first | exact Drawn0.refl _ | apply Drawn0.step)⟩
     case round =>
      clear H'
      try clear c2
      try clear p2
      try clear c3
      try clear c3b0
      try clear c3b1
      try clear c4
      try clear c4b0
      try clear p2
      obtain ⟨x5_2, x7_2, rfl, rfl, HA, HK2, ⟨m2, rfl⟩⟩ := hrel
      cases gk with
      | zero => exact absurd HA.out (by simp [spileref33_Rises.l1])
      | succ k2 =>
       have H := HA.out
       clear HA
       simp only [spileref33_Rises.l1] at H
       by_cases c5 : x7_2 < x6_1
       ·rw [if_pos c5] at H
        have c5b0 : decide (x7_2 < x6_1) = true := decide_eq_true c5
        clear c5
        by_cases c6 : 0 ≤ x7_2
        ·rw [if_pos c6] at H
         have c6b0 : decide (0 ≤ x7_2) = true := decide_eq_true c6
         clear c6
         by_cases c7 : x7_2 < (l0.length : Int)
         ·rw [if_pos c7] at H
          have c7b0 : decide (x7_2 < (l0.length : Int)) = true := decide_eq_true c7
          clear c7
          by_cases c8 : 0 ≤ x6_1
          ·rw [if_pos c8] at H
           have c8b0 : decide (0 ≤ x6_1) = true := decide_eq_true c8
           clear c8
           by_cases c9 : x6_1 < (l0.length : Int)
           ·rw [if_pos c9] at H
            have c9b0 : decide (x6_1 < (l0.length : Int)) = true := decide_eq_true c9
            clear c9
            by_cases c10 : (rd l0 x7_2) < (rd l0 x6_1)
            ·rw [if_pos c10] at H
             have c10b0 : decide ((rd l0 x7_2) < (rd l0 x6_1)) = true := decide_eq_true c10
             clear c10
             have H' := Aside0.mk H
             clear H
             have p325 : 0 ≤ (x7_2 : Int) := of_decide_eq_true (by first | (with_reducible assumption) | assumption)
             have q325 : x7_2 < (l0.length : Int) := of_decide_eq_true (by first | (with_reducible assumption) | assumption)
             obtain ⟨ad325, e325, hx325_0⟩ := Kd.at_int HR0.out x7_2 p325 q325
             cases e325
             replace p325 := eq_true p325
             replace q325 := eq_true q325
             have p326 : 0 ≤ (x6_1 : Int) := of_decide_eq_true (by first | (with_reducible assumption) | assumption)
             have q326 : x6_1 < (l0.length : Int) := of_decide_eq_true (by first | (with_reducible assumption) | assumption)
             obtain ⟨ad326, e326, hx326_0⟩ := Kd.at_int HR0.out x6_1 p326 q326
             obtain rfl : ad325 = ad326 := (by injection e326)
             replace p326 := eq_true p326
             replace q326 := eq_true q326
             go_wp2
             repeat (go_quiet (fail); try go_wp2)
             go_roundg k2
             case measure => have := HK1.out; have := HK2.out; omega
             case rel => exact ⟨(wrap64 (x5_2 + 1)), (wrap64 (x7_2 + 1)), (by first | rfl | (simp; done) | (simp [*]; done)), (by first | rfl | (simp; done) | (simp [*]; done)), H', ⟨by have := HK1.out; have := HK2.out; omega⟩, by repeat (first | exact Drawn0.refl _ | apply Drawn0.step)⟩
            ·rw [if_neg c10] at H
             have c10b0 : decide ((rd l0 x7_2) < (rd l0 x6_1)) = false := decide_eq_false c10
             clear c10
             have H' := Aside0.mk H
             clear H
             have p325 : 0 ≤ (x7_2 : Int) := of_decide_eq_true (by first | (with_reducible assumption) | assumption)
             have q325 : x7_2 < (l0.length : Int) := of_decide_eq_true (by first | (with_reducible assumption) | assumption)
             obtain ⟨ad325, e325, hx325_0⟩ := Kd.at_int HR0.out x7_2 p325 q325
             cases e325
             replace p325 := eq_true p325
             replace q325 := eq_true q325
             have p326 : 0 ≤ (x6_1 : Int) := of_decide_eq_true (by first | (with_reducible assumption) | assumption)
             have q326 : x6_1 < (l0.length : Int) := of_decide_eq_true (by first | (with_reducible assumption) | assumption)
             obtain ⟨ad326, e326, hx326_0⟩ := Kd.at_int HR0.out x6_1 p326 q326
             obtain rfl : ad325 = ad326 := (by injection e326)
             replace p326 := eq_true p326
             replace q326 := eq_true q326
             go_wp2
             repeat (go_quiet (fail); try go_wp2)
             go_roundg k2
             case measure => have := HK1.out; have := HK2.out; omega
             case rel => exact ⟨(x5_2), (wrap64 (x7_2 + 1)), (by first | rfl | (simp; done) | (simp [*]; done)), (by first | rfl | (simp; done) | (simp [*]; done)), H', ⟨by have := HK1.out; have := HK2.out; omega⟩, by repeat (first | exact Drawn0.refl _ | apply Drawn0.step)⟩
           ·rw [if_neg c9] at H
            exact absurd H (by simp)
          ·rw [if_neg c8] at H
           exact absurd H (by simp)
         ·rw [if_neg c7] at H
          exact absurd H (by simp)
        ·rw [if_neg c6] at H
         exact absurd H (by simp)
       ·rw [if_neg c5] at H
        have c5b0 : decide (x7_2 < x6_1) = false := decide_eq_false c5
        clear c5
        have H' := Aside0.mk H
        clear H
        go_wp2
        repeat (go_quiet (fail); try go_wp2)
        go_roundg k2
        case measure => have := HK1.out; have := HK2.out; omega
        case rel => exact ⟨(x5_2), (wrap64 (x6_1 + 1)), (by first | rfl | (simp; done) | (simp [*]; done)), (by first | rfl | (simp; done) | (simp [*]; done)), H', ⟨by have := HK1.out; have := HK2.out; omega⟩, by repeat (first | exact Drawn0.refl _ | apply Drawn0.step)⟩
    ·rw [if_neg c4] at H
     have c4b0 : decide (x6_1 < (l0.length : Int)) = false := decide_eq_false c4
     clear c4
     simp only [Option.some.injEq, Prod.mk.injEq] at H
     obtain ⟨rfl, rfl⟩ := H
     go_wp2
     repeat (go_quiet (fail); try go_wp2)
     go_ret2
     exact ⟨by first | rfl | (simp; done) | (simp [*]; done), by repeat (first | exact Drawn0.refl _ | apply Drawn0.step)⟩
 ·rw [if_neg c3] at H
  have c3b0 : (t324 == 0) = false := beq_eq_false_iff_ne.mpr c3
  try simp only [beq_self_eq_true, Bool.not_true, Bool.false_or, Bool.true_and] at c3b0
  have c3b1 : (t324 != 0) = true := bne_iff_ne.mpr c3
  simp only [Option.some.injEq, Prod.mk.injEq] at H
  obtain ⟨rfl, rfl⟩ := H
  go_enter Try.func21, Try.ntmps21
  go_wp2_with (first | (go_at_call 40; (with_reducible refine (spileref33_Check.calls k _ _ l0 t324 _ ?side1 ?side2 A2.out).mono ?_); (case side1 => repeat (first | exact HR0.out | (with_reducible refine Kd.C_alloc ?_ _) | (with_reducible refine Kd.C_drewN ?_ _) | (with_reducible refine Kd.C_drew ?_))); (case side2 => exact HC0.out); rintro e w' ⟨rfl, ⟨nd, rfl⟩⟩; (try first | exact ⟨rfl, _, World.drewN_drewN _ _ _⟩ | exact ⟨rfl, _, Eq.trans (World.drewN_drewN _ _ _) (congrArg (World.drewN _) (Nat.add_assoc _ _ _))⟩)))
  repeat (go_quiet (first | (go_at_call 40; (with_reducible refine (spileref33_Check.calls k _ _ l0 t324 _ ?side1 ?side2 A2.out).mono ?_); (case side1 => repeat (first | exact HR0.out | (with_reducible refine Kd.C_alloc ?_ _) | (with_reducible refine Kd.C_drewN ?_ _) | (with_reducible refine Kd.C_drew ?_))); (case side2 => exact HC0.out); rintro e w' ⟨rfl, ⟨nd, rfl⟩⟩; (try first | exact ⟨rfl, _, World.drewN_drewN _ _ _⟩ | exact ⟨rfl, _, Eq.trans (World.drewN_drewN _ _ _) (congrArg (World.drewN _) (Nat.add_assoc _ _ _))⟩))); try go_wp2_with (first | (go_at_call 40; (with_reducible refine (spileref33_Check.calls k _ _ l0 t324 _ ?side1 ?side2 A2.out).mono ?_); (case side1 => repeat (first | exact HR0.out | (with_reducible refine Kd.C_alloc ?_ _) | (with_reducible refine Kd.C_drewN ?_ _) | (with_reducible refine Kd.C_drew ?_))); (case side2 => exact HC0.out); rintro e w' ⟨rfl, ⟨nd, rfl⟩⟩; (try first | exact ⟨rfl, _, World.drewN_drewN _ _ _⟩ | exact ⟨rfl, _, Eq.trans (World.drewN_drewN _ _ _) (congrArg (World.drewN _) (Nat.add_assoc _ _ _))⟩))))
  go_ret2
  exact ⟨by first | rfl | (simp; done) | (simp [*]; done), by repeat (first | exact Drawn0.refl _ | apply Drawn0.step)⟩

end Go.Proofs.Ytbkoghmbacdiiaa.K
