-- PRINTED by print.py (a twelfth state) out of the translation. Not trusted: Lean checks it.
import Derived.Test.YtfafeeobjlkjnaaK0
import Derived.Test.YtfafeeobjlkjnaaGShort
import Derived.Test.YtfafeeobjlkjnaaK3
import Derived.Test.YtfafeeobjlkjnaaGClone
import Derived.Test.YtfafeeobjlkjnaaGNet
namespace Go.Proofs.Ytfafeeobjlkjnaa.K
open Go.RowKit Go.Proofs.YtfafeeobjlkjnaaW.PrintWords Go.Proofs.YtfafeeobjlkjnaaW.PrintLast Go.Proofs.YtfafeeobjlkjnaaW.PrintMore
attribute [local go_sem] max2_int min2_int max_two min_two max_three min_three max_four min_four   -- for this text's walks alone
set_option linter.unusedVariables false
set_option linter.unusedSimpArgs false

-- GIVEN: function 45 (network_Check)

/-! ### sender_Check: function 17 -/
mutual
def sender_Check.j0 : Nat → Bool → Int → Int → List (S33) → Option (Int)
 | 0, _, _, _, _ => none
 | k + 1, x7, x109000, x109001, x109002 => if x7 = true then (some 2) else (if (x109002.length : Int) > 64 then (some 8) else (sender_Check.l0 k x109002 (x109002.length : Int) 0 x109000 x109001 x109002))
def sender_Check.l0 : Nat → List (S33) → Int → Int → Int → Int → List (S33) → Option (Int)
 | 0, _, _, _, _, _, _ => none
 | k + 1, x28, x29, x30, x109000, x109001, x109002 => if x30 < x29 then (if 0 ≤ x30 then (if x30 < (x28.length : Int) then ((network_Check.f k (([(⟨(rd_T33 x28 x30).f0, (rd_T33 x28 x30).f1, (rd_T33 x28 x30).f2, (⟨(rd_T33 x28 x30).f3.f0, (rd_T33 x28 x30).f3.f1, (rd_T33 x28 x30).f3.f2, (rd_T33 x28 x30).f3.f3, (rd_T33 x28 x30).f3.f4, (rd_T33 x28 x30).f3.f5, (rd_T33 x28 x30).f3.f6⟩ : S26)⟩ : S33)] : List (S33)))).bind fun bt115 => (if bt115.2 = 0 then (if ((rd_T33 x28 x30).f0) = x109000 then (if x30 > 0 then (if 0 ≤ (wrap64 (x30 - 1)) then (if (wrap64 (x30 - 1)) < (x109002.length : Int) then (if ((rd_T33 x28 x30).f2) ≤ ((rd_T33 x109002 (wrap64 (x30 - 1))).f2) then (sender_Check.j2 k x28 x29 x30 true x109000 x109001 x109002) else (sender_Check.j2 k x28 x29 x30 (decide (((rd_T33 x28 x30).f2) ≥ x109001)) x109000 x109001 x109002)) else (none)) else (none)) else (sender_Check.j2 k x28 x29 x30 (decide (((rd_T33 x28 x30).f2) ≥ x109001)) x109000 x109001 x109002)) else (some 10)) else (some bt115.2))) else (none)) else (none)) else (some 0)
def sender_Check.j2 : Nat → List (S33) → Int → Int → Bool → Int → Int → List (S33) → Option (Int)
 | 0, _, _, _, _, _, _, _ => none
 | k + 1, x28, x29, x30, x51, x109000, x109001, x109002 => if x51 = true then (some 5) else (sender_Check.l0 k x28 x29 (wrap64 (x30 + 1)) x109000 x109001 x109002)
end
def sender_Check.f (k : Nat) (a0_0 : Int) (a0_1 : Int) (l0_2 : List (S33)) : Option (Int) := (sender_node.f a0_0).bind fun t109 => (if t109 = true then (if a0_1 < 1 then (sender_Check.j0 k true a0_0 a0_1 l0_2) else (sender_Check.j0 k (decide (a0_1 > 1073741825)) a0_0 a0_1 l0_2)) else (sender_Check.j0 k true a0_0 a0_1 l0_2))
theorem sender_Check.mono_l : ∀ k, (∀ y0 y1 y2 y3, LeO (sender_Check.j0 k y0 y1 y2 y3) (sender_Check.j0 (k + 1) y0 y1 y2 y3)) ∧ (∀ y0 y1 y2 y3 y4 y5, LeO (sender_Check.l0 k y0 y1 y2 y3 y4 y5) (sender_Check.l0 (k + 1) y0 y1 y2 y3 y4 y5)) ∧ (∀ y0 y1 y2 y3 y4 y5 y6, LeO (sender_Check.j2 k y0 y1 y2 y3 y4 y5 y6) (sender_Check.j2 (k + 1) y0 y1 y2 y3 y4 y5 y6))
 | 0 => ⟨fun _ _ _ _ r h => by simp [sender_Check.j0] at h, fun _ _ _ _ _ _ r h => by simp [sender_Check.l0] at h, fun _ _ _ _ _ _ _ r h => by simp [sender_Check.j2] at h⟩
 | k + 1 => by
  obtain ⟨ih0, ih1, ih2⟩ := sender_Check.mono_l k
  refine ⟨?_, ?_, ?_⟩
  ·intro y0 y1 y2 y3
   unfold sender_Check.j0
   repeat' first
   | (with_reducible exact ih0 _ _ _ _)
   | (with_reducible exact ih1 _ _ _ _ _ _)
   | (with_reducible exact ih2 _ _ _ _ _ _ _)
   | (with_reducible exact network_Check.mono _ _)
   | (with_reducible exact LeO.refl _)
   | (with_reducible exact LeO.none _)
   | (with_reducible refine LeO.ite ?_ ?_)
   | (with_reducible refine LeO.bind ?_ (fun _ => ?_))
   | exact ih0 _ _ _ _
   | exact ih1 _ _ _ _ _ _
   | exact ih2 _ _ _ _ _ _ _
   | exact network_Check.mono _ _
   | exact LeO.none _
   | refine LeO.ite ?_ ?_
   | refine LeO.bind ?_ (fun _ => ?_)
  ·intro y0 y1 y2 y3 y4 y5
   unfold sender_Check.l0
   repeat' first
   | (with_reducible exact ih0 _ _ _ _)
   | (with_reducible exact ih1 _ _ _ _ _ _)
   | (with_reducible exact ih2 _ _ _ _ _ _ _)
   | (with_reducible exact network_Check.mono _ _)
   | (with_reducible exact LeO.refl _)
   | (with_reducible exact LeO.none _)
   | (with_reducible refine LeO.ite ?_ ?_)
   | (with_reducible refine LeO.bind ?_ (fun _ => ?_))
   | exact ih0 _ _ _ _
   | exact ih1 _ _ _ _ _ _
   | exact ih2 _ _ _ _ _ _ _
   | exact network_Check.mono _ _
   | exact LeO.none _
   | refine LeO.ite ?_ ?_
   | refine LeO.bind ?_ (fun _ => ?_)
  ·intro y0 y1 y2 y3 y4 y5 y6
   unfold sender_Check.j2
   repeat' first
   | (with_reducible exact ih0 _ _ _ _)
   | (with_reducible exact ih1 _ _ _ _ _ _)
   | (with_reducible exact ih2 _ _ _ _ _ _ _)
   | (with_reducible exact network_Check.mono _ _)
   | (with_reducible exact LeO.refl _)
   | (with_reducible exact LeO.none _)
   | (with_reducible refine LeO.ite ?_ ?_)
   | (with_reducible refine LeO.bind ?_ (fun _ => ?_))
   | exact ih0 _ _ _ _
   | exact ih1 _ _ _ _ _ _
   | exact ih2 _ _ _ _ _ _ _
   | exact network_Check.mono _ _
   | exact LeO.none _
   | refine LeO.ite ?_ ?_
   | refine LeO.bind ?_ (fun _ => ?_)
theorem sender_Check.mono : ∀ a0 a1 a2 k, LeO (sender_Check.f k a0 a1 a2) (sender_Check.f (k + 1) a0 a1 a2) := by
 intro a0 a1 a2 k
 obtain ⟨ih0, ih1, ih2⟩ := sender_Check.mono_l k
 unfold sender_Check.f
 repeat' first
   | (with_reducible exact ih0 _ _ _ _)
   | (with_reducible exact ih1 _ _ _ _ _ _)
   | (with_reducible exact ih2 _ _ _ _ _ _ _)
   | (with_reducible exact network_Check.mono _ _)
   | (with_reducible exact LeO.refl _)
   | (with_reducible exact LeO.none _)
   | (with_reducible refine LeO.ite ?_ ?_)
   | (with_reducible refine LeO.bind ?_ (fun _ => ?_))
   | exact ih0 _ _ _ _
   | exact ih1 _ _ _ _ _ _
   | exact ih2 _ _ _ _ _ _ _
   | exact network_Check.mono _ _
   | exact LeO.none _
   | refine LeO.ite ?_ ?_
   | refine LeO.bind ?_ (fun _ => ?_)
set_option maxHeartbeats 8000000 in
set_option maxRecDepth 100000 in
theorem sender_Check.calls (k : Nat) (a0_0 : Int) (a0_1 : Int) (A0_2 : Option Addr) (c0_2 : Nat) (l0_2 : List (S33)) (r : Int) (w : World) (hr0_2 : Kd.C k33 w A0_2 l0_2.length l0_2) (hc0_2 : l0_2.length ≤ c0_2) (h : sender_Check.f k a0_0 a0_1 l0_2 = some r) :
  Calls Try.prog 17 #[.agg #[.int .i64 a0_0, .int .i64 a0_1, .slice A0_2 l0_2.length c0_2]] w fun e w' => e = .returned (.int .i64 r) ∧ Below w.heap.size w w' := by
 have hu24 := Try.underlying24
 have hu33 := Try.underlying33
 have HR0_2 := Aside0.mk hr0_2
 have HC0_2 := Aside0.mk hc0_2
 clear hr0_2 hc0_2
 have HB := Aside0.mk (Below.refl w.heap.size w)
 have H : ((sender_node.f a0_0).bind fun t109 => (if t109 = true then (if a0_1 < 1 then (sender_Check.j0 k true a0_0 a0_1 l0_2) else (sender_Check.j0 k (decide (a0_1 > 1073741825)) a0_0 a0_1 l0_2)) else (sender_Check.j0 k true a0_0 a0_1 l0_2))) = some r := h
 clear h
 have HC2 := Aside0.mk H
 clear H
 go_enter Try.func17, Try.ntmps17
 go_upto_region 1 with (first | ((with_reducible refine gqD (N := 1) rfl ?_); refine GS.bx (N := 1) (cs := #[.int .i64 a0_0, .int .i64 a0_1, .slice A0_2 l0_2.length c0_2]) (t := 24) ?_; intro gb108 hg w3 hbox hb; have n0_ := Aside0.mk (lqT (GS.lB HB.out) hb); have n1_ := Aside0.mk (hbox); have n2_ := Aside0.mk ((by rw [hg]; exact (lqZ (GS.lB HB.out)) : w.heap.size ≤ gb108)); have n3_ := Aside0.mk ((by rw [hg]; exact (lqZ (GS.lB HB.out)) : w.heap.size ≤ gb108)); clear HB; have HB := n0_; have BK108 := n1_; have GW108 := n2_; have GE108 := n3_; clear n0_ n1_ n2_ n3_; clear hb hbox hg))
 repeat (go_quiet (first | ((with_reducible refine gqD (N := 1) rfl ?_); refine GS.bx (N := 1) (cs := #[.int .i64 a0_0, .int .i64 a0_1, .slice A0_2 l0_2.length c0_2]) (t := 24) ?_; intro gb108 hg w3 hbox hb; have n0_ := Aside0.mk (lqT (GS.lB HB.out) hb); have n1_ := Aside0.mk (hbox); have n2_ := Aside0.mk ((by rw [hg]; exact (lqZ (GS.lB HB.out)) : w.heap.size ≤ gb108)); have n3_ := Aside0.mk ((by rw [hg]; exact (lqZ (GS.lB HB.out)) : w.heap.size ≤ gb108)); clear HB; have HB := n0_; have BK108 := n1_; have GW108 := n2_; have GE108 := n3_; clear n0_ n1_ n2_ n3_; clear hb hbox hg)); go_upto_region 1 with (first | ((with_reducible refine gqD (N := 1) rfl ?_); refine GS.bx (N := 1) (cs := #[.int .i64 a0_0, .int .i64 a0_1, .slice A0_2 l0_2.length c0_2]) (t := 24) ?_; intro gb108 hg w3 hbox hb; have n0_ := Aside0.mk (lqT (GS.lB HB.out) hb); have n1_ := Aside0.mk (hbox); have n2_ := Aside0.mk ((by rw [hg]; exact (lqZ (GS.lB HB.out)) : w.heap.size ≤ gb108)); have n3_ := Aside0.mk ((by rw [hg]; exact (lqZ (GS.lB HB.out)) : w.heap.size ≤ gb108)); clear HB; have HB := n0_; have BK108 := n1_; have GW108 := n2_; have GE108 := n3_; clear n0_ n1_ n2_ n3_; clear hb hbox hg)))
 (try simp only [Act.put, List.setIfInBounds_toArray, List.set_cons_zero, List.set_cons_succ])
 go_cut [7] (fun v7 wc => ∃ (kq : Nat) (x7_1 : Bool), v7 = .bool x7_1 ∧ Aside0 (sender_Check.j0 kq x7_1 a0_0 a0_1 l0_2 = some r) ∧ Aside0 (kq ≤ k) ∧ Aside0 (wc.heap[gb108]? = some (.cells #[.int .i64 a0_0, .int .i64 a0_1, (.slice A0_2 l0_2.length c0_2)] 24 (0, 0))) ∧ Aside0 (Below w.heap.size w wc))
 case first =>
  have H := HC2.out
  clear HC2
  replace H := Option.bind_eq_some_iff.mp H
  obtain ⟨t109, A40, H⟩ := H
  replace H : (if t109 = true then (if a0_1 < 1 then (sender_Check.j0 k true a0_0 a0_1 l0_2) else (sender_Check.j0 k (decide (a0_1 > 1073741825)) a0_0 a0_1 l0_2)) else (sender_Check.j0 k true a0_0 a0_1 l0_2)) = some r := H
  have A4 := Aside0.mk A40
  clear A40
  by_cases c5 : t109 = true
  ·subst c5
   have H1 : (if a0_1 < 1 then (sender_Check.j0 k true a0_0 a0_1 l0_2) else (sender_Check.j0 k (decide (a0_1 > 1073741825)) a0_0 a0_1 l0_2)) = some r := by rw [if_pos rfl] at H; exact H
   clear H
   have H := H1
   clear H1
   by_cases c6 : a0_1 < 1
   ·rw [if_pos c6] at H
    have c6b0 : decide (a0_1 < 1) = true := decide_eq_true c6
    clear c6
    (first | rw [c6b0] | (simp only [i64_w, i32_w]; rw [c6b0]) | skip)
    have H' := Aside0.mk H
    clear H
    obtain ⟨hcz7_0, hcz7_1, hcz7_2, hfz7_0, hfz7_1, hfz7_2⟩ := GS.c3 BK108.out
    go_wp2_with (first | (go_at_call 40; (with_reducible refine (sender_node.calls a0_0 true _ A4.out).mono ?_); rintro e w' ⟨rfl, ⟨nd, rfl⟩⟩; (try first | exact ⟨rfl, _, World.drewN_drewN _ _ _⟩ | exact ⟨rfl, _, Eq.trans (World.drewN_drewN _ _ _) (congrArg (World.drewN _) (Nat.add_assoc _ _ _))⟩)))
    repeat (go_quiet (first | (go_at_call 40; (with_reducible refine (sender_node.calls a0_0 true _ A4.out).mono ?_); rintro e w' ⟨rfl, ⟨nd, rfl⟩⟩; (try first | exact ⟨rfl, _, World.drewN_drewN _ _ _⟩ | exact ⟨rfl, _, Eq.trans (World.drewN_drewN _ _ _) (congrArg (World.drewN _) (Nat.add_assoc _ _ _))⟩))); try go_wp2_with (first | (go_at_call 40; (with_reducible refine (sender_node.calls a0_0 true _ A4.out).mono ?_); rintro e w' ⟨rfl, ⟨nd, rfl⟩⟩; (try first | exact ⟨rfl, _, World.drewN_drewN _ _ _⟩ | exact ⟨rfl, _, Eq.trans (World.drewN_drewN _ _ _) (congrArg (World.drewN _) (Nat.add_assoc _ _ _))⟩))))
    go_meet
    case rel => exact ⟨_, (true), (by first | rfl | (simp; done) | (simp [*]; done)), H', ⟨by first | omega | exact Nat.le_refl _⟩, ⟨GS.bqX BK108.out⟩, ⟨GS.lB HB.out⟩⟩
   ·rw [if_neg c6] at H
    have c6b0 : decide (a0_1 < 1) = false := decide_eq_false c6
    clear c6
    (first | rw [c6b0] | (simp only [i64_w, i32_w]; rw [c6b0]) | skip)
    have H' := Aside0.mk H
    clear H
    obtain ⟨hcz8_0, hcz8_1, hcz8_2, hfz8_0, hfz8_1, hfz8_2⟩ := GS.c3 BK108.out
    go_wp2_with (first | (go_at_call 40; (with_reducible refine (sender_node.calls a0_0 true _ A4.out).mono ?_); rintro e w' ⟨rfl, ⟨nd, rfl⟩⟩; (try first | exact ⟨rfl, _, World.drewN_drewN _ _ _⟩ | exact ⟨rfl, _, Eq.trans (World.drewN_drewN _ _ _) (congrArg (World.drewN _) (Nat.add_assoc _ _ _))⟩)))
    repeat (go_quiet (first | (go_at_call 40; (with_reducible refine (sender_node.calls a0_0 true _ A4.out).mono ?_); rintro e w' ⟨rfl, ⟨nd, rfl⟩⟩; (try first | exact ⟨rfl, _, World.drewN_drewN _ _ _⟩ | exact ⟨rfl, _, Eq.trans (World.drewN_drewN _ _ _) (congrArg (World.drewN _) (Nat.add_assoc _ _ _))⟩))); try go_wp2_with (first | (go_at_call 40; (with_reducible refine (sender_node.calls a0_0 true _ A4.out).mono ?_); rintro e w' ⟨rfl, ⟨nd, rfl⟩⟩; (try first | exact ⟨rfl, _, World.drewN_drewN _ _ _⟩ | exact ⟨rfl, _, Eq.trans (World.drewN_drewN _ _ _) (congrArg (World.drewN _) (Nat.add_assoc _ _ _))⟩))))
    go_meet
    case rel => exact ⟨_, (decide (a0_1 > 1073741825)), (by first | rfl | (simp; done) | (simp [*]; done)), H', ⟨by first | omega | exact Nat.le_refl _⟩, ⟨GS.bqX BK108.out⟩, ⟨GS.lB HB.out⟩⟩
  ·replace c5 := Bool.eq_false_iff.mpr c5
   subst c5
   have H1 : (sender_Check.j0 k true a0_0 a0_1 l0_2) = some r := by rw [if_neg (show ¬ (false = true) by decide)] at H; exact H
   clear H
   have H := H1
   clear H1
   have H' := Aside0.mk H
   clear H
   obtain ⟨hcz9_0, hcz9_1, hcz9_2, hfz9_0, hfz9_1, hfz9_2⟩ := GS.c3 BK108.out
   go_wp2_with (first | (go_at_call 40; (with_reducible refine (sender_node.calls a0_0 false _ A4.out).mono ?_); rintro e w' ⟨rfl, ⟨nd, rfl⟩⟩; (try first | exact ⟨rfl, _, World.drewN_drewN _ _ _⟩ | exact ⟨rfl, _, Eq.trans (World.drewN_drewN _ _ _) (congrArg (World.drewN _) (Nat.add_assoc _ _ _))⟩)))
   repeat (go_quiet (first | (go_at_call 40; (with_reducible refine (sender_node.calls a0_0 false _ A4.out).mono ?_); rintro e w' ⟨rfl, ⟨nd, rfl⟩⟩; (try first | exact ⟨rfl, _, World.drewN_drewN _ _ _⟩ | exact ⟨rfl, _, Eq.trans (World.drewN_drewN _ _ _) (congrArg (World.drewN _) (Nat.add_assoc _ _ _))⟩))); try go_wp2_with (first | (go_at_call 40; (with_reducible refine (sender_node.calls a0_0 false _ A4.out).mono ?_); rintro e w' ⟨rfl, ⟨nd, rfl⟩⟩; (try first | exact ⟨rfl, _, World.drewN_drewN _ _ _⟩ | exact ⟨rfl, _, Eq.trans (World.drewN_drewN _ _ _) (congrArg (World.drewN _) (Nat.add_assoc _ _ _))⟩))))
   go_meet
   case rel => exact ⟨_, (true), (by first | rfl | (simp; done) | (simp [*]; done)), H', ⟨by first | omega | exact Nat.le_refl _⟩, ⟨GS.bqX BK108.out⟩, ⟨GS.lB HB.out⟩⟩
 case rest =>
  clear HC2
  try clear c1
  try clear p2
  try clear c5
  try clear c6
  try clear c6b0
  try clear hcz7_0
  try clear hcz7_1
  try clear hcz7_2
  try clear hcz8_0
  try clear hcz8_1
  try clear hcz8_2
  try clear hcz9_0
  try clear hcz9_1
  try clear hcz9_2
  try clear hfz7_0
  try clear hfz7_1
  try clear hfz7_2
  try clear hfz8_0
  try clear hfz8_1
  try clear hfz8_2
  try clear hfz9_0
  try clear hfz9_1
  try clear hfz9_2
  obtain ⟨kq, x7_1, rfl, HA, HJ1, BK108, HB⟩ := hcut
  cases kq with
  | zero => exact absurd HA.out (by simp [sender_Check.j0])
  | succ kj1 =>
   have H := HA.out
   clear HA
   simp only [sender_Check.j0] at H
   by_cases c10 : x7_1 = true
   ·subst c10
    have H1 : (some 2) = some r := by rw [if_pos rfl] at H; exact H
    clear H
    have H := H1
    clear H1
    obtain rfl := Option.some.inj H
    go_wp2
    repeat (go_quiet (fail); try go_wp2)
    go_ret
    exact ⟨by first | rfl | (simp [errW_none, errW_some] <;> rfl) | (simp [*, errW_none, errW_some] <;> rfl), GS.lB HB.out⟩
   ·replace c10 := Bool.eq_false_iff.mpr c10
    subst c10
    have H1 : (if (l0_2.length : Int) > 64 then (some 8) else (sender_Check.l0 kj1 l0_2 (l0_2.length : Int) 0 a0_0 a0_1 l0_2)) = some r := by rw [if_neg (show ¬ (false = true) by decide)] at H; exact H
    clear H
    have H := H1
    clear H1
    by_cases c11 : (l0_2.length : Int) > 64
    ·rw [if_pos c11] at H
     have c11b0 : decide (64 < (l0_2.length : Int)) = true := decide_eq_true c11
     have c11b1 : decide (64 < l0_2.length) = true := decide_eq_true (by omega)
     clear c11
     obtain rfl := Option.some.inj H
     obtain ⟨hcz12_0, hcz12_1, hcz12_2, hfz12_0, hfz12_1, hfz12_2⟩ := GS.c3 BK108.out
     go_wp2
     repeat (go_quiet (fail); try go_wp2)
     go_ret
     exact ⟨by first | rfl | (simp [errW_none, errW_some] <;> rfl) | (simp [*, errW_none, errW_some] <;> rfl), GS.lB HB.out⟩
    ·rw [if_neg c11] at H
     have c11b0 : decide (64 < (l0_2.length : Int)) = false := decide_eq_false c11
     have c11b1 : decide (64 < l0_2.length) = false := decide_eq_false (by omega)
     clear c11
     have H' := Aside0.mk H
     clear H
     obtain ⟨hcz13_0, hcz13_1, hcz13_2, hfz13_0, hfz13_1, hfz13_2⟩ := GS.c3 BK108.out
     go_wp2
     repeat (go_quiet (fail); try go_wp2)
     go_loopg [30] kj1 (fun kq v30 w' => ∃ (x30_2 : Int), v30 = .int .i64 x30_2 ∧ Aside0 (sender_Check.l0 kq l0_2 (l0_2.length : Int) x30_2 a0_0 a0_1 l0_2 = some r) ∧ Aside0 (kq ≤ kj1) ∧ Aside0 (w'.heap[gb108]? = some (.cells #[.int .i64 a0_0, .int .i64 a0_1, (.slice A0_2 l0_2.length c0_2)] 24 (0, 0))) ∧ Aside0 (Below w.heap.size w w'))
     case atStart => exact ⟨(0), (by first | rfl | (simp; done) | (simp [*]; done)), H', ⟨Nat.le_refl _⟩, ⟨GS.bqX BK108.out⟩, ⟨GS.lB HB.out⟩⟩
     case round =>
      clear H'
      try clear c1
      try clear p2
      try clear c5
      try clear c6
      try clear c6b0
      try clear c10
      try clear c11
      try clear c11b0
      try clear c11b1
      try clear hcz12_0
      try clear hcz12_1
      try clear hcz12_2
      try clear hcz13_0
      try clear hcz13_1
      try clear hcz13_2
      try clear hcz7_0
      try clear hcz7_1
      try clear hcz7_2
      try clear hcz8_0
      try clear hcz8_1
      try clear hcz8_2
      try clear hcz9_0
      try clear hcz9_1
      try clear hcz9_2
      try clear hfz12_0
      try clear hfz12_1
      try clear hfz12_2
      try clear hfz13_0
      try clear hfz13_1
      try clear hfz13_2
      try clear hfz7_0
      try clear hfz7_1
      try clear hfz7_2
      try clear hfz8_0
      try clear hfz8_1
      try clear hfz8_2
      try clear hfz9_0
      try clear hfz9_1
      try clear hfz9_2
      try clear p2
      obtain ⟨x30_2, rfl, HA, HK2, BK108, HB⟩ := hrel
      cases gk with
      | zero => exact absurd HA.out (by simp [sender_Check.l0])
      | succ k2 =>
       have H := HA.out
       clear HA
       simp only [sender_Check.l0] at H
       by_cases c14 : x30_2 < (l0_2.length : Int)
       ·rw [if_pos c14] at H
        have c14b0 : decide (x30_2 < (l0_2.length : Int)) = true := decide_eq_true c14
        clear c14
        by_cases c15 : 0 ≤ x30_2
        ·rw [if_pos c15] at H
         have c15b0 : decide (0 ≤ x30_2) = true := decide_eq_true c15
         clear c15
         by_cases c16 : x30_2 < (l0_2.length : Int)
         ·rw [if_pos c16] at H
          have c16b0 : decide (x30_2 < (l0_2.length : Int)) = true := decide_eq_true c16
          clear c16
          obtain ⟨y112, hy112⟩ : ∃ y_ : List (S33), y_ = (([(⟨(rd_T33 l0_2 x30_2).f0, (rd_T33 l0_2 x30_2).f1, (rd_T33 l0_2 x30_2).f2, (⟨(rd_T33 l0_2 x30_2).f3.f0, (rd_T33 l0_2 x30_2).f3.f1, (rd_T33 l0_2 x30_2).f3.f2, (rd_T33 l0_2 x30_2).f3.f3, (rd_T33 l0_2 x30_2).f3.f4, (rd_T33 l0_2 x30_2).f3.f5, (rd_T33 l0_2 x30_2).f3.f6⟩ : S26)⟩ : S33)] : List (S33))) := ⟨_, rfl⟩
          replace H : ((network_Check.f k2 y112).bind fun bt115 => (if bt115.2 = 0 then (if ((rd_T33 l0_2 x30_2).f0) = a0_0 then (if x30_2 > 0 then (if 0 ≤ (wrap64 (x30_2 - 1)) then (if (wrap64 (x30_2 - 1)) < (l0_2.length : Int) then (if ((rd_T33 l0_2 x30_2).f2) ≤ ((rd_T33 l0_2 (wrap64 (x30_2 - 1))).f2) then (sender_Check.j2 k2 l0_2 (l0_2.length : Int) x30_2 true a0_0 a0_1 l0_2) else (sender_Check.j2 k2 l0_2 (l0_2.length : Int) x30_2 (decide (((rd_T33 l0_2 x30_2).f2) ≥ a0_1)) a0_0 a0_1 l0_2)) else (none)) else (none)) else (sender_Check.j2 k2 l0_2 (l0_2.length : Int) x30_2 (decide (((rd_T33 l0_2 x30_2).f2) ≥ a0_1)) a0_0 a0_1 l0_2)) else (some 10)) else (some bt115.2))) = some r := by first | (rw [hy112]; with_reducible exact H) | (have H2_ := (Option.bind_some _ _).symm.trans H; rw [hy112]; with_reducible exact H2_) | (have H2_ := (Option.bind_some _ _).symm.trans H; with_reducible exact H2_) | with_reducible exact H | (rw [hy112]; exact H) | exact H
          have Ny112 := Aside0.mk hy112
          clear hy112
          replace H := Option.bind_eq_some_iff.mp H
          obtain ⟨⟨t115, t116⟩, A170, H⟩ := H
          replace H : (if t116 = 0 then (if ((rd_T33 l0_2 x30_2).f0) = a0_0 then (if x30_2 > 0 then (if 0 ≤ (wrap64 (x30_2 - 1)) then (if (wrap64 (x30_2 - 1)) < (l0_2.length : Int) then (if ((rd_T33 l0_2 x30_2).f2) ≤ ((rd_T33 l0_2 (wrap64 (x30_2 - 1))).f2) then (sender_Check.j2 k2 l0_2 (l0_2.length : Int) x30_2 true a0_0 a0_1 l0_2) else (sender_Check.j2 k2 l0_2 (l0_2.length : Int) x30_2 (decide (((rd_T33 l0_2 x30_2).f2) ≥ a0_1)) a0_0 a0_1 l0_2)) else (none)) else (none)) else (sender_Check.j2 k2 l0_2 (l0_2.length : Int) x30_2 (decide (((rd_T33 l0_2 x30_2).f2) ≥ a0_1)) a0_0 a0_1 l0_2)) else (some 10)) else (some t116)) = some r := H
          have A17 := Aside0.mk A170
          clear A170
          by_cases c18 : t116 = 0
          ·rw [if_pos c18] at H
           have c18b0 : (t116 == 0) = true := beq_iff_eq.mpr c18
           try simp only [beq_self_eq_true, Bool.not_true, Bool.false_or, Bool.true_and] at c18b0
           have c18b1 : (t116 != 0) = false := bne_eq_false_iff_eq.mpr c18
           clear c18
           by_cases c19 : ((rd_T33 l0_2 x30_2).f0) = a0_0
           ·rw [if_pos c19] at H
            have c19b0 : (((rd_T33 l0_2 x30_2).f0) == a0_0) = true := beq_iff_eq.mpr c19
            try simp only [beq_self_eq_true, Bool.not_true, Bool.false_or, Bool.true_and] at c19b0
            have c19b1 : (((rd_T33 l0_2 x30_2).f0) != a0_0) = false := bne_eq_false_iff_eq.mpr c19
            clear c19
            have HC20 := Aside0.mk H
            clear H
            have p110 : 0 ≤ (x30_2 : Int) := of_decide_eq_true (by first | (with_reducible assumption) | assumption)
            have q110 : x30_2 < (l0_2.length : Int) := of_decide_eq_true (by first | (with_reducible assumption) | assumption)
            obtain ⟨ad110, e110, hx110_0, hx110_1, hx110_2, hx110_3, hx110_4, hx110_5, hx110_6, hx110_7, hx110_8, hx110_9⟩ := at_T33 HR0_2.out x30_2 p110 q110
            cases e110
            replace hx110_0 := (HB.out.cell (World.block_lt_of_cell? w _ hx110_0)).trans hx110_0
            replace hx110_1 := (HB.out.cell (World.block_lt_of_cell? w _ hx110_1)).trans hx110_1
            replace hx110_2 := (HB.out.cell (World.block_lt_of_cell? w _ hx110_2)).trans hx110_2
            replace hx110_3 := (HB.out.cell (World.block_lt_of_cell? w _ hx110_3)).trans hx110_3
            replace hx110_4 := (HB.out.cell (World.block_lt_of_cell? w _ hx110_4)).trans hx110_4
            replace hx110_5 := (HB.out.cell (World.block_lt_of_cell? w _ hx110_5)).trans hx110_5
            replace hx110_6 := (HB.out.cell (World.block_lt_of_cell? w _ hx110_6)).trans hx110_6
            replace hx110_7 := (HB.out.cell (World.block_lt_of_cell? w _ hx110_7)).trans hx110_7
            replace hx110_8 := (HB.out.cell (World.block_lt_of_cell? w _ hx110_8)).trans hx110_8
            replace hx110_9 := (HB.out.cell (World.block_lt_of_cell? w _ hx110_9)).trans hx110_9
            replace p110 := eq_true p110
            replace q110 := eq_true q110
            go_upto_region 13 with (first | ((with_reducible refine gqD (N := 4) rfl ?_); refine GS.bx (N := 4) (cs := #[.int .i64 0, .int .i64 0, .int .i64 0, .int .i64 0, .int .i64 0, .int .i64 0, .int .i64 0, .int .i64 0, .int .i64 0, .int .i64 0]) (t := 33) ?_; intro gb111 hg w21 hbox hb; have n0_ := Aside0.mk (bqB (GS.bqX BK108.out) hb); have n1_ := Aside0.mk (lqT (GS.lB HB.out) hb); have n2_ := Aside0.mk (hbox); have n3_ := Aside0.mk ((by rw [hg]; exact (lqZ (GS.lB HB.out)) : w.heap.size ≤ gb111)); have n4_ := Aside0.mk ((by rw [hg]; exact (lqZ (GS.lB HB.out)) : w.heap.size ≤ gb111)); have n5_ := Aside0.mk ((by rw [hg]; exact Nat.ne_of_lt (blk_lt (GS.bqX BK108.out)) : gb108 ≠ gb111)); have n6_ := Aside0.mk ((by rw [hg]; exact Nat.ne_of_gt (blk_lt (GS.bqX BK108.out)) : gb111 ≠ gb108)); clear BK108; clear HB; have BK108 := n0_; have HB := n1_; have BK111 := n2_; have GW111 := n3_; have GE111 := n4_; have NB108_111 := n5_; have NB111_108 := n6_; clear n0_ n1_ n2_ n3_ n4_ n5_ n6_; clear hb hbox hg; have hnb22 := NB111_108.out; have hnc22 := NB108_111.out; obtain ⟨hcz23_0, hcz23_1, hcz23_2, hcz23_3, hcz23_4, hcz23_5, hcz23_6, hcz23_7, hcz23_8, hcz23_9, hfz23_0, hfz23_1, hfz23_2, hfz23_3, hfz23_4, hfz23_5, hfz23_6, hfz23_7, hfz23_8, hfz23_9⟩ := GS.c10 BK111.out) | ((with_reducible refine gqD (N := 37) rfl ?_); refine Kd.R_lit k33 _ 33 ?hg (N := 37) ?hd (xs := ([(⟨(rd_T33 l0_2 x30_2).f0, (rd_T33 l0_2 x30_2).f1, (rd_T33 l0_2 x30_2).f2, (⟨(rd_T33 l0_2 x30_2).f3.f0, (rd_T33 l0_2 x30_2).f3.f1, (rd_T33 l0_2 x30_2).f3.f2, (rd_T33 l0_2 x30_2).f3.f3, (rd_T33 l0_2 x30_2).f3.f4, (rd_T33 l0_2 x30_2).f3.f5, (rd_T33 l0_2 x30_2).f3.f6⟩ : S26)⟩ : S33)] : List (S33))) (inner := [.int .i64 ((rd_T33 l0_2 x30_2).f0), .int .i64 ((rd_T33 l0_2 x30_2).f1), .int .i64 ((rd_T33 l0_2 x30_2).f2), .int .i64 ((rd_T33 l0_2 x30_2).f3.f0), .int .i64 ((rd_T33 l0_2 x30_2).f3.f1), .int .i64 ((rd_T33 l0_2 x30_2).f3.f2), .int .i64 ((rd_T33 l0_2 x30_2).f3.f3), .int .i64 ((rd_T33 l0_2 x30_2).f3.f4), .int .i64 ((rd_T33 l0_2 x30_2).f3.f5), .int .i64 ((rd_T33 l0_2 x30_2).f3.f6)]) (ok := fun _ => True) (okp := fun _ => True) ?hr ?hp (fun _ hk => hk) trivial (Below.refl _ _) (Nat.le_refl _) (by simp) ?_; (case hd => rfl); (case hg => rfl); (case hr => first | (go_simp; done) | (go_simp; rfl)); (case hp => exact (Reps.c10 (show Kd.M k33 _ _ _ (⟨(rd_T33 l0_2 x30_2).f0, (rd_T33 l0_2 x30_2).f1, (rd_T33 l0_2 x30_2).f2, (⟨(rd_T33 l0_2 x30_2).f3.f0, (rd_T33 l0_2 x30_2).f3.f1, (rd_T33 l0_2 x30_2).f3.f2, (rd_T33 l0_2 x30_2).f3.f3, (rd_T33 l0_2 x30_2).f3.f4, (rd_T33 l0_2 x30_2).f3.f5, (rd_T33 l0_2 x30_2).f3.f6⟩ : S26)⟩ : S33) [.int .i64 ((rd_T33 l0_2 x30_2).f0), .int .i64 ((rd_T33 l0_2 x30_2).f1), .int .i64 ((rd_T33 l0_2 x30_2).f2), .int .i64 ((rd_T33 l0_2 x30_2).f3.f0), .int .i64 ((rd_T33 l0_2 x30_2).f3.f1), .int .i64 ((rd_T33 l0_2 x30_2).f3.f2), .int .i64 ((rd_T33 l0_2 x30_2).f3.f3), .int .i64 ((rd_T33 l0_2 x30_2).f3.f4), .int .i64 ((rd_T33 l0_2 x30_2).f3.f5), .int .i64 ((rd_T33 l0_2 x30_2).f3.f6)] from (k33_mkM _ _ _ (⟨(rd_T33 l0_2 x30_2).f0, (rd_T33 l0_2 x30_2).f1, (rd_T33 l0_2 x30_2).f2, (⟨(rd_T33 l0_2 x30_2).f3.f0, (rd_T33 l0_2 x30_2).f3.f1, (rd_T33 l0_2 x30_2).f3.f2, (rd_T33 l0_2 x30_2).f3.f3, (rd_T33 l0_2 x30_2).f3.f4, (rd_T33 l0_2 x30_2).f3.f5, (rd_T33 l0_2 x30_2).f3.f6⟩ : S26)⟩ : S33) )) (Reps.none _ _))); intro v113 w24 ho25 hb hg_ hnew_; clear hg_ hnew_; (first | rw [← Ny112.out] at ho25 | (simp only [Int.reduceToNat] at ho25; rw [← Ny112.out] at ho25)); have n0_ := Aside0.mk (Kd.R_lower (Kd.R_newB ho25 (g := gb111) (o := .cells #[.int .i64 ((rd_T33 l0_2 x30_2).f0), .int .i64 ((rd_T33 l0_2 x30_2).f1), .int .i64 ((rd_T33 l0_2 x30_2).f2), .int .i64 ((rd_T33 l0_2 x30_2).f3.f0), .int .i64 ((rd_T33 l0_2 x30_2).f3.f1), .int .i64 ((rd_T33 l0_2 x30_2).f3.f2), .int .i64 ((rd_T33 l0_2 x30_2).f3.f3), .int .i64 ((rd_T33 l0_2 x30_2).f3.f4), .int .i64 ((rd_T33 l0_2 x30_2).f3.f5), .int .i64 ((rd_T33 l0_2 x30_2).f3.f6)] 33 (0, 0)) (GS.bqZ BK111.out)) (lqZ (GS.lB HB.out))); have n1_ := Aside0.mk (bqB (GS.bqX BK108.out) hb); have n2_ := Aside0.mk (bqB (g := gb111) (o := .cells #[.int .i64 ((rd_T33 l0_2 x30_2).f0), .int .i64 ((rd_T33 l0_2 x30_2).f1), .int .i64 ((rd_T33 l0_2 x30_2).f2), .int .i64 ((rd_T33 l0_2 x30_2).f3.f0), .int .i64 ((rd_T33 l0_2 x30_2).f3.f1), .int .i64 ((rd_T33 l0_2 x30_2).f3.f2), .int .i64 ((rd_T33 l0_2 x30_2).f3.f3), .int .i64 ((rd_T33 l0_2 x30_2).f3.f4), .int .i64 ((rd_T33 l0_2 x30_2).f3.f5), .int .i64 ((rd_T33 l0_2 x30_2).f3.f6)] 33 (0, 0)) (GS.bqZ BK111.out) hb); have n3_ := Aside0.mk (lqT (GS.lB HB.out) hb); clear BK108; clear BK111; clear HB; have HO114 := n0_; have BK108 := n1_; have BK111 := n2_; have HB := n3_; clear n0_ n1_ n2_ n3_; clear hb ho25; obtain ⟨Ao26, co26, eo26⟩ := Kd.R_slice HO114.out; subst eo26) | (go_at_call 45; (with_reducible refine (network_Check.calls k2 _ _ y112 t115 t116 _ ?side1 ?side2 A17.out).mono ?_); (case side1 => repeat (first | exact (Kd.R_reads' HO114.out).2.2 | (with_reducible refine Kd.C_alloc ?_ _) | (with_reducible refine Kd.C_drewN ?_ _) | (with_reducible refine Kd.C_drew ?_))); (case side2 => exact (Kd.R_reads' HO114.out).2.1); rintro e w27 ⟨rfl, hb⟩; have n0_ := Aside0.mk (Kd.R_below (GS.rR HO114.out) hb); have n1_ := Aside0.mk (bqB (GS.bqX BK108.out) hb); have n2_ := Aside0.mk (bqB (GS.bqX BK111.out) hb); have n3_ := Aside0.mk (lqT (GS.lB HB.out) hb); clear HO114; clear BK108; clear BK111; clear HB; have HO114 := n0_; have BK108 := n1_; have BK111 := n2_; have HB := n3_; clear n0_ n1_ n2_ n3_; (try clear hb); (try clear hb2); (try clear hk); (try clear hi); obtain ⟨hcz28_0, hcz28_1, hcz28_2, hcz28_3, hcz28_4, hcz28_5, hcz28_6, hcz28_7, hcz28_8, hcz28_9, hfz28_0, hfz28_1, hfz28_2, hfz28_3, hfz28_4, hfz28_5, hfz28_6, hfz28_7, hfz28_8, hfz28_9⟩ := GS.c10 BK111.out; obtain ⟨hcz29_0, hcz29_1, hcz29_2, hfz29_0, hfz29_1, hfz29_2⟩ := GS.c3 BK108.out))
            repeat (go_quiet (first | ((with_reducible refine gqD (N := 4) rfl ?_); refine GS.bx (N := 4) (cs := #[.int .i64 0, .int .i64 0, .int .i64 0, .int .i64 0, .int .i64 0, .int .i64 0, .int .i64 0, .int .i64 0, .int .i64 0, .int .i64 0]) (t := 33) ?_; intro gb111 hg w21 hbox hb; have n0_ := Aside0.mk (bqB (GS.bqX BK108.out) hb); have n1_ := Aside0.mk (lqT (GS.lB HB.out) hb); have n2_ := Aside0.mk (hbox); have n3_ := Aside0.mk ((by rw [hg]; exact (lqZ (GS.lB HB.out)) : w.heap.size ≤ gb111)); have n4_ := Aside0.mk ((by rw [hg]; exact (lqZ (GS.lB HB.out)) : w.heap.size ≤ gb111)); have n5_ := Aside0.mk ((by rw [hg]; exact Nat.ne_of_lt (blk_lt (GS.bqX BK108.out)) : gb108 ≠ gb111)); have n6_ := Aside0.mk ((by rw [hg]; exact Nat.ne_of_gt (blk_lt (GS.bqX BK108.out)) : gb111 ≠ gb108)); clear BK108; clear HB; have BK108 := n0_; have HB := n1_; have BK111 := n2_; have GW111 := n3_; have GE111 := n4_; have NB108_111 := n5_; have NB111_108 := n6_; clear n0_ n1_ n2_ n3_ n4_ n5_ n6_; clear hb hbox hg; have hnb22 := NB111_108.out; have hnc22 := NB108_111.out; obtain ⟨hcz23_0, hcz23_1, hcz23_2, hcz23_3, hcz23_4, hcz23_5, hcz23_6, hcz23_7, hcz23_8, hcz23_9, hfz23_0, hfz23_1, hfz23_2, hfz23_3, hfz23_4, hfz23_5, hfz23_6, hfz23_7, hfz23_8, hfz23_9⟩ := GS.c10 BK111.out) | ((with_reducible refine gqD (N := 37) rfl ?_); refine Kd.R_lit k33 _ 33 ?hg (N := 37) ?hd (xs := ([(⟨(rd_T33 l0_2 x30_2).f0, (rd_T33 l0_2 x30_2).f1, (rd_T33 l0_2 x30_2).f2, (⟨(rd_T33 l0_2 x30_2).f3.f0, (rd_T33 l0_2 x30_2).f3.f1, (rd_T33 l0_2 x30_2).f3.f2, (rd_T33 l0_2 x30_2).f3.f3, (rd_T33 l0_2 x30_2).f3.f4, (rd_T33 l0_2 x30_2).f3.f5, (rd_T33 l0_2 x30_2).f3.f6⟩ : S26)⟩ : S33)] : List (S33))) (inner := [.int .i64 ((rd_T33 l0_2 x30_2).f0), .int .i64 ((rd_T33 l0_2 x30_2).f1), .int .i64 ((rd_T33 l0_2 x30_2).f2), .int .i64 ((rd_T33 l0_2 x30_2).f3.f0), .int .i64 ((rd_T33 l0_2 x30_2).f3.f1), .int .i64 ((rd_T33 l0_2 x30_2).f3.f2), .int .i64 ((rd_T33 l0_2 x30_2).f3.f3), .int .i64 ((rd_T33 l0_2 x30_2).f3.f4), .int .i64 ((rd_T33 l0_2 x30_2).f3.f5), .int .i64 ((rd_T33 l0_2 x30_2).f3.f6)]) (ok := fun _ => True) (okp := fun _ => True) ?hr ?hp (fun _ hk => hk) trivial (Below.refl _ _) (Nat.le_refl _) (by simp) ?_; (case hd => rfl); (case hg => rfl); (case hr => first | (go_simp; done) | (go_simp; rfl)); (case hp => exact (Reps.c10 (show Kd.M k33 _ _ _ (⟨(rd_T33 l0_2 x30_2).f0, (rd_T33 l0_2 x30_2).f1, (rd_T33 l0_2 x30_2).f2, (⟨(rd_T33 l0_2 x30_2).f3.f0, (rd_T33 l0_2 x30_2).f3.f1, (rd_T33 l0_2 x30_2).f3.f2, (rd_T33 l0_2 x30_2).f3.f3, (rd_T33 l0_2 x30_2).f3.f4, (rd_T33 l0_2 x30_2).f3.f5, (rd_T33 l0_2 x30_2).f3.f6⟩ : S26)⟩ : S33) [.int .i64 ((rd_T33 l0_2 x30_2).f0), .int .i64 ((rd_T33 l0_2 x30_2).f1), .int .i64 ((rd_T33 l0_2 x30_2).f2), .int .i64 ((rd_T33 l0_2 x30_2).f3.f0), .int .i64 ((rd_T33 l0_2 x30_2).f3.f1), .int .i64 ((rd_T33 l0_2 x30_2).f3.f2), .int .i64 ((rd_T33 l0_2 x30_2).f3.f3), .int .i64 ((rd_T33 l0_2 x30_2).f3.f4), .int .i64 ((rd_T33 l0_2 x30_2).f3.f5), .int .i64 ((rd_T33 l0_2 x30_2).f3.f6)] from (k33_mkM _ _ _ (⟨(rd_T33 l0_2 x30_2).f0, (rd_T33 l0_2 x30_2).f1, (rd_T33 l0_2 x30_2).f2, (⟨(rd_T33 l0_2 x30_2).f3.f0, (rd_T33 l0_2 x30_2).f3.f1, (rd_T33 l0_2 x30_2).f3.f2, (rd_T33 l0_2 x30_2).f3.f3, (rd_T33 l0_2 x30_2).f3.f4, (rd_T33 l0_2 x30_2).f3.f5, (rd_T33 l0_2 x30_2).f3.f6⟩ : S26)⟩ : S33) )) (Reps.none _ _))); intro v113 w24 ho25 hb hg_ hnew_; clear hg_ hnew_; (first | rw [← Ny112.out] at ho25 | (simp only [Int.reduceToNat] at ho25; rw [← Ny112.out] at ho25)); have n0_ := Aside0.mk (Kd.R_lower (Kd.R_newB ho25 (g := gb111) (o := .cells #[.int .i64 ((rd_T33 l0_2 x30_2).f0), .int .i64 ((rd_T33 l0_2 x30_2).f1), .int .i64 ((rd_T33 l0_2 x30_2).f2), .int .i64 ((rd_T33 l0_2 x30_2).f3.f0), .int .i64 ((rd_T33 l0_2 x30_2).f3.f1), .int .i64 ((rd_T33 l0_2 x30_2).f3.f2), .int .i64 ((rd_T33 l0_2 x30_2).f3.f3), .int .i64 ((rd_T33 l0_2 x30_2).f3.f4), .int .i64 ((rd_T33 l0_2 x30_2).f3.f5), .int .i64 ((rd_T33 l0_2 x30_2).f3.f6)] 33 (0, 0)) (GS.bqZ BK111.out)) (lqZ (GS.lB HB.out))); have n1_ := Aside0.mk (bqB (GS.bqX BK108.out) hb); have n2_ := Aside0.mk (bqB (g := gb111) (o := .cells #[.int .i64 ((rd_T33 l0_2 x30_2).f0), .int .i64 ((rd_T33 l0_2 x30_2).f1), .int .i64 ((rd_T33 l0_2 x30_2).f2), .int .i64 ((rd_T33 l0_2 x30_2).f3.f0), .int .i64 ((rd_T33 l0_2 x30_2).f3.f1), .int .i64 ((rd_T33 l0_2 x30_2).f3.f2), .int .i64 ((rd_T33 l0_2 x30_2).f3.f3), .int .i64 ((rd_T33 l0_2 x30_2).f3.f4), .int .i64 ((rd_T33 l0_2 x30_2).f3.f5), .int .i64 ((rd_T33 l0_2 x30_2).f3.f6)] 33 (0, 0)) (GS.bqZ BK111.out) hb); have n3_ := Aside0.mk (lqT (GS.lB HB.out) hb); clear BK108; clear BK111; clear HB; have HO114 := n0_; have BK108 := n1_; have BK111 := n2_; have HB := n3_; clear n0_ n1_ n2_ n3_; clear hb ho25; obtain ⟨Ao26, co26, eo26⟩ := Kd.R_slice HO114.out; subst eo26) | (go_at_call 45; (with_reducible refine (network_Check.calls k2 _ _ y112 t115 t116 _ ?side1 ?side2 A17.out).mono ?_); (case side1 => repeat (first | exact (Kd.R_reads' HO114.out).2.2 | (with_reducible refine Kd.C_alloc ?_ _) | (with_reducible refine Kd.C_drewN ?_ _) | (with_reducible refine Kd.C_drew ?_))); (case side2 => exact (Kd.R_reads' HO114.out).2.1); rintro e w27 ⟨rfl, hb⟩; have n0_ := Aside0.mk (Kd.R_below (GS.rR HO114.out) hb); have n1_ := Aside0.mk (bqB (GS.bqX BK108.out) hb); have n2_ := Aside0.mk (bqB (GS.bqX BK111.out) hb); have n3_ := Aside0.mk (lqT (GS.lB HB.out) hb); clear HO114; clear BK108; clear BK111; clear HB; have HO114 := n0_; have BK108 := n1_; have BK111 := n2_; have HB := n3_; clear n0_ n1_ n2_ n3_; (try clear hb); (try clear hb2); (try clear hk); (try clear hi); obtain ⟨hcz28_0, hcz28_1, hcz28_2, hcz28_3, hcz28_4, hcz28_5, hcz28_6, hcz28_7, hcz28_8, hcz28_9, hfz28_0, hfz28_1, hfz28_2, hfz28_3, hfz28_4, hfz28_5, hfz28_6, hfz28_7, hfz28_8, hfz28_9⟩ := GS.c10 BK111.out; obtain ⟨hcz29_0, hcz29_1, hcz29_2, hfz29_0, hfz29_1, hfz29_2⟩ := GS.c3 BK108.out)); go_upto_region 13 with (first | ((with_reducible refine gqD (N := 4) rfl ?_); refine GS.bx (N := 4) (cs := #[.int .i64 0, .int .i64 0, .int .i64 0, .int .i64 0, .int .i64 0, .int .i64 0, .int .i64 0, .int .i64 0, .int .i64 0, .int .i64 0]) (t := 33) ?_; intro gb111 hg w21 hbox hb; have n0_ := Aside0.mk (bqB (GS.bqX BK108.out) hb); have n1_ := Aside0.mk (lqT (GS.lB HB.out) hb); have n2_ := Aside0.mk (hbox); have n3_ := Aside0.mk ((by rw [hg]; exact (lqZ (GS.lB HB.out)) : w.heap.size ≤ gb111)); have n4_ := Aside0.mk ((by rw [hg]; exact (lqZ (GS.lB HB.out)) : w.heap.size ≤ gb111)); have n5_ := Aside0.mk ((by rw [hg]; exact Nat.ne_of_lt (blk_lt (GS.bqX BK108.out)) : gb108 ≠ gb111)); have n6_ := Aside0.mk ((by rw [hg]; exact Nat.ne_of_gt (blk_lt (GS.bqX BK108.out)) : gb111 ≠ gb108)); clear BK108; clear HB; have BK108 := n0_; have HB := n1_; have BK111 := n2_; have GW111 := n3_; have GE111 := n4_; have NB108_111 := n5_; have NB111_108 := n6_; clear n0_ n1_ n2_ n3_ n4_ n5_ n6_; clear hb hbox hg; have hnb22 := NB111_108.out; have hnc22 := NB108_111.out; obtain ⟨hcz23_0, hcz23_1, hcz23_2, hcz23_3, hcz23_4, hcz23_5, hcz23_6, hcz23_7, hcz23_8, hcz23_9, hfz23_0, hfz23_1, hfz23_2, hfz23_3, hfz23_4, hfz23_5, hfz23_6, hfz23_7, hfz23_8, hfz23_9⟩ := GS.c10 BK111.out) | ((with_reducible refine gqD (N := 37) rfl ?_); refine Kd.R_lit k33 _ 33 ?hg (N := 37) ?hd (xs := ([(⟨(rd_T33 l0_2 x30_2).f0, (rd_T33 l0_2 x30_2).f1, (rd_T33 l0_2 x30_2).f2, (⟨(rd_T33 l0_2 x30_2).f3.f0, (rd_T33 l0_2 x30_2).f3.f1, (rd_T33 l0_2 x30_2).f3.f2, (rd_T33 l0_2 x30_2).f3.f3, (rd_T33 l0_2 x30_2).f3.f4, (rd_T33 l0_2 x30_2).f3.f5, (rd_T33 l0_2 x30_2).f3.f6⟩ : S26)⟩ : S33)] : List (S33))) (inner := [.int .i64 ((rd_T33 l0_2 x30_2).f0), .int .i64 ((rd_T33 l0_2 x30_2).f1), .int .i64 ((rd_T33 l0_2 x30_2).f2), .int .i64 ((rd_T33 l0_2 x30_2).f3.f0), .int .i64 ((rd_T33 l0_2 x30_2).f3.f1), .int .i64 ((rd_T33 l0_2 x30_2).f3.f2), .int .i64 ((rd_T33 l0_2 x30_2).f3.f3), .int .i64 ((rd_T33 l0_2 x30_2).f3.f4), .int .i64 ((rd_T33 l0_2 x30_2).f3.f5), .int .i64 ((rd_T33 l0_2 x30_2).f3.f6)]) (ok := fun _ => True) (okp := fun _ => True) ?hr ?hp (fun _ hk => hk) trivial (Below.refl _ _) (Nat.le_refl _) (by simp) ?_; (case hd => rfl); (case hg => rfl); (case hr => first | (go_simp; done) | (go_simp; rfl)); (case hp => exact (Reps.c10 (show Kd.M k33 _ _ _ (⟨(rd_T33 l0_2 x30_2).f0, (rd_T33 l0_2 x30_2).f1, (rd_T33 l0_2 x30_2).f2, (⟨(rd_T33 l0_2 x30_2).f3.f0, (rd_T33 l0_2 x30_2).f3.f1, (rd_T33 l0_2 x30_2).f3.f2, (rd_T33 l0_2 x30_2).f3.f3, (rd_T33 l0_2 x30_2).f3.f4, (rd_T33 l0_2 x30_2).f3.f5, (rd_T33 l0_2 x30_2).f3.f6⟩ : S26)⟩ : S33) [.int .i64 ((rd_T33 l0_2 x30_2).f0), .int .i64 ((rd_T33 l0_2 x30_2).f1), .int .i64 ((rd_T33 l0_2 x30_2).f2), .int .i64 ((rd_T33 l0_2 x30_2).f3.f0), .int .i64 ((rd_T33 l0_2 x30_2).f3.f1), .int .i64 ((rd_T33 l0_2 x30_2).f3.f2), .int .i64 ((rd_T33 l0_2 x30_2).f3.f3), .int .i64 ((rd_T33 l0_2 x30_2).f3.f4), .int .i64 ((rd_T33 l0_2 x30_2).f3.f5), .int .i64 ((rd_T33 l0_2 x30_2).f3.f6)] from (k33_mkM _ _ _ (⟨(rd_T33 l0_2 x30_2).f0, (rd_T33 l0_2 x30_2).f1, (rd_T33 l0_2 x30_2).f2, (⟨(rd_T33 l0_2 x30_2).f3.f0, (rd_T33 l0_2 x30_2).f3.f1, (rd_T33 l0_2 x30_2).f3.f2, (rd_T33 l0_2 x30_2).f3.f3, (rd_T33 l0_2 x30_2).f3.f4, (rd_T33 l0_2 x30_2).f3.f5, (rd_T33 l0_2 x30_2).f3.f6⟩ : S26)⟩ : S33) )) (Reps.none _ _))); intro v113 w24 ho25 hb hg_ hnew_; clear hg_ hnew_; (first | rw [← Ny112.out] at ho25 | (simp only [Int.reduceToNat] at ho25; rw [← Ny112.out] at ho25)); have n0_ := Aside0.mk (Kd.R_lower (Kd.R_newB ho25 (g := gb111) (o := .cells #[.int .i64 ((rd_T33 l0_2 x30_2).f0), .int .i64 ((rd_T33 l0_2 x30_2).f1), .int .i64 ((rd_T33 l0_2 x30_2).f2), .int .i64 ((rd_T33 l0_2 x30_2).f3.f0), .int .i64 ((rd_T33 l0_2 x30_2).f3.f1), .int .i64 ((rd_T33 l0_2 x30_2).f3.f2), .int .i64 ((rd_T33 l0_2 x30_2).f3.f3), .int .i64 ((rd_T33 l0_2 x30_2).f3.f4), .int .i64 ((rd_T33 l0_2 x30_2).f3.f5), .int .i64 ((rd_T33 l0_2 x30_2).f3.f6)] 33 (0, 0)) (GS.bqZ BK111.out)) (lqZ (GS.lB HB.out))); have n1_ := Aside0.mk (bqB (GS.bqX BK108.out) hb); have n2_ := Aside0.mk (bqB (g := gb111) (o := .cells #[.int .i64 ((rd_T33 l0_2 x30_2).f0), .int .i64 ((rd_T33 l0_2 x30_2).f1), .int .i64 ((rd_T33 l0_2 x30_2).f2), .int .i64 ((rd_T33 l0_2 x30_2).f3.f0), .int .i64 ((rd_T33 l0_2 x30_2).f3.f1), .int .i64 ((rd_T33 l0_2 x30_2).f3.f2), .int .i64 ((rd_T33 l0_2 x30_2).f3.f3), .int .i64 ((rd_T33 l0_2 x30_2).f3.f4), .int .i64 ((rd_T33 l0_2 x30_2).f3.f5), .int .i64 ((rd_T33 l0_2 x30_2).f3.f6)] 33 (0, 0)) (GS.bqZ BK111.out) hb); have n3_ := Aside0.mk (lqT (GS.lB HB.out) hb); clear BK108; clear BK111; clear HB; have HO114 := n0_; have BK108 := n1_; have BK111 := n2_; have HB := n3_; clear n0_ n1_ n2_ n3_; clear hb ho25; obtain ⟨Ao26, co26, eo26⟩ := Kd.R_slice HO114.out; subst eo26) | (go_at_call 45; (with_reducible refine (network_Check.calls k2 _ _ y112 t115 t116 _ ?side1 ?side2 A17.out).mono ?_); (case side1 => repeat (first | exact (Kd.R_reads' HO114.out).2.2 | (with_reducible refine Kd.C_alloc ?_ _) | (with_reducible refine Kd.C_drewN ?_ _) | (with_reducible refine Kd.C_drew ?_))); (case side2 => exact (Kd.R_reads' HO114.out).2.1); rintro e w27 ⟨rfl, hb⟩; have n0_ := Aside0.mk (Kd.R_below (GS.rR HO114.out) hb); have n1_ := Aside0.mk (bqB (GS.bqX BK108.out) hb); have n2_ := Aside0.mk (bqB (GS.bqX BK111.out) hb); have n3_ := Aside0.mk (lqT (GS.lB HB.out) hb); clear HO114; clear BK108; clear BK111; clear HB; have HO114 := n0_; have BK108 := n1_; have BK111 := n2_; have HB := n3_; clear n0_ n1_ n2_ n3_; (try clear hb); (try clear hb2); (try clear hk); (try clear hi); obtain ⟨hcz28_0, hcz28_1, hcz28_2, hcz28_3, hcz28_4, hcz28_5, hcz28_6, hcz28_7, hcz28_8, hcz28_9, hfz28_0, hfz28_1, hfz28_2, hfz28_3, hfz28_4, hfz28_5, hfz28_6, hfz28_7, hfz28_8, hfz28_9⟩ := GS.c10 BK111.out; obtain ⟨hcz29_0, hcz29_1, hcz29_2, hfz29_0, hfz29_1, hfz29_2⟩ := GS.c3 BK108.out)))
            (try simp only [Act.put, List.setIfInBounds_toArray, List.set_cons_zero, List.set_cons_succ])
            go_cut [51] (fun v51 wc => ∃ (kq : Nat) (x51_19 : Bool), v51 = .bool x51_19 ∧ Aside0 (sender_Check.j2 kq l0_2 (l0_2.length : Int) x30_2 x51_19 a0_0 a0_1 l0_2 = some r) ∧ Aside0 (kq ≤ k2) ∧ Aside0 (wc.heap[gb108]? = some (.cells #[.int .i64 a0_0, .int .i64 a0_1, (.slice (some ad110) l0_2.length c0_2)] 24 (0, 0))) ∧ Aside0 (wc.heap[gb111]? = some (.cells #[.int .i64 ((rd_T33 l0_2 x30_2).f0), .int .i64 ((rd_T33 l0_2 x30_2).f1), .int .i64 ((rd_T33 l0_2 x30_2).f2), .int .i64 ((rd_T33 l0_2 x30_2).f3.f0), .int .i64 ((rd_T33 l0_2 x30_2).f3.f1), .int .i64 ((rd_T33 l0_2 x30_2).f3.f2), .int .i64 ((rd_T33 l0_2 x30_2).f3.f3), .int .i64 ((rd_T33 l0_2 x30_2).f3.f4), .int .i64 ((rd_T33 l0_2 x30_2).f3.f5), .int .i64 ((rd_T33 l0_2 x30_2).f3.f6)] 33 (0, 0))) ∧ Aside0 (Below w.heap.size w wc))
            case first =>
             have H := HC20.out
             clear HC20
             by_cases c30 : x30_2 > 0
             ·rw [if_pos c30] at H
              have c30b0 : decide (0 < x30_2) = true := decide_eq_true c30
              clear c30
              (first | rw [c30b0] | (simp only [i64_w, i32_w]; rw [c30b0]) | skip)
              obtain ⟨ji31, hji31⟩ : ∃ j_ : Int, (wrap64 (x30_2 - 1)) = j_ := ⟨_, rfl⟩
              replace H : (if 0 ≤ (ji31) then (if (ji31) < (l0_2.length : Int) then (if ((rd_T33 l0_2 x30_2).f2) ≤ ((rd_T33 l0_2 (ji31)).f2) then (sender_Check.j2 k2 l0_2 (l0_2.length : Int) x30_2 true a0_0 a0_1 l0_2) else (sender_Check.j2 k2 l0_2 (l0_2.length : Int) x30_2 (decide (((rd_T33 l0_2 x30_2).f2) ≥ a0_1)) a0_0 a0_1 l0_2)) else (none)) else (none)) = some r := by first | (rw [hji31] at H; exact H) | (simp only [hji31] at H ⊢; exact H)
              have hji31w : (IntKind.i64.wrap (x30_2 - 1)) = ji31 := (i64_w _).trans hji31
              by_cases c32 : 0 ≤ (ji31)
              ·rw [if_pos c32] at H
               have c32b0 : decide (0 ≤ (ji31)) = true := decide_eq_true c32
               clear c32
               by_cases c33 : (ji31) < (l0_2.length : Int)
               ·rw [if_pos c33] at H
                have c33b0 : decide ((ji31) < (l0_2.length : Int)) = true := decide_eq_true c33
                clear c33
                by_cases c34 : ((rd_T33 l0_2 x30_2).f2) ≤ ((rd_T33 l0_2 (ji31)).f2)
                ·rw [if_pos c34] at H
                 have c34b0 : decide (((rd_T33 l0_2 x30_2).f2) ≤ ((rd_T33 l0_2 (ji31)).f2)) = true := decide_eq_true c34
                 clear c34
                 have H' := Aside0.mk H
                 clear H
                 have hnb35 := NB111_108.out
                 have hnc35 := NB108_111.out
                 obtain ⟨hcz36_0, hcz36_1, hcz36_2, hcz36_3, hcz36_4, hcz36_5, hcz36_6, hcz36_7, hcz36_8, hcz36_9, hfz36_0, hfz36_1, hfz36_2, hfz36_3, hfz36_4, hfz36_5, hfz36_6, hfz36_7, hfz36_8, hfz36_9⟩ := GS.c10 BK111.out
                 obtain ⟨hcz37_0, hcz37_1, hcz37_2, hfz37_0, hfz37_1, hfz37_2⟩ := GS.c3 BK108.out
                 have p117 : 0 ≤ ((ji31) : Int) := of_decide_eq_true (by first | (with_reducible assumption) | assumption)
                 have q117 : (ji31) < (l0_2.length : Int) := of_decide_eq_true (by first | (with_reducible assumption) | assumption)
                 obtain ⟨ad117, e117, hx117_0, hx117_1, hx117_2, hx117_3, hx117_4, hx117_5, hx117_6, hx117_7, hx117_8, hx117_9⟩ := at_T33 HR0_2.out (ji31) p117 q117
                 obtain rfl : ad110 = ad117 := (by injection e117)
                 replace hx117_0 := (HB.out.cell (World.block_lt_of_cell? w _ hx117_0)).trans hx117_0
                 replace hx117_1 := (HB.out.cell (World.block_lt_of_cell? w _ hx117_1)).trans hx117_1
                 replace hx117_2 := (HB.out.cell (World.block_lt_of_cell? w _ hx117_2)).trans hx117_2
                 replace hx117_3 := (HB.out.cell (World.block_lt_of_cell? w _ hx117_3)).trans hx117_3
                 replace hx117_4 := (HB.out.cell (World.block_lt_of_cell? w _ hx117_4)).trans hx117_4
                 replace hx117_5 := (HB.out.cell (World.block_lt_of_cell? w _ hx117_5)).trans hx117_5
                 replace hx117_6 := (HB.out.cell (World.block_lt_of_cell? w _ hx117_6)).trans hx117_6
                 replace hx117_7 := (HB.out.cell (World.block_lt_of_cell? w _ hx117_7)).trans hx117_7
                 replace hx117_8 := (HB.out.cell (World.block_lt_of_cell? w _ hx117_8)).trans hx117_8
                 replace hx117_9 := (HB.out.cell (World.block_lt_of_cell? w _ hx117_9)).trans hx117_9
                 replace p117 := eq_true p117
                 replace q117 := eq_true q117
                 go_wp2
                 repeat (go_quiet (fail); try go_wp2)
                 go_meet
                 case rel => exact ⟨_, (true), (by first | rfl | (simp; done) | (simp [*]; done)), H', ⟨by have := HJ1.out; have := HK2.out; first | omega | exact Nat.le_refl _⟩, ⟨GS.bqX BK108.out⟩, ⟨GS.bqX BK111.out⟩, ⟨GS.lB HB.out⟩⟩
                ·rw [if_neg c34] at H
                 have c34b0 : decide (((rd_T33 l0_2 x30_2).f2) ≤ ((rd_T33 l0_2 (ji31)).f2)) = false := decide_eq_false c34
                 clear c34
                 have H' := Aside0.mk H
                 clear H
                 have hnb38 := NB111_108.out
                 have hnc38 := NB108_111.out
                 obtain ⟨hcz39_0, hcz39_1, hcz39_2, hcz39_3, hcz39_4, hcz39_5, hcz39_6, hcz39_7, hcz39_8, hcz39_9, hfz39_0, hfz39_1, hfz39_2, hfz39_3, hfz39_4, hfz39_5, hfz39_6, hfz39_7, hfz39_8, hfz39_9⟩ := GS.c10 BK111.out
                 obtain ⟨hcz40_0, hcz40_1, hcz40_2, hfz40_0, hfz40_1, hfz40_2⟩ := GS.c3 BK108.out
                 have p117 : 0 ≤ ((ji31) : Int) := of_decide_eq_true (by first | (with_reducible assumption) | assumption)
                 have q117 : (ji31) < (l0_2.length : Int) := of_decide_eq_true (by first | (with_reducible assumption) | assumption)
                 obtain ⟨ad117, e117, hx117_0, hx117_1, hx117_2, hx117_3, hx117_4, hx117_5, hx117_6, hx117_7, hx117_8, hx117_9⟩ := at_T33 HR0_2.out (ji31) p117 q117
                 obtain rfl : ad110 = ad117 := (by injection e117)
                 replace hx117_0 := (HB.out.cell (World.block_lt_of_cell? w _ hx117_0)).trans hx117_0
                 replace hx117_1 := (HB.out.cell (World.block_lt_of_cell? w _ hx117_1)).trans hx117_1
                 replace hx117_2 := (HB.out.cell (World.block_lt_of_cell? w _ hx117_2)).trans hx117_2
                 replace hx117_3 := (HB.out.cell (World.block_lt_of_cell? w _ hx117_3)).trans hx117_3
                 replace hx117_4 := (HB.out.cell (World.block_lt_of_cell? w _ hx117_4)).trans hx117_4
                 replace hx117_5 := (HB.out.cell (World.block_lt_of_cell? w _ hx117_5)).trans hx117_5
                 replace hx117_6 := (HB.out.cell (World.block_lt_of_cell? w _ hx117_6)).trans hx117_6
                 replace hx117_7 := (HB.out.cell (World.block_lt_of_cell? w _ hx117_7)).trans hx117_7
                 replace hx117_8 := (HB.out.cell (World.block_lt_of_cell? w _ hx117_8)).trans hx117_8
                 replace hx117_9 := (HB.out.cell (World.block_lt_of_cell? w _ hx117_9)).trans hx117_9
                 replace p117 := eq_true p117
                 replace q117 := eq_true q117
                 go_wp2
                 repeat (go_quiet (fail); try go_wp2)
                 go_meet
                 case rel => exact ⟨_, (decide (((rd_T33 l0_2 x30_2).f2) ≥ a0_1)), (by first | rfl | (simp; done) | (simp [*]; done)), H', ⟨by have := HJ1.out; have := HK2.out; first | omega | exact Nat.le_refl _⟩, ⟨GS.bqX BK108.out⟩, ⟨GS.bqX BK111.out⟩, ⟨GS.lB HB.out⟩⟩
               ·rw [if_neg c33] at H
                exact absurd H (by simp)
              ·rw [if_neg c32] at H
               exact absurd H (by simp)
             ·rw [if_neg c30] at H
              have c30b0 : decide (0 < x30_2) = false := decide_eq_false c30
              clear c30
              (first | rw [c30b0] | (simp only [i64_w, i32_w]; rw [c30b0]) | skip)
              have H' := Aside0.mk H
              clear H
              have hnb41 := NB111_108.out
              have hnc41 := NB108_111.out
              obtain ⟨hcz42_0, hcz42_1, hcz42_2, hcz42_3, hcz42_4, hcz42_5, hcz42_6, hcz42_7, hcz42_8, hcz42_9, hfz42_0, hfz42_1, hfz42_2, hfz42_3, hfz42_4, hfz42_5, hfz42_6, hfz42_7, hfz42_8, hfz42_9⟩ := GS.c10 BK111.out
              obtain ⟨hcz43_0, hcz43_1, hcz43_2, hfz43_0, hfz43_1, hfz43_2⟩ := GS.c3 BK108.out
              go_wp2
              repeat (go_quiet (fail); try go_wp2)
              go_meet
              case rel => exact ⟨_, (decide (((rd_T33 l0_2 x30_2).f2) ≥ a0_1)), (by first | rfl | (simp; done) | (simp [*]; done)), H', ⟨by have := HJ1.out; have := HK2.out; first | omega | exact Nat.le_refl _⟩, ⟨GS.bqX BK108.out⟩, ⟨GS.bqX BK111.out⟩, ⟨GS.lB HB.out⟩⟩
            case rest =>
             clear HC20
             try clear c1
             try clear p1
             try clear q1
             try clear hx1
             try clear c2
             try clear p2
             try clear c3
             try clear c4
             try clear c5
             try clear c6
             try clear c6b0
             try clear p6
             try clear c10
             try clear c11
             try clear c11b0
             try clear c11b1
             try clear p11
             try clear q11
             try clear hx11
             try clear c14
             try clear c14b0
             try clear c15
             try clear c15b0
             try clear c16
             try clear c16b0
             try clear c17
             try clear c18
             try clear c18b0
             try clear c18b1
             try clear c19
             try clear c19b0
             try clear c19b1
             try clear c22
             try clear c30
             try clear c30b0
             try clear c32
             try clear c32b0
             try clear c33
             try clear c33b0
             try clear c34
             try clear c34b0
             try clear c35
             try clear c38
             try clear c41
             try clear hcz12_0
             try clear hcz12_1
             try clear hcz12_2
             try clear hcz13_0
             try clear hcz13_1
             try clear hcz13_2
             try clear hcz23_0
             try clear hcz23_1
             try clear hcz23_2
             try clear hcz23_3
             try clear hcz23_4
             try clear hcz23_5
             try clear hcz23_6
             try clear hcz23_7
             try clear hcz23_8
             try clear hcz23_9
             try clear hcz28_0
             try clear hcz28_1
             try clear hcz28_2
             try clear hcz28_3
             try clear hcz28_4
             try clear hcz28_5
             try clear hcz28_6
             try clear hcz28_7
             try clear hcz28_8
             try clear hcz28_9
             try clear hcz29_0
             try clear hcz29_1
             try clear hcz29_2
             try clear hcz36_0
             try clear hcz36_1
             try clear hcz36_2
             try clear hcz36_3
             try clear hcz36_4
             try clear hcz36_5
             try clear hcz36_6
             try clear hcz36_7
             try clear hcz36_8
             try clear hcz36_9
             try clear hcz37_0
             try clear hcz37_1
             try clear hcz37_2
             try clear hcz39_0
             try clear hcz39_1
             try clear hcz39_2
             try clear hcz39_3
             try clear hcz39_4
             try clear hcz39_5
             try clear hcz39_6
             try clear hcz39_7
             try clear hcz39_8
             try clear hcz39_9
             try clear hcz40_0
             try clear hcz40_1
             try clear hcz40_2
             try clear hcz42_0
             try clear hcz42_1
             try clear hcz42_2
             try clear hcz42_3
             try clear hcz42_4
             try clear hcz42_5
             try clear hcz42_6
             try clear hcz42_7
             try clear hcz42_8
             try clear hcz42_9
             try clear hcz43_0
             try clear hcz43_1
             try clear hcz43_2
             try clear hcz7_0
             try clear hcz7_1
             try clear hcz7_2
             try clear hcz8_0
             try clear hcz8_1
             try clear hcz8_2
             try clear hcz9_0
             try clear hcz9_1
             try clear hcz9_2
             try clear hfz12_0
             try clear hfz12_1
             try clear hfz12_2
             try clear hfz13_0
             try clear hfz13_1
             try clear hfz13_2
             try clear hfz23_0
             try clear hfz23_1
             try clear hfz23_2
             try clear hfz23_3
             try clear hfz23_4
             try clear hfz23_5
             try clear hfz23_6
             try clear hfz23_7
             try clear hfz23_8
             try clear hfz23_9
             try clear hfz28_0
             try clear hfz28_1
             try clear hfz28_2
             try clear hfz28_3
             try clear hfz28_4
             try clear hfz28_5
             try clear hfz28_6
             try clear hfz28_7
             try clear hfz28_8
             try clear hfz28_9
             try clear hfz29_0
             try clear hfz29_1
             try clear hfz29_2
             try clear hfz36_0
             try clear hfz36_1
             try clear hfz36_2
             try clear hfz36_3
             try clear hfz36_4
             try clear hfz36_5
             try clear hfz36_6
             try clear hfz36_7
             try clear hfz36_8
             try clear hfz36_9
             try clear hfz37_0
             try clear hfz37_1
             try clear hfz37_2
             try clear hfz39_0
             try clear hfz39_1
             try clear hfz39_2
             try clear hfz39_3
             try clear hfz39_4
             try clear hfz39_5
             try clear hfz39_6
             try clear hfz39_7
             try clear hfz39_8
             try clear hfz39_9
             try clear hfz40_0
             try clear hfz40_1
             try clear hfz40_2
             try clear hfz42_0
             try clear hfz42_1
             try clear hfz42_2
             try clear hfz42_3
             try clear hfz42_4
             try clear hfz42_5
             try clear hfz42_6
             try clear hfz42_7
             try clear hfz42_8
             try clear hfz42_9
             try clear hfz43_0
             try clear hfz43_1
             try clear hfz43_2
             try clear hfz7_0
             try clear hfz7_1
             try clear hfz7_2
             try clear hfz8_0
             try clear hfz8_1
             try clear hfz8_2
             try clear hfz9_0
             try clear hfz9_1
             try clear hfz9_2
             try clear hx110_0
             try clear hx110_1
             try clear hx110_2
             try clear hx110_3
             try clear hx110_4
             try clear hx110_5
             try clear hx110_6
             try clear hx110_7
             try clear hx110_8
             try clear hx110_9
             try clear hx117_0
             try clear hx117_1
             try clear hx117_2
             try clear hx117_3
             try clear hx117_4
             try clear hx117_5
             try clear hx117_6
             try clear hx117_7
             try clear hx117_8
             try clear hx117_9
             try clear p110
             try clear p117
             try clear p2
             try clear q110
             try clear q117
             obtain ⟨kq, x51_19, rfl, HA, HJ19, BK108, BK111, HB⟩ := hcut
             cases kq with
             | zero => exact absurd HA.out (by simp [sender_Check.j2])
             | succ kj19 =>
              have H := HA.out
              clear HA
              simp only [sender_Check.j2] at H
              by_cases c44 : x51_19 = true
              ·subst c44
               have H1 : (some 5) = some r := by rw [if_pos rfl] at H; exact H
               clear H
               have H := H1
               clear H1
               obtain rfl := Option.some.inj H
               go_wp2
               repeat (go_quiet (fail); try go_wp2)
               go_ret
               exact ⟨by first | rfl | (simp [errW_none, errW_some] <;> rfl) | (simp [*, errW_none, errW_some] <;> rfl), GS.lB HB.out⟩
              ·replace c44 := Bool.eq_false_iff.mpr c44
               subst c44
               have H1 : (sender_Check.l0 kj19 l0_2 (l0_2.length : Int) (wrap64 (x30_2 + 1)) a0_0 a0_1 l0_2) = some r := by rw [if_neg (show ¬ (false = true) by decide)] at H; exact H
               clear H
               have H := H1
               clear H1
               have H' := Aside0.mk H
               clear H
               go_wp2
               repeat (go_quiet (fail); try go_wp2)
               go_roundg kj19
               case measure => have := HJ1.out; have := HK2.out; have := HJ19.out; omega
               case rel => exact ⟨(wrap64 (x30_2 + 1)), (by first | rfl | (simp; done) | (simp [*]; done)), H', ⟨by have := HJ1.out; have := HK2.out; have := HJ19.out; omega⟩, ⟨GS.bqX BK108.out⟩, ⟨GS.lB HB.out⟩⟩
           ·rw [if_neg c19] at H
            have c19b0 : (((rd_T33 l0_2 x30_2).f0) == a0_0) = false := beq_eq_false_iff_ne.mpr c19
            try simp only [beq_self_eq_true, Bool.not_true, Bool.false_or, Bool.true_and] at c19b0
            have c19b1 : (((rd_T33 l0_2 x30_2).f0) != a0_0) = true := bne_iff_ne.mpr c19
            obtain rfl := Option.some.inj H
            have p110 : 0 ≤ (x30_2 : Int) := of_decide_eq_true (by first | (with_reducible assumption) | assumption)
            have q110 : x30_2 < (l0_2.length : Int) := of_decide_eq_true (by first | (with_reducible assumption) | assumption)
            obtain ⟨ad110, e110, hx110_0, hx110_1, hx110_2, hx110_3, hx110_4, hx110_5, hx110_6, hx110_7, hx110_8, hx110_9⟩ := at_T33 HR0_2.out x30_2 p110 q110
            cases e110
            replace hx110_0 := (HB.out.cell (World.block_lt_of_cell? w _ hx110_0)).trans hx110_0
            replace hx110_1 := (HB.out.cell (World.block_lt_of_cell? w _ hx110_1)).trans hx110_1
            replace hx110_2 := (HB.out.cell (World.block_lt_of_cell? w _ hx110_2)).trans hx110_2
            replace hx110_3 := (HB.out.cell (World.block_lt_of_cell? w _ hx110_3)).trans hx110_3
            replace hx110_4 := (HB.out.cell (World.block_lt_of_cell? w _ hx110_4)).trans hx110_4
            replace hx110_5 := (HB.out.cell (World.block_lt_of_cell? w _ hx110_5)).trans hx110_5
            replace hx110_6 := (HB.out.cell (World.block_lt_of_cell? w _ hx110_6)).trans hx110_6
            replace hx110_7 := (HB.out.cell (World.block_lt_of_cell? w _ hx110_7)).trans hx110_7
            replace hx110_8 := (HB.out.cell (World.block_lt_of_cell? w _ hx110_8)).trans hx110_8
            replace hx110_9 := (HB.out.cell (World.block_lt_of_cell? w _ hx110_9)).trans hx110_9
            replace p110 := eq_true p110
            replace q110 := eq_true q110
            go_wp2_with (first | ((with_reducible refine gqD (N := 4) rfl ?_); refine GS.bx (N := 4) (cs := #[.int .i64 0, .int .i64 0, .int .i64 0, .int .i64 0, .int .i64 0, .int .i64 0, .int .i64 0, .int .i64 0, .int .i64 0, .int .i64 0]) (t := 33) ?_; intro gb111 hg w45 hbox hb; have n0_ := Aside0.mk (bqB (GS.bqX BK108.out) hb); have n1_ := Aside0.mk (lqT (GS.lB HB.out) hb); have n2_ := Aside0.mk (hbox); have n3_ := Aside0.mk ((by rw [hg]; exact (lqZ (GS.lB HB.out)) : w.heap.size ≤ gb111)); have n4_ := Aside0.mk ((by rw [hg]; exact (lqZ (GS.lB HB.out)) : w.heap.size ≤ gb111)); have n5_ := Aside0.mk ((by rw [hg]; exact Nat.ne_of_lt (blk_lt (GS.bqX BK108.out)) : gb108 ≠ gb111)); have n6_ := Aside0.mk ((by rw [hg]; exact Nat.ne_of_gt (blk_lt (GS.bqX BK108.out)) : gb111 ≠ gb108)); clear BK108; clear HB; have BK108 := n0_; have HB := n1_; have BK111 := n2_; have GW111 := n3_; have GE111 := n4_; have NB108_111 := n5_; have NB111_108 := n6_; clear n0_ n1_ n2_ n3_ n4_ n5_ n6_; clear hb hbox hg; have hnb46 := NB111_108.out; have hnc46 := NB108_111.out; obtain ⟨hcz47_0, hcz47_1, hcz47_2, hcz47_3, hcz47_4, hcz47_5, hcz47_6, hcz47_7, hcz47_8, hcz47_9, hfz47_0, hfz47_1, hfz47_2, hfz47_3, hfz47_4, hfz47_5, hfz47_6, hfz47_7, hfz47_8, hfz47_9⟩ := GS.c10 BK111.out) | ((with_reducible refine gqD (N := 37) rfl ?_); refine Kd.R_lit k33 _ 33 ?hg (N := 37) ?hd (xs := ([(⟨(rd_T33 l0_2 x30_2).f0, (rd_T33 l0_2 x30_2).f1, (rd_T33 l0_2 x30_2).f2, (⟨(rd_T33 l0_2 x30_2).f3.f0, (rd_T33 l0_2 x30_2).f3.f1, (rd_T33 l0_2 x30_2).f3.f2, (rd_T33 l0_2 x30_2).f3.f3, (rd_T33 l0_2 x30_2).f3.f4, (rd_T33 l0_2 x30_2).f3.f5, (rd_T33 l0_2 x30_2).f3.f6⟩ : S26)⟩ : S33)] : List (S33))) (inner := [.int .i64 ((rd_T33 l0_2 x30_2).f0), .int .i64 ((rd_T33 l0_2 x30_2).f1), .int .i64 ((rd_T33 l0_2 x30_2).f2), .int .i64 ((rd_T33 l0_2 x30_2).f3.f0), .int .i64 ((rd_T33 l0_2 x30_2).f3.f1), .int .i64 ((rd_T33 l0_2 x30_2).f3.f2), .int .i64 ((rd_T33 l0_2 x30_2).f3.f3), .int .i64 ((rd_T33 l0_2 x30_2).f3.f4), .int .i64 ((rd_T33 l0_2 x30_2).f3.f5), .int .i64 ((rd_T33 l0_2 x30_2).f3.f6)]) (ok := fun _ => True) (okp := fun _ => True) ?hr ?hp (fun _ hk => hk) trivial (Below.refl _ _) (Nat.le_refl _) (by simp) ?_; (case hd => rfl); (case hg => rfl); (case hr => first | (go_simp; done) | (go_simp; rfl)); (case hp => exact (Reps.c10 (show Kd.M k33 _ _ _ (⟨(rd_T33 l0_2 x30_2).f0, (rd_T33 l0_2 x30_2).f1, (rd_T33 l0_2 x30_2).f2, (⟨(rd_T33 l0_2 x30_2).f3.f0, (rd_T33 l0_2 x30_2).f3.f1, (rd_T33 l0_2 x30_2).f3.f2, (rd_T33 l0_2 x30_2).f3.f3, (rd_T33 l0_2 x30_2).f3.f4, (rd_T33 l0_2 x30_2).f3.f5, (rd_T33 l0_2 x30_2).f3.f6⟩ : S26)⟩ : S33) [.int .i64 ((rd_T33 l0_2 x30_2).f0), .int .i64 ((rd_T33 l0_2 x30_2).f1), .int .i64 ((rd_T33 l0_2 x30_2).f2), .int .i64 ((rd_T33 l0_2 x30_2).f3.f0), .int .i64 ((rd_T33 l0_2 x30_2).f3.f1), .int .i64 ((rd_T33 l0_2 x30_2).f3.f2), .int .i64 ((rd_T33 l0_2 x30_2).f3.f3), .int .i64 ((rd_T33 l0_2 x30_2).f3.f4), .int .i64 ((rd_T33 l0_2 x30_2).f3.f5), .int .i64 ((rd_T33 l0_2 x30_2).f3.f6)] from (k33_mkM _ _ _ (⟨(rd_T33 l0_2 x30_2).f0, (rd_T33 l0_2 x30_2).f1, (rd_T33 l0_2 x30_2).f2, (⟨(rd_T33 l0_2 x30_2).f3.f0, (rd_T33 l0_2 x30_2).f3.f1, (rd_T33 l0_2 x30_2).f3.f2, (rd_T33 l0_2 x30_2).f3.f3, (rd_T33 l0_2 x30_2).f3.f4, (rd_T33 l0_2 x30_2).f3.f5, (rd_T33 l0_2 x30_2).f3.f6⟩ : S26)⟩ : S33) )) (Reps.none _ _))); intro v113 w48 ho49 hb hg_ hnew_; clear hg_ hnew_; (first | rw [← Ny112.out] at ho49 | (simp only [Int.reduceToNat] at ho49; rw [← Ny112.out] at ho49)); have n0_ := Aside0.mk (Kd.R_lower (Kd.R_newB ho49 (g := gb111) (o := .cells #[.int .i64 ((rd_T33 l0_2 x30_2).f0), .int .i64 ((rd_T33 l0_2 x30_2).f1), .int .i64 ((rd_T33 l0_2 x30_2).f2), .int .i64 ((rd_T33 l0_2 x30_2).f3.f0), .int .i64 ((rd_T33 l0_2 x30_2).f3.f1), .int .i64 ((rd_T33 l0_2 x30_2).f3.f2), .int .i64 ((rd_T33 l0_2 x30_2).f3.f3), .int .i64 ((rd_T33 l0_2 x30_2).f3.f4), .int .i64 ((rd_T33 l0_2 x30_2).f3.f5), .int .i64 ((rd_T33 l0_2 x30_2).f3.f6)] 33 (0, 0)) (GS.bqZ BK111.out)) (lqZ (GS.lB HB.out))); have n1_ := Aside0.mk (bqB (GS.bqX BK108.out) hb); have n2_ := Aside0.mk (bqB (g := gb111) (o := .cells #[.int .i64 ((rd_T33 l0_2 x30_2).f0), .int .i64 ((rd_T33 l0_2 x30_2).f1), .int .i64 ((rd_T33 l0_2 x30_2).f2), .int .i64 ((rd_T33 l0_2 x30_2).f3.f0), .int .i64 ((rd_T33 l0_2 x30_2).f3.f1), .int .i64 ((rd_T33 l0_2 x30_2).f3.f2), .int .i64 ((rd_T33 l0_2 x30_2).f3.f3), .int .i64 ((rd_T33 l0_2 x30_2).f3.f4), .int .i64 ((rd_T33 l0_2 x30_2).f3.f5), .int .i64 ((rd_T33 l0_2 x30_2).f3.f6)] 33 (0, 0)) (GS.bqZ BK111.out) hb); have n3_ := Aside0.mk (lqT (GS.lB HB.out) hb); clear BK108; clear BK111; clear HB; have HO114 := n0_; have BK108 := n1_; have BK111 := n2_; have HB := n3_; clear n0_ n1_ n2_ n3_; clear hb ho49; obtain ⟨Ao50, co50, eo50⟩ := Kd.R_slice HO114.out; subst eo50) | (go_at_call 45; (with_reducible refine (network_Check.calls k2 _ _ y112 t115 t116 _ ?side1 ?side2 A17.out).mono ?_); (case side1 => repeat (first | exact (Kd.R_reads' HO114.out).2.2 | (with_reducible refine Kd.C_alloc ?_ _) | (with_reducible refine Kd.C_drewN ?_ _) | (with_reducible refine Kd.C_drew ?_))); (case side2 => exact (Kd.R_reads' HO114.out).2.1); rintro e w51 ⟨rfl, hb⟩; have n0_ := Aside0.mk (Kd.R_below (GS.rR HO114.out) hb); have n1_ := Aside0.mk (bqB (GS.bqX BK108.out) hb); have n2_ := Aside0.mk (bqB (GS.bqX BK111.out) hb); have n3_ := Aside0.mk (lqT (GS.lB HB.out) hb); clear HO114; clear BK108; clear BK111; clear HB; have HO114 := n0_; have BK108 := n1_; have BK111 := n2_; have HB := n3_; clear n0_ n1_ n2_ n3_; (try clear hb); (try clear hb2); (try clear hk); (try clear hi); obtain ⟨hcz52_0, hcz52_1, hcz52_2, hcz52_3, hcz52_4, hcz52_5, hcz52_6, hcz52_7, hcz52_8, hcz52_9, hfz52_0, hfz52_1, hfz52_2, hfz52_3, hfz52_4, hfz52_5, hfz52_6, hfz52_7, hfz52_8, hfz52_9⟩ := GS.c10 BK111.out; obtain ⟨hcz53_0, hcz53_1, hcz53_2, hfz53_0, hfz53_1, hfz53_2⟩ := GS.c3 BK108.out))
            repeat (go_quiet (first | ((with_reducible refine gqD (N := 4) rfl ?_); refine GS.bx (N := 4) (cs := #[.int .i64 0, .int .i64 0, .int .i64 0, .int .i64 0, .int .i64 0, .int .i64 0, .int .i64 0, .int .i64 0, .int .i64 0, .int .i64 0]) (t := 33) ?_; intro gb111 hg w45 hbox hb; have n0_ := Aside0.mk (bqB (GS.bqX BK108.out) hb); have n1_ := Aside0.mk (lqT (GS.lB HB.out) hb); have n2_ := Aside0.mk (hbox); have n3_ := Aside0.mk ((by rw [hg]; exact (lqZ (GS.lB HB.out)) : w.heap.size ≤ gb111)); have n4_ := Aside0.mk ((by rw [hg]; exact (lqZ (GS.lB HB.out)) : w.heap.size ≤ gb111)); have n5_ := Aside0.mk ((by rw [hg]; exact Nat.ne_of_lt (blk_lt (GS.bqX BK108.out)) : gb108 ≠ gb111)); have n6_ := Aside0.mk ((by rw [hg]; exact Nat.ne_of_gt (blk_lt (GS.bqX BK108.out)) : gb111 ≠ gb108)); clear BK108; clear HB; have BK108 := n0_; have HB := n1_; have BK111 := n2_; have GW111 := n3_; have GE111 := n4_; have NB108_111 := n5_; have NB111_108 := n6_; clear n0_ n1_ n2_ n3_ n4_ n5_ n6_; clear hb hbox hg; have hnb46 := NB111_108.out; have hnc46 := NB108_111.out; obtain ⟨hcz47_0, hcz47_1, hcz47_2, hcz47_3, hcz47_4, hcz47_5, hcz47_6, hcz47_7, hcz47_8, hcz47_9, hfz47_0, hfz47_1, hfz47_2, hfz47_3, hfz47_4, hfz47_5, hfz47_6, hfz47_7, hfz47_8, hfz47_9⟩ := GS.c10 BK111.out) | ((with_reducible refine gqD (N := 37) rfl ?_); refine Kd.R_lit k33 _ 33 ?hg (N := 37) ?hd (xs := ([(⟨(rd_T33 l0_2 x30_2).f0, (rd_T33 l0_2 x30_2).f1, (rd_T33 l0_2 x30_2).f2, (⟨(rd_T33 l0_2 x30_2).f3.f0, (rd_T33 l0_2 x30_2).f3.f1, (rd_T33 l0_2 x30_2).f3.f2, (rd_T33 l0_2 x30_2).f3.f3, (rd_T33 l0_2 x30_2).f3.f4, (rd_T33 l0_2 x30_2).f3.f5, (rd_T33 l0_2 x30_2).f3.f6⟩ : S26)⟩ : S33)] : List (S33))) (inner := [.int .i64 ((rd_T33 l0_2 x30_2).f0), .int .i64 ((rd_T33 l0_2 x30_2).f1), .int .i64 ((rd_T33 l0_2 x30_2).f2), .int .i64 ((rd_T33 l0_2 x30_2).f3.f0), .int .i64 ((rd_T33 l0_2 x30_2).f3.f1), .int .i64 ((rd_T33 l0_2 x30_2).f3.f2), .int .i64 ((rd_T33 l0_2 x30_2).f3.f3), .int .i64 ((rd_T33 l0_2 x30_2).f3.f4), .int .i64 ((rd_T33 l0_2 x30_2).f3.f5), .int .i64 ((rd_T33 l0_2 x30_2).f3.f6)]) (ok := fun _ => True) (okp := fun _ => True) ?hr ?hp (fun _ hk => hk) trivial (Below.refl _ _) (Nat.le_refl _) (by simp) ?_; (case hd => rfl); (case hg => rfl); (case hr => first | (go_simp; done) | (go_simp; rfl)); (case hp => exact (Reps.c10 (show Kd.M k33 _ _ _ (⟨(rd_T33 l0_2 x30_2).f0, (rd_T33 l0_2 x30_2).f1, (rd_T33 l0_2 x30_2).f2, (⟨(rd_T33 l0_2 x30_2).f3.f0, (rd_T33 l0_2 x30_2).f3.f1, (rd_T33 l0_2 x30_2).f3.f2, (rd_T33 l0_2 x30_2).f3.f3, (rd_T33 l0_2 x30_2).f3.f4, (rd_T33 l0_2 x30_2).f3.f5, (rd_T33 l0_2 x30_2).f3.f6⟩ : S26)⟩ : S33) [.int .i64 ((rd_T33 l0_2 x30_2).f0), .int .i64 ((rd_T33 l0_2 x30_2).f1), .int .i64 ((rd_T33 l0_2 x30_2).f2), .int .i64 ((rd_T33 l0_2 x30_2).f3.f0), .int .i64 ((rd_T33 l0_2 x30_2).f3.f1), .int .i64 ((rd_T33 l0_2 x30_2).f3.f2), .int .i64 ((rd_T33 l0_2 x30_2).f3.f3), .int .i64 ((rd_T33 l0_2 x30_2).f3.f4), .int .i64 ((rd_T33 l0_2 x30_2).f3.f5), .int .i64 ((rd_T33 l0_2 x30_2).f3.f6)] from (k33_mkM _ _ _ (⟨(rd_T33 l0_2 x30_2).f0, (rd_T33 l0_2 x30_2).f1, (rd_T33 l0_2 x30_2).f2, (⟨(rd_T33 l0_2 x30_2).f3.f0, (rd_T33 l0_2 x30_2).f3.f1, (rd_T33 l0_2 x30_2).f3.f2, (rd_T33 l0_2 x30_2).f3.f3, (rd_T33 l0_2 x30_2).f3.f4, (rd_T33 l0_2 x30_2).f3.f5, (rd_T33 l0_2 x30_2).f3.f6⟩ : S26)⟩ : S33) )) (Reps.none _ _))); intro v113 w48 ho49 hb hg_ hnew_; clear hg_ hnew_; (first | rw [← Ny112.out] at ho49 | (simp only [Int.reduceToNat] at ho49; rw [← Ny112.out] at ho49)); have n0_ := Aside0.mk (Kd.R_lower (Kd.R_newB ho49 (g := gb111) (o := .cells #[.int .i64 ((rd_T33 l0_2 x30_2).f0), .int .i64 ((rd_T33 l0_2 x30_2).f1), .int .i64 ((rd_T33 l0_2 x30_2).f2), .int .i64 ((rd_T33 l0_2 x30_2).f3.f0), .int .i64 ((rd_T33 l0_2 x30_2).f3.f1), .int .i64 ((rd_T33 l0_2 x30_2).f3.f2), .int .i64 ((rd_T33 l0_2 x30_2).f3.f3), .int .i64 ((rd_T33 l0_2 x30_2).f3.f4), .int .i64 ((rd_T33 l0_2 x30_2).f3.f5), .int .i64 ((rd_T33 l0_2 x30_2).f3.f6)] 33 (0, 0)) (GS.bqZ BK111.out)) (lqZ (GS.lB HB.out))); have n1_ := Aside0.mk (bqB (GS.bqX BK108.out) hb); have n2_ := Aside0.mk (bqB (g := gb111) (o := .cells #[.int .i64 ((rd_T33 l0_2 x30_2).f0), .int .i64 ((rd_T33 l0_2 x30_2).f1), .int .i64 ((rd_T33 l0_2 x30_2).f2), .int .i64 ((rd_T33 l0_2 x30_2).f3.f0), .int .i64 ((rd_T33 l0_2 x30_2).f3.f1), .int .i64 ((rd_T33 l0_2 x30_2).f3.f2), .int .i64 ((rd_T33 l0_2 x30_2).f3.f3), .int .i64 ((rd_T33 l0_2 x30_2).f3.f4), .int .i64 ((rd_T33 l0_2 x30_2).f3.f5), .int .i64 ((rd_T33 l0_2 x30_2).f3.f6)] 33 (0, 0)) (GS.bqZ BK111.out) hb); have n3_ := Aside0.mk (lqT (GS.lB HB.out) hb); clear BK108; clear BK111; clear HB; have HO114 := n0_; have BK108 := n1_; have BK111 := n2_; have HB := n3_; clear n0_ n1_ n2_ n3_; clear hb ho49; obtain ⟨Ao50, co50, eo50⟩ := Kd.R_slice HO114.out; subst eo50) | (go_at_call 45; (with_reducible refine (network_Check.calls k2 _ _ y112 t115 t116 _ ?side1 ?side2 A17.out).mono ?_); (case side1 => repeat (first | exact (Kd.R_reads' HO114.out).2.2 | (with_reducible refine Kd.C_alloc ?_ _) | (with_reducible refine Kd.C_drewN ?_ _) | (with_reducible refine Kd.C_drew ?_))); (case side2 => exact (Kd.R_reads' HO114.out).2.1); rintro e w51 ⟨rfl, hb⟩; have n0_ := Aside0.mk (Kd.R_below (GS.rR HO114.out) hb); have n1_ := Aside0.mk (bqB (GS.bqX BK108.out) hb); have n2_ := Aside0.mk (bqB (GS.bqX BK111.out) hb); have n3_ := Aside0.mk (lqT (GS.lB HB.out) hb); clear HO114; clear BK108; clear BK111; clear HB; have HO114 := n0_; have BK108 := n1_; have BK111 := n2_; have HB := n3_; clear n0_ n1_ n2_ n3_; (try clear hb); (try clear hb2); (try clear hk); (try clear hi); obtain ⟨hcz52_0, hcz52_1, hcz52_2, hcz52_3, hcz52_4, hcz52_5, hcz52_6, hcz52_7, hcz52_8, hcz52_9, hfz52_0, hfz52_1, hfz52_2, hfz52_3, hfz52_4, hfz52_5, hfz52_6, hfz52_7, hfz52_8, hfz52_9⟩ := GS.c10 BK111.out; obtain ⟨hcz53_0, hcz53_1, hcz53_2, hfz53_0, hfz53_1, hfz53_2⟩ := GS.c3 BK108.out)); try go_wp2_with (first | ((with_reducible refine gqD (N := 4) rfl ?_); refine GS.bx (N := 4) (cs := #[.int .i64 0, .int .i64 0, .int .i64 0, .int .i64 0, .int .i64 0, .int .i64 0, .int .i64 0, .int .i64 0, .int .i64 0, .int .i64 0]) (t := 33) ?_; intro gb111 hg w45 hbox hb; have n0_ := Aside0.mk (bqB (GS.bqX BK108.out) hb); have n1_ := Aside0.mk (lqT (GS.lB HB.out) hb); have n2_ := Aside0.mk (hbox); have n3_ := Aside0.mk ((by rw [hg]; exact (lqZ (GS.lB HB.out)) : w.heap.size ≤ gb111)); have n4_ := Aside0.mk ((by rw [hg]; exact (lqZ (GS.lB HB.out)) : w.heap.size ≤ gb111)); have n5_ := Aside0.mk ((by rw [hg]; exact Nat.ne_of_lt (blk_lt (GS.bqX BK108.out)) : gb108 ≠ gb111)); have n6_ := Aside0.mk ((by rw [hg]; exact Nat.ne_of_gt (blk_lt (GS.bqX BK108.out)) : gb111 ≠ gb108)); clear BK108; clear HB; have BK108 := n0_; have HB := n1_; have BK111 := n2_; have GW111 := n3_; have GE111 := n4_; have NB108_111 := n5_; have NB111_108 := n6_; clear n0_ n1_ n2_ n3_ n4_ n5_ n6_; clear hb hbox hg; have hnb46 := NB111_108.out; have hnc46 := NB108_111.out; obtain ⟨hcz47_0, hcz47_1, hcz47_2, hcz47_3, hcz47_4, hcz47_5, hcz47_6, hcz47_7, hcz47_8, hcz47_9, hfz47_0, hfz47_1, hfz47_2, hfz47_3, hfz47_4, hfz47_5, hfz47_6, hfz47_7, hfz47_8, hfz47_9⟩ := GS.c10 BK111.out) | ((with_reducible refine gqD (N := 37) rfl ?_); refine Kd.R_lit k33 _ 33 ?hg (N := 37) ?hd (xs := ([(⟨(rd_T33 l0_2 x30_2).f0, (rd_T33 l0_2 x30_2).f1, (rd_T33 l0_2 x30_2).f2, (⟨(rd_T33 l0_2 x30_2).f3.f0, (rd_T33 l0_2 x30_2).f3.f1, (rd_T33 l0_2 x30_2).f3.f2, (rd_T33 l0_2 x30_2).f3.f3, (rd_T33 l0_2 x30_2).f3.f4, (rd_T33 l0_2 x30_2).f3.f5, (rd_T33 l0_2 x30_2).f3.f6⟩ : S26)⟩ : S33)] : List (S33))) (inner := [.int .i64 ((rd_T33 l0_2 x30_2).f0), .int .i64 ((rd_T33 l0_2 x30_2).f1), .int .i64 ((rd_T33 l0_2 x30_2).f2), .int .i64 ((rd_T33 l0_2 x30_2).f3.f0), .int .i64 ((rd_T33 l0_2 x30_2).f3.f1), .int .i64 ((rd_T33 l0_2 x30_2).f3.f2), .int .i64 ((rd_T33 l0_2 x30_2).f3.f3), .int .i64 ((rd_T33 l0_2 x30_2).f3.f4), .int .i64 ((rd_T33 l0_2 x30_2).f3.f5), .int .i64 ((rd_T33 l0_2 x30_2).f3.f6)]) (ok := fun _ => True) (okp := fun _ => True) ?hr ?hp (fun _ hk => hk) trivial (Below.refl _ _) (Nat.le_refl _) (by simp) ?_; (case hd => rfl); (case hg => rfl); (case hr => first | (go_simp; done) | (go_simp; rfl)); (case hp => exact (Reps.c10 (show Kd.M k33 _ _ _ (⟨(rd_T33 l0_2 x30_2).f0, (rd_T33 l0_2 x30_2).f1, (rd_T33 l0_2 x30_2).f2, (⟨(rd_T33 l0_2 x30_2).f3.f0, (rd_T33 l0_2 x30_2).f3.f1, (rd_T33 l0_2 x30_2).f3.f2, (rd_T33 l0_2 x30_2).f3.f3, (rd_T33 l0_2 x30_2).f3.f4, (rd_T33 l0_2 x30_2).f3.f5, (rd_T33 l0_2 x30_2).f3.f6⟩ : S26)⟩ : S33) [.int .i64 ((rd_T33 l0_2 x30_2).f0), .int .i64 ((rd_T33 l0_2 x30_2).f1), .int .i64 ((rd_T33 l0_2 x30_2).f2), .int .i64 ((rd_T33 l0_2 x30_2).f3.f0), .int .i64 ((rd_T33 l0_2 x30_2).f3.f1), .int .i64 ((rd_T33 l0_2 x30_2).f3.f2), .int .i64 ((rd_T33 l0_2 x30_2).f3.f3), .int .i64 ((rd_T33 l0_2 x30_2).f3.f4), .int .i64 ((rd_T33 l0_2 x30_2).f3.f5), .int .i64 ((rd_T33 l0_2 x30_2).f3.f6)] from (k33_mkM _ _ _ (⟨(rd_T33 l0_2 x30_2).f0, (rd_T33 l0_2 x30_2).f1, (rd_T33 l0_2 x30_2).f2, (⟨(rd_T33 l0_2 x30_2).f3.f0, (rd_T33 l0_2 x30_2).f3.f1, (rd_T33 l0_2 x30_2).f3.f2, (rd_T33 l0_2 x30_2).f3.f3, (rd_T33 l0_2 x30_2).f3.f4, (rd_T33 l0_2 x30_2).f3.f5, (rd_T33 l0_2 x30_2).f3.f6⟩ : S26)⟩ : S33) )) (Reps.none _ _))); intro v113 w48 ho49 hb hg_ hnew_; clear hg_ hnew_; (first | rw [← Ny112.out] at ho49 | (simp only [Int.reduceToNat] at ho49; rw [← Ny112.out] at ho49)); have n0_ := Aside0.mk (Kd.R_lower (Kd.R_newB ho49 (g := gb111) (o := .cells #[.int .i64 ((rd_T33 l0_2 x30_2).f0), .int .i64 ((rd_T33 l0_2 x30_2).f1), .int .i64 ((rd_T33 l0_2 x30_2).f2), .int .i64 ((rd_T33 l0_2 x30_2).f3.f0), .int .i64 ((rd_T33 l0_2 x30_2).f3.f1), .int .i64 ((rd_T33 l0_2 x30_2).f3.f2), .int .i64 ((rd_T33 l0_2 x30_2).f3.f3), .int .i64 ((rd_T33 l0_2 x30_2).f3.f4), .int .i64 ((rd_T33 l0_2 x30_2).f3.f5), .int .i64 ((rd_T33 l0_2 x30_2).f3.f6)] 33 (0, 0)) (GS.bqZ BK111.out)) (lqZ (GS.lB HB.out))); have n1_ := Aside0.mk (bqB (GS.bqX BK108.out) hb); have n2_ := Aside0.mk (bqB (g := gb111) (o := .cells #[.int .i64 ((rd_T33 l0_2 x30_2).f0), .int .i64 ((rd_T33 l0_2 x30_2).f1), .int .i64 ((rd_T33 l0_2 x30_2).f2), .int .i64 ((rd_T33 l0_2 x30_2).f3.f0), .int .i64 ((rd_T33 l0_2 x30_2).f3.f1), .int .i64 ((rd_T33 l0_2 x30_2).f3.f2), .int .i64 ((rd_T33 l0_2 x30_2).f3.f3), .int .i64 ((rd_T33 l0_2 x30_2).f3.f4), .int .i64 ((rd_T33 l0_2 x30_2).f3.f5), .int .i64 ((rd_T33 l0_2 x30_2).f3.f6)] 33 (0, 0)) (GS.bqZ BK111.out) hb); have n3_ := Aside0.mk (lqT (GS.lB HB.out) hb); clear BK108; clear BK111; clear HB; have HO114 := n0_; have BK108 := n1_; have BK111 := n2_; have HB := n3_; clear n0_ n1_ n2_ n3_; clear hb ho49; obtain ⟨Ao50, co50, eo50⟩ := Kd.R_slice HO114.out; subst eo50) | (go_at_call 45; (with_reducible refine (network_Check.calls k2 _ _ y112 t115 t116 _ ?side1 ?side2 A17.out).mono ?_); (case side1 => repeat (first | exact (Kd.R_reads' HO114.out).2.2 | (with_reducible refine Kd.C_alloc ?_ _) | (with_reducible refine Kd.C_drewN ?_ _) | (with_reducible refine Kd.C_drew ?_))); (case side2 => exact (Kd.R_reads' HO114.out).2.1); rintro e w51 ⟨rfl, hb⟩; have n0_ := Aside0.mk (Kd.R_below (GS.rR HO114.out) hb); have n1_ := Aside0.mk (bqB (GS.bqX BK108.out) hb); have n2_ := Aside0.mk (bqB (GS.bqX BK111.out) hb); have n3_ := Aside0.mk (lqT (GS.lB HB.out) hb); clear HO114; clear BK108; clear BK111; clear HB; have HO114 := n0_; have BK108 := n1_; have BK111 := n2_; have HB := n3_; clear n0_ n1_ n2_ n3_; (try clear hb); (try clear hb2); (try clear hk); (try clear hi); obtain ⟨hcz52_0, hcz52_1, hcz52_2, hcz52_3, hcz52_4, hcz52_5, hcz52_6, hcz52_7, hcz52_8, hcz52_9, hfz52_0, hfz52_1, hfz52_2, hfz52_3, hfz52_4, hfz52_5, hfz52_6, hfz52_7, hfz52_8, hfz52_9⟩ := GS.c10 BK111.out; obtain ⟨hcz53_0, hcz53_1, hcz53_2, hfz53_0, hfz53_1, hfz53_2⟩ := GS.c3 BK108.out)))
            go_ret
            exact ⟨by first | rfl | (simp [errW_none, errW_some] <;> rfl) | (simp [*, errW_none, errW_some] <;> rfl), GS.lB HB.out⟩
          ·rw [if_neg c18] at H
           have c18b0 : (t116 == 0) = false := beq_eq_false_iff_ne.mpr c18
           try simp only [beq_self_eq_true, Bool.not_true, Bool.false_or, Bool.true_and] at c18b0
           have c18b1 : (t116 != 0) = true := bne_iff_ne.mpr c18
           obtain rfl := Option.some.inj H
           have p110 : 0 ≤ (x30_2 : Int) := of_decide_eq_true (by first | (with_reducible assumption) | assumption)
           have q110 : x30_2 < (l0_2.length : Int) := of_decide_eq_true (by first | (with_reducible assumption) | assumption)
           obtain ⟨ad110, e110, hx110_0, hx110_1, hx110_2, hx110_3, hx110_4, hx110_5, hx110_6, hx110_7, hx110_8, hx110_9⟩ := at_T33 HR0_2.out x30_2 p110 q110
           cases e110
           replace hx110_0 := (HB.out.cell (World.block_lt_of_cell? w _ hx110_0)).trans hx110_0
           replace hx110_1 := (HB.out.cell (World.block_lt_of_cell? w _ hx110_1)).trans hx110_1
           replace hx110_2 := (HB.out.cell (World.block_lt_of_cell? w _ hx110_2)).trans hx110_2
           replace hx110_3 := (HB.out.cell (World.block_lt_of_cell? w _ hx110_3)).trans hx110_3
           replace hx110_4 := (HB.out.cell (World.block_lt_of_cell? w _ hx110_4)).trans hx110_4
           replace hx110_5 := (HB.out.cell (World.block_lt_of_cell? w _ hx110_5)).trans hx110_5
           replace hx110_6 := (HB.out.cell (World.block_lt_of_cell? w _ hx110_6)).trans hx110_6
           replace hx110_7 := (HB.out.cell (World.block_lt_of_cell? w _ hx110_7)).trans hx110_7
           replace hx110_8 := (HB.out.cell (World.block_lt_of_cell? w _ hx110_8)).trans hx110_8
           replace hx110_9 := (HB.out.cell (World.block_lt_of_cell? w _ hx110_9)).trans hx110_9
           replace p110 := eq_true p110
           replace q110 := eq_true q110
           go_wp2_with (first | ((with_reducible refine gqD (N := 4) rfl ?_); refine GS.bx (N := 4) (cs := #[.int .i64 0, .int .i64 0, .int .i64 0, .int .i64 0, .int .i64 0, .int .i64 0, .int .i64 0, .int .i64 0, .int .i64 0, .int .i64 0]) (t := 33) ?_; intro gb111 hg w54 hbox hb; have n0_ := Aside0.mk (bqB (GS.bqX BK108.out) hb); have n1_ := Aside0.mk (lqT (GS.lB HB.out) hb); have n2_ := Aside0.mk (hbox); have n3_ := Aside0.mk ((by rw [hg]; exact (lqZ (GS.lB HB.out)) : w.heap.size ≤ gb111)); have n4_ := Aside0.mk ((by rw [hg]; exact (lqZ (GS.lB HB.out)) : w.heap.size ≤ gb111)); have n5_ := Aside0.mk ((by rw [hg]; exact Nat.ne_of_lt (blk_lt (GS.bqX BK108.out)) : gb108 ≠ gb111)); have n6_ := Aside0.mk ((by rw [hg]; exact Nat.ne_of_gt (blk_lt (GS.bqX BK108.out)) : gb111 ≠ gb108)); clear BK108; clear HB; have BK108 := n0_; have HB := n1_; have BK111 := n2_; have GW111 := n3_; have GE111 := n4_; have NB108_111 := n5_; have NB111_108 := n6_; clear n0_ n1_ n2_ n3_ n4_ n5_ n6_; clear hb hbox hg; have hnb55 := NB111_108.out; have hnc55 := NB108_111.out; obtain ⟨hcz56_0, hcz56_1, hcz56_2, hcz56_3, hcz56_4, hcz56_5, hcz56_6, hcz56_7, hcz56_8, hcz56_9, hfz56_0, hfz56_1, hfz56_2, hfz56_3, hfz56_4, hfz56_5, hfz56_6, hfz56_7, hfz56_8, hfz56_9⟩ := GS.c10 BK111.out) | ((with_reducible refine gqD (N := 37) rfl ?_); refine Kd.R_lit k33 _ 33 ?hg (N := 37) ?hd (xs := ([(⟨(rd_T33 l0_2 x30_2).f0, (rd_T33 l0_2 x30_2).f1, (rd_T33 l0_2 x30_2).f2, (⟨(rd_T33 l0_2 x30_2).f3.f0, (rd_T33 l0_2 x30_2).f3.f1, (rd_T33 l0_2 x30_2).f3.f2, (rd_T33 l0_2 x30_2).f3.f3, (rd_T33 l0_2 x30_2).f3.f4, (rd_T33 l0_2 x30_2).f3.f5, (rd_T33 l0_2 x30_2).f3.f6⟩ : S26)⟩ : S33)] : List (S33))) (inner := [.int .i64 ((rd_T33 l0_2 x30_2).f0), .int .i64 ((rd_T33 l0_2 x30_2).f1), .int .i64 ((rd_T33 l0_2 x30_2).f2), .int .i64 ((rd_T33 l0_2 x30_2).f3.f0), .int .i64 ((rd_T33 l0_2 x30_2).f3.f1), .int .i64 ((rd_T33 l0_2 x30_2).f3.f2), .int .i64 ((rd_T33 l0_2 x30_2).f3.f3), .int .i64 ((rd_T33 l0_2 x30_2).f3.f4), .int .i64 ((rd_T33 l0_2 x30_2).f3.f5), .int .i64 ((rd_T33 l0_2 x30_2).f3.f6)]) (ok := fun _ => True) (okp := fun _ => True) ?hr ?hp (fun _ hk => hk) trivial (Below.refl _ _) (Nat.le_refl _) (by simp) ?_; (case hd => rfl); (case hg => rfl); (case hr => first | (go_simp; done) | (go_simp; rfl)); (case hp => exact (Reps.c10 (show Kd.M k33 _ _ _ (⟨(rd_T33 l0_2 x30_2).f0, (rd_T33 l0_2 x30_2).f1, (rd_T33 l0_2 x30_2).f2, (⟨(rd_T33 l0_2 x30_2).f3.f0, (rd_T33 l0_2 x30_2).f3.f1, (rd_T33 l0_2 x30_2).f3.f2, (rd_T33 l0_2 x30_2).f3.f3, (rd_T33 l0_2 x30_2).f3.f4, (rd_T33 l0_2 x30_2).f3.f5, (rd_T33 l0_2 x30_2).f3.f6⟩ : S26)⟩ : S33) [.int .i64 ((rd_T33 l0_2 x30_2).f0), .int .i64 ((rd_T33 l0_2 x30_2).f1), .int .i64 ((rd_T33 l0_2 x30_2).f2), .int .i64 ((rd_T33 l0_2 x30_2).f3.f0), .int .i64 ((rd_T33 l0_2 x30_2).f3.f1), .int .i64 ((rd_T33 l0_2 x30_2).f3.f2), .int .i64 ((rd_T33 l0_2 x30_2).f3.f3), .int .i64 ((rd_T33 l0_2 x30_2).f3.f4), .int .i64 ((rd_T33 l0_2 x30_2).f3.f5), .int .i64 ((rd_T33 l0_2 x30_2).f3.f6)] from (k33_mkM _ _ _ (⟨(rd_T33 l0_2 x30_2).f0, (rd_T33 l0_2 x30_2).f1, (rd_T33 l0_2 x30_2).f2, (⟨(rd_T33 l0_2 x30_2).f3.f0, (rd_T33 l0_2 x30_2).f3.f1, (rd_T33 l0_2 x30_2).f3.f2, (rd_T33 l0_2 x30_2).f3.f3, (rd_T33 l0_2 x30_2).f3.f4, (rd_T33 l0_2 x30_2).f3.f5, (rd_T33 l0_2 x30_2).f3.f6⟩ : S26)⟩ : S33) )) (Reps.none _ _))); intro v113 w57 ho58 hb hg_ hnew_; clear hg_ hnew_; (first | rw [← Ny112.out] at ho58 | (simp only [Int.reduceToNat] at ho58; rw [← Ny112.out] at ho58)); have n0_ := Aside0.mk (Kd.R_lower (Kd.R_newB ho58 (g := gb111) (o := .cells #[.int .i64 ((rd_T33 l0_2 x30_2).f0), .int .i64 ((rd_T33 l0_2 x30_2).f1), .int .i64 ((rd_T33 l0_2 x30_2).f2), .int .i64 ((rd_T33 l0_2 x30_2).f3.f0), .int .i64 ((rd_T33 l0_2 x30_2).f3.f1), .int .i64 ((rd_T33 l0_2 x30_2).f3.f2), .int .i64 ((rd_T33 l0_2 x30_2).f3.f3), .int .i64 ((rd_T33 l0_2 x30_2).f3.f4), .int .i64 ((rd_T33 l0_2 x30_2).f3.f5), .int .i64 ((rd_T33 l0_2 x30_2).f3.f6)] 33 (0, 0)) (GS.bqZ BK111.out)) (lqZ (GS.lB HB.out))); have n1_ := Aside0.mk (bqB (GS.bqX BK108.out) hb); have n2_ := Aside0.mk (bqB (g := gb111) (o := .cells #[.int .i64 ((rd_T33 l0_2 x30_2).f0), .int .i64 ((rd_T33 l0_2 x30_2).f1), .int .i64 ((rd_T33 l0_2 x30_2).f2), .int .i64 ((rd_T33 l0_2 x30_2).f3.f0), .int .i64 ((rd_T33 l0_2 x30_2).f3.f1), .int .i64 ((rd_T33 l0_2 x30_2).f3.f2), .int .i64 ((rd_T33 l0_2 x30_2).f3.f3), .int .i64 ((rd_T33 l0_2 x30_2).f3.f4), .int .i64 ((rd_T33 l0_2 x30_2).f3.f5), .int .i64 ((rd_T33 l0_2 x30_2).f3.f6)] 33 (0, 0)) (GS.bqZ BK111.out) hb); have n3_ := Aside0.mk (lqT (GS.lB HB.out) hb); clear BK108; clear BK111; clear HB; have HO114 := n0_; have BK108 := n1_; have BK111 := n2_; have HB := n3_; clear n0_ n1_ n2_ n3_; clear hb ho58; obtain ⟨Ao59, co59, eo59⟩ := Kd.R_slice HO114.out; subst eo59) | (go_at_call 45; (with_reducible refine (network_Check.calls k2 _ _ y112 t115 t116 _ ?side1 ?side2 A17.out).mono ?_); (case side1 => repeat (first | exact (Kd.R_reads' HO114.out).2.2 | (with_reducible refine Kd.C_alloc ?_ _) | (with_reducible refine Kd.C_drewN ?_ _) | (with_reducible refine Kd.C_drew ?_))); (case side2 => exact (Kd.R_reads' HO114.out).2.1); rintro e w60 ⟨rfl, hb⟩; have n0_ := Aside0.mk (Kd.R_below (GS.rR HO114.out) hb); have n1_ := Aside0.mk (bqB (GS.bqX BK108.out) hb); have n2_ := Aside0.mk (bqB (GS.bqX BK111.out) hb); have n3_ := Aside0.mk (lqT (GS.lB HB.out) hb); clear HO114; clear BK108; clear BK111; clear HB; have HO114 := n0_; have BK108 := n1_; have BK111 := n2_; have HB := n3_; clear n0_ n1_ n2_ n3_; (try clear hb); (try clear hb2); (try clear hk); (try clear hi)))
           repeat (go_quiet (first | ((with_reducible refine gqD (N := 4) rfl ?_); refine GS.bx (N := 4) (cs := #[.int .i64 0, .int .i64 0, .int .i64 0, .int .i64 0, .int .i64 0, .int .i64 0, .int .i64 0, .int .i64 0, .int .i64 0, .int .i64 0]) (t := 33) ?_; intro gb111 hg w54 hbox hb; have n0_ := Aside0.mk (bqB (GS.bqX BK108.out) hb); have n1_ := Aside0.mk (lqT (GS.lB HB.out) hb); have n2_ := Aside0.mk (hbox); have n3_ := Aside0.mk ((by rw [hg]; exact (lqZ (GS.lB HB.out)) : w.heap.size ≤ gb111)); have n4_ := Aside0.mk ((by rw [hg]; exact (lqZ (GS.lB HB.out)) : w.heap.size ≤ gb111)); have n5_ := Aside0.mk ((by rw [hg]; exact Nat.ne_of_lt (blk_lt (GS.bqX BK108.out)) : gb108 ≠ gb111)); have n6_ := Aside0.mk ((by rw [hg]; exact Nat.ne_of_gt (blk_lt (GS.bqX BK108.out)) : gb111 ≠ gb108)); clear BK108; clear HB; have BK108 := n0_; have HB := n1_; have BK111 := n2_; have GW111 := n3_; have GE111 := n4_; have NB108_111 := n5_; have NB111_108 := n6_; clear n0_ n1_ n2_ n3_ n4_ n5_ n6_; clear hb hbox hg; have hnb55 := NB111_108.out; have hnc55 := NB108_111.out; obtain ⟨hcz56_0, hcz56_1, hcz56_2, hcz56_3, hcz56_4, hcz56_5, hcz56_6, hcz56_7, hcz56_8, hcz56_9, hfz56_0, hfz56_1, hfz56_2, hfz56_3, hfz56_4, hfz56_5, hfz56_6, hfz56_7, hfz56_8, hfz56_9⟩ := GS.c10 BK111.out) | ((with_reducible refine gqD (N := 37) rfl ?_); refine Kd.R_lit k33 _ 33 ?hg (N := 37) ?hd (xs := ([(⟨(rd_T33 l0_2 x30_2).f0, (rd_T33 l0_2 x30_2).f1, (rd_T33 l0_2 x30_2).f2, (⟨(rd_T33 l0_2 x30_2).f3.f0, (rd_T33 l0_2 x30_2).f3.f1, (rd_T33 l0_2 x30_2).f3.f2, (rd_T33 l0_2 x30_2).f3.f3, (rd_T33 l0_2 x30_2).f3.f4, (rd_T33 l0_2 x30_2).f3.f5, (rd_T33 l0_2 x30_2).f3.f6⟩ : S26)⟩ : S33)] : List (S33))) (inner := [.int .i64 ((rd_T33 l0_2 x30_2).f0), .int .i64 ((rd_T33 l0_2 x30_2).f1), .int .i64 ((rd_T33 l0_2 x30_2).f2), .int .i64 ((rd_T33 l0_2 x30_2).f3.f0), .int .i64 ((rd_T33 l0_2 x30_2).f3.f1), .int .i64 ((rd_T33 l0_2 x30_2).f3.f2), .int .i64 ((rd_T33 l0_2 x30_2).f3.f3), .int .i64 ((rd_T33 l0_2 x30_2).f3.f4), .int .i64 ((rd_T33 l0_2 x30_2).f3.f5), .int .i64 ((rd_T33 l0_2 x30_2).f3.f6)]) (ok := fun _ => True) (okp := fun _ => True) ?hr ?hp (fun _ hk => hk) trivial (Below.refl _ _) (Nat.le_refl _) (by simp) ?_; (case hd => rfl); (case hg => rfl); (case hr => first | (go_simp; done) | (go_simp; rfl)); (case hp => exact (Reps.c10 (show Kd.M k33 _ _ _ (⟨(rd_T33 l0_2 x30_2).f0, (rd_T33 l0_2 x30_2).f1, (rd_T33 l0_2 x30_2).f2, (⟨(rd_T33 l0_2 x30_2).f3.f0, (rd_T33 l0_2 x30_2).f3.f1, (rd_T33 l0_2 x30_2).f3.f2, (rd_T33 l0_2 x30_2).f3.f3, (rd_T33 l0_2 x30_2).f3.f4, (rd_T33 l0_2 x30_2).f3.f5, (rd_T33 l0_2 x30_2).f3.f6⟩ : S26)⟩ : S33) [.int .i64 ((rd_T33 l0_2 x30_2).f0), .int .i64 ((rd_T33 l0_2 x30_2).f1), .int .i64 ((rd_T33 l0_2 x30_2).f2), .int .i64 ((rd_T33 l0_2 x30_2).f3.f0), .int .i64 ((rd_T33 l0_2 x30_2).f3.f1), .int .i64 ((rd_T33 l0_2 x30_2).f3.f2), .int .i64 ((rd_T33 l0_2 x30_2).f3.f3), .int .i64 ((rd_T33 l0_2 x30_2).f3.f4), .int .i64 ((rd_T33 l0_2 x30_2).f3.f5), .int .i64 ((rd_T33 l0_2 x30_2).f3.f6)] from (k33_mkM _ _ _ (⟨(rd_T33 l0_2 x30_2).f0, (rd_T33 l0_2 x30_2).f1, (rd_T33 l0_2 x30_2).f2, (⟨(rd_T33 l0_2 x30_2).f3.f0, (rd_T33 l0_2 x30_2).f3.f1, (rd_T33 l0_2 x30_2).f3.f2, (rd_T33 l0_2 x30_2).f3.f3, (rd_T33 l0_2 x30_2).f3.f4, (rd_T33 l0_2 x30_2).f3.f5, (rd_T33 l0_2 x30_2).f3.f6⟩ : S26)⟩ : S33) )) (Reps.none _ _))); intro v113 w57 ho58 hb hg_ hnew_; clear hg_ hnew_; (first | rw [← Ny112.out] at ho58 | (simp only [Int.reduceToNat] at ho58; rw [← Ny112.out] at ho58)); have n0_ := Aside0.mk (Kd.R_lower (Kd.R_newB ho58 (g := gb111) (o := .cells #[.int .i64 ((rd_T33 l0_2 x30_2).f0), .int .i64 ((rd_T33 l0_2 x30_2).f1), .int .i64 ((rd_T33 l0_2 x30_2).f2), .int .i64 ((rd_T33 l0_2 x30_2).f3.f0), .int .i64 ((rd_T33 l0_2 x30_2).f3.f1), .int .i64 ((rd_T33 l0_2 x30_2).f3.f2), .int .i64 ((rd_T33 l0_2 x30_2).f3.f3), .int .i64 ((rd_T33 l0_2 x30_2).f3.f4), .int .i64 ((rd_T33 l0_2 x30_2).f3.f5), .int .i64 ((rd_T33 l0_2 x30_2).f3.f6)] 33 (0, 0)) (GS.bqZ BK111.out)) (lqZ (GS.lB HB.out))); have n1_ := Aside0.mk (bqB (GS.bqX BK108.out) hb); have n2_ := Aside0.mk (bqB (g := gb111) (o := .cells #[.int .i64 ((rd_T33 l0_2 x30_2).f0), .int .i64 ((rd_T33 l0_2 x30_2).f1), .int .i64 ((rd_T33 l0_2 x30_2).f2), .int .i64 ((rd_T33 l0_2 x30_2).f3.f0), .int .i64 ((rd_T33 l0_2 x30_2).f3.f1), .int .i64 ((rd_T33 l0_2 x30_2).f3.f2), .int .i64 ((rd_T33 l0_2 x30_2).f3.f3), .int .i64 ((rd_T33 l0_2 x30_2).f3.f4), .int .i64 ((rd_T33 l0_2 x30_2).f3.f5), .int .i64 ((rd_T33 l0_2 x30_2).f3.f6)] 33 (0, 0)) (GS.bqZ BK111.out) hb); have n3_ := Aside0.mk (lqT (GS.lB HB.out) hb); clear BK108; clear BK111; clear HB; have HO114 := n0_; have BK108 := n1_; have BK111 := n2_; have HB := n3_; clear n0_ n1_ n2_ n3_; clear hb ho58; obtain ⟨Ao59, co59, eo59⟩ := Kd.R_slice HO114.out; subst eo59) | (go_at_call 45; (with_reducible refine (network_Check.calls k2 _ _ y112 t115 t116 _ ?side1 ?side2 A17.out).mono ?_); (case side1 => repeat (first | exact (Kd.R_reads' HO114.out).2.2 | (with_reducible refine Kd.C_alloc ?_ _) | (with_reducible refine Kd.C_drewN ?_ _) | (with_reducible refine Kd.C_drew ?_))); (case side2 => exact (Kd.R_reads' HO114.out).2.1); rintro e w60 ⟨rfl, hb⟩; have n0_ := Aside0.mk (Kd.R_below (GS.rR HO114.out) hb); have n1_ := Aside0.mk (bqB (GS.bqX BK108.out) hb); have n2_ := Aside0.mk (bqB (GS.bqX BK111.out) hb); have n3_ := Aside0.mk (lqT (GS.lB HB.out) hb); clear HO114; clear BK108; clear BK111; clear HB; have HO114 := n0_; have BK108 := n1_; have BK111 := n2_; have HB := n3_; clear n0_ n1_ n2_ n3_; (try clear hb); (try clear hb2); (try clear hk); (try clear hi))); try go_wp2_with (first | ((with_reducible refine gqD (N := 4) rfl ?_); refine GS.bx (N := 4) (cs := #[.int .i64 0, .int .i64 0, .int .i64 0, .int .i64 0, .int .i64 0, .int .i64 0, .int .i64 0, .int .i64 0, .int .i64 0, .int .i64 0]) (t := 33) ?_; intro gb111 hg w54 hbox hb; have n0_ := Aside0.mk (bqB (GS.bqX BK108.out) hb); have n1_ := Aside0.mk (lqT (GS.lB HB.out) hb); have n2_ := Aside0.mk (hbox); have n3_ := Aside0.mk ((by rw [hg]; exact (lqZ (GS.lB HB.out)) : w.heap.size ≤ gb111)); have n4_ := Aside0.mk ((by rw [hg]; exact (lqZ (GS.lB HB.out)) : w.heap.size ≤ gb111)); have n5_ := Aside0.mk ((by rw [hg]; exact Nat.ne_of_lt (blk_lt (GS.bqX BK108.out)) : gb108 ≠ gb111)); have n6_ := Aside0.mk ((by rw [hg]; exact Nat.ne_of_gt (blk_lt (GS.bqX BK108.out)) : gb111 ≠ gb108)); clear BK108; clear HB; have BK108 := n0_; have HB := n1_; have BK111 := n2_; have GW111 := n3_; have GE111 := n4_; have NB108_111 := n5_; have NB111_108 := n6_; clear n0_ n1_ n2_ n3_ n4_ n5_ n6_; clear hb hbox hg; have hnb55 := NB111_108.out; have hnc55 := NB108_111.out; obtain ⟨hcz56_0, hcz56_1, hcz56_2, hcz56_3, hcz56_4, hcz56_5, hcz56_6, hcz56_7, hcz56_8, hcz56_9, hfz56_0, hfz56_1, hfz56_2, hfz56_3, hfz56_4, hfz56_5, hfz56_6, hfz56_7, hfz56_8, hfz56_9⟩ := GS.c10 BK111.out) | ((with_reducible refine gqD (N := 37) rfl ?_); refine Kd.R_lit k33 _ 33 ?hg (N := 37) ?hd (xs := ([(⟨(rd_T33 l0_2 x30_2).f0, (rd_T33 l0_2 x30_2).f1, (rd_T33 l0_2 x30_2).f2, (⟨(rd_T33 l0_2 x30_2).f3.f0, (rd_T33 l0_2 x30_2).f3.f1, (rd_T33 l0_2 x30_2).f3.f2, (rd_T33 l0_2 x30_2).f3.f3, (rd_T33 l0_2 x30_2).f3.f4, (rd_T33 l0_2 x30_2).f3.f5, (rd_T33 l0_2 x30_2).f3.f6⟩ : S26)⟩ : S33)] : List (S33))) (inner := [.int .i64 ((rd_T33 l0_2 x30_2).f0), .int .i64 ((rd_T33 l0_2 x30_2).f1), .int .i64 ((rd_T33 l0_2 x30_2).f2), .int .i64 ((rd_T33 l0_2 x30_2).f3.f0), .int .i64 ((rd_T33 l0_2 x30_2).f3.f1), .int .i64 ((rd_T33 l0_2 x30_2).f3.f2), .int .i64 ((rd_T33 l0_2 x30_2).f3.f3), .int .i64 ((rd_T33 l0_2 x30_2).f3.f4), .int .i64 ((rd_T33 l0_2 x30_2).f3.f5), .int .i64 ((rd_T33 l0_2 x30_2).f3.f6)]) (ok := fun _ => True) (okp := fun _ => True) ?hr ?hp (fun _ hk => hk) trivial (Below.refl _ _) (Nat.le_refl _) (by simp) ?_; (case hd => rfl); (case hg => rfl); (case hr => first | (go_simp; done) | (go_simp; rfl)); (case hp => exact (Reps.c10 (show Kd.M k33 _ _ _ (⟨(rd_T33 l0_2 x30_2).f0, (rd_T33 l0_2 x30_2).f1, (rd_T33 l0_2 x30_2).f2, (⟨(rd_T33 l0_2 x30_2).f3.f0, (rd_T33 l0_2 x30_2).f3.f1, (rd_T33 l0_2 x30_2).f3.f2, (rd_T33 l0_2 x30_2).f3.f3, (rd_T33 l0_2 x30_2).f3.f4, (rd_T33 l0_2 x30_2).f3.f5, (rd_T33 l0_2 x30_2).f3.f6⟩ : S26)⟩ : S33) [.int .i64 ((rd_T33 l0_2 x30_2).f0), .int .i64 ((rd_T33 l0_2 x30_2).f1), .int .i64 ((rd_T33 l0_2 x30_2).f2), .int .i64 ((rd_T33 l0_2 x30_2).f3.f0), .int .i64 ((rd_T33 l0_2 x30_2).f3.f1), .int .i64 ((rd_T33 l0_2 x30_2).f3.f2), .int .i64 ((rd_T33 l0_2 x30_2).f3.f3), .int .i64 ((rd_T33 l0_2 x30_2).f3.f4), .int .i64 ((rd_T33 l0_2 x30_2).f3.f5), .int .i64 ((rd_T33 l0_2 x30_2).f3.f6)] from (k33_mkM _ _ _ (⟨(rd_T33 l0_2 x30_2).f0, (rd_T33 l0_2 x30_2).f1, (rd_T33 l0_2 x30_2).f2, (⟨(rd_T33 l0_2 x30_2).f3.f0, (rd_T33 l0_2 x30_2).f3.f1, (rd_T33 l0_2 x30_2).f3.f2, (rd_T33 l0_2 x30_2).f3.f3, (rd_T33 l0_2 x30_2).f3.f4, (rd_T33 l0_2 x30_2).f3.f5, (rd_T33 l0_2 x30_2).f3.f6⟩ : S26)⟩ : S33) )) (Reps.none _ _))); intro v113 w57 ho58 hb hg_ hnew_; clear hg_ hnew_; (first | rw [← Ny112.out] at ho58 | (simp only [Int.reduceToNat] at ho58; rw [← Ny112.out] at ho58)); have n0_ := Aside0.mk (Kd.R_lower (Kd.R_newB ho58 (g := gb111) (o := .cells #[.int .i64 ((rd_T33 l0_2 x30_2).f0), .int .i64 ((rd_T33 l0_2 x30_2).f1), .int .i64 ((rd_T33 l0_2 x30_2).f2), .int .i64 ((rd_T33 l0_2 x30_2).f3.f0), .int .i64 ((rd_T33 l0_2 x30_2).f3.f1), .int .i64 ((rd_T33 l0_2 x30_2).f3.f2), .int .i64 ((rd_T33 l0_2 x30_2).f3.f3), .int .i64 ((rd_T33 l0_2 x30_2).f3.f4), .int .i64 ((rd_T33 l0_2 x30_2).f3.f5), .int .i64 ((rd_T33 l0_2 x30_2).f3.f6)] 33 (0, 0)) (GS.bqZ BK111.out)) (lqZ (GS.lB HB.out))); have n1_ := Aside0.mk (bqB (GS.bqX BK108.out) hb); have n2_ := Aside0.mk (bqB (g := gb111) (o := .cells #[.int .i64 ((rd_T33 l0_2 x30_2).f0), .int .i64 ((rd_T33 l0_2 x30_2).f1), .int .i64 ((rd_T33 l0_2 x30_2).f2), .int .i64 ((rd_T33 l0_2 x30_2).f3.f0), .int .i64 ((rd_T33 l0_2 x30_2).f3.f1), .int .i64 ((rd_T33 l0_2 x30_2).f3.f2), .int .i64 ((rd_T33 l0_2 x30_2).f3.f3), .int .i64 ((rd_T33 l0_2 x30_2).f3.f4), .int .i64 ((rd_T33 l0_2 x30_2).f3.f5), .int .i64 ((rd_T33 l0_2 x30_2).f3.f6)] 33 (0, 0)) (GS.bqZ BK111.out) hb); have n3_ := Aside0.mk (lqT (GS.lB HB.out) hb); clear BK108; clear BK111; clear HB; have HO114 := n0_; have BK108 := n1_; have BK111 := n2_; have HB := n3_; clear n0_ n1_ n2_ n3_; clear hb ho58; obtain ⟨Ao59, co59, eo59⟩ := Kd.R_slice HO114.out; subst eo59) | (go_at_call 45; (with_reducible refine (network_Check.calls k2 _ _ y112 t115 t116 _ ?side1 ?side2 A17.out).mono ?_); (case side1 => repeat (first | exact (Kd.R_reads' HO114.out).2.2 | (with_reducible refine Kd.C_alloc ?_ _) | (with_reducible refine Kd.C_drewN ?_ _) | (with_reducible refine Kd.C_drew ?_))); (case side2 => exact (Kd.R_reads' HO114.out).2.1); rintro e w60 ⟨rfl, hb⟩; have n0_ := Aside0.mk (Kd.R_below (GS.rR HO114.out) hb); have n1_ := Aside0.mk (bqB (GS.bqX BK108.out) hb); have n2_ := Aside0.mk (bqB (GS.bqX BK111.out) hb); have n3_ := Aside0.mk (lqT (GS.lB HB.out) hb); clear HO114; clear BK108; clear BK111; clear HB; have HO114 := n0_; have BK108 := n1_; have BK111 := n2_; have HB := n3_; clear n0_ n1_ n2_ n3_; (try clear hb); (try clear hb2); (try clear hk); (try clear hi))))
           go_ret
           exact ⟨by first | rfl | (simp [errW_none, errW_some] <;> rfl) | (simp [*, errW_none, errW_some] <;> rfl), GS.lB HB.out⟩
         ·rw [if_neg c16] at H
          exact absurd H (by simp)
        ·rw [if_neg c15] at H
         exact absurd H (by simp)
       ·rw [if_neg c14] at H
        have c14b0 : decide (x30_2 < (l0_2.length : Int)) = false := decide_eq_false c14
        clear c14
        obtain rfl := Option.some.inj H
        go_wp2
        repeat (go_quiet (fail); try go_wp2)
        go_ret
        exact ⟨by first | rfl | (simp [errW_none, errW_some] <;> rfl) | (simp [*, errW_none, errW_some] <;> rfl), GS.lB HB.out⟩

-- GIVEN: function 21 (api_Envelope_21)

/-! ### sender_own: function 43 -/
def sender_own.f (a0_0 : Int) (a0_1 : Int) (l0_2 : List (S33)) : Option (Int × Int × (List (S33))) := (api_Envelope_21.f l0_2).bind fun t120 => (some (a0_0, a0_1, t120))
set_option maxHeartbeats 8000000 in
set_option maxRecDepth 100000 in
theorem sender_own.calls (a0_0 : Int) (a0_1 : Int) (A0_2 : Option Addr) (c0_2 : Nat) (l0_2 : List (S33)) (r1 : Int) (r2 : Int) (r3 : List (S33)) (w : World) (hr0_2 : Kd.C k33 w A0_2 l0_2.length l0_2) (hc0_2 : l0_2.length ≤ c0_2) (h : sender_own.f a0_0 a0_1 l0_2 = some (r1, r2, r3)) :
  Calls Try.prog 43 #[.agg #[.int .i64 a0_0, .int .i64 a0_1, .slice A0_2 l0_2.length c0_2]] w fun e w' => ∃ v2_ : Value, e = .returned (.agg #[.int .i64 r1, .int .i64 r2, v2_]) ∧ Kd.R k33 33 w' w.heap.size (fun _ => True) v2_ r3 ∧ Below w.heap.size w w' := by
 have hu24 := Try.underlying24
 have HR0_2 := Aside0.mk hr0_2
 have HC0_2 := Aside0.mk hc0_2
 clear hr0_2 hc0_2
 have HB := Aside0.mk (Below.refl w.heap.size w)
 have H : ((api_Envelope_21.f l0_2).bind fun t120 => (some (a0_0, a0_1, t120))) = some (r1, r2, r3) := h
 clear h
 replace H := Option.bind_eq_some_iff.mp H
 obtain ⟨t120, A20, H⟩ := H
 replace H : (some (a0_0, a0_1, t120)) = some (r1, r2, r3) := H
 have A2 := Aside0.mk A20
 clear A20
 simp only [Option.some.injEq, Prod.mk.injEq] at H
 obtain ⟨rfl, rfl, rfl⟩ := H
 go_enter Try.func43, Try.ntmps43
 go_wp2_with (first | ((with_reducible refine gqD (N := 1) rfl ?_); refine GS.bx (N := 1) (cs := #[.int .i64 a0_0, .int .i64 a0_1, .slice A0_2 l0_2.length c0_2]) (t := 24) ?_; intro gb118 hg w3 hbox hb; have n0_ := Aside0.mk (lqT (GS.lB HB.out) hb); have n1_ := Aside0.mk (hbox); have n2_ := Aside0.mk ((by rw [hg]; exact (lqZ (GS.lB HB.out)) : w.heap.size ≤ gb118)); have n3_ := Aside0.mk ((by rw [hg]; exact (lqZ (GS.lB HB.out)) : w.heap.size ≤ gb118)); clear HB; have HB := n0_; have BK118 := n1_; have GW118 := n2_; have GE118 := n3_; clear n0_ n1_ n2_ n3_; clear hb hbox hg) | ((with_reducible refine gqD (N := 2) rfl ?_); refine GS.bx (N := 2) (cs := #[.int .i64 0, .int .i64 0, .slice none 0 0]) (t := 24) ?_; intro gb119 hg w4 hbox hb; have n0_ := Aside0.mk (bqB (GS.bqX BK118.out) hb); have n1_ := Aside0.mk (lqT (GS.lB HB.out) hb); have n2_ := Aside0.mk (hbox); have n3_ := Aside0.mk ((by rw [hg]; exact (lqZ (GS.lB HB.out)) : w.heap.size ≤ gb119)); have n4_ := Aside0.mk ((by rw [hg]; exact (lqZ (GS.lB HB.out)) : w.heap.size ≤ gb119)); have n5_ := Aside0.mk ((by rw [hg]; exact Nat.ne_of_lt (blk_lt (GS.bqX BK118.out)) : gb118 ≠ gb119)); have n6_ := Aside0.mk ((by rw [hg]; exact Nat.ne_of_gt (blk_lt (GS.bqX BK118.out)) : gb119 ≠ gb118)); clear BK118; clear HB; have BK118 := n0_; have HB := n1_; have BK119 := n2_; have GW119 := n3_; have GE119 := n4_; have NB118_119 := n5_; have NB119_118 := n6_; clear n0_ n1_ n2_ n3_ n4_ n5_ n6_; clear hb hbox hg; have hnb5 := NB118_119.out; have hnc5 := NB119_118.out; obtain ⟨hcz6_0, hcz6_1, hcz6_2, hfz6_0, hfz6_1, hfz6_2⟩ := GS.c3 BK118.out) | ((with_reducible refine gqC (f := 21) rfl ?_); refine GS.gL (some 5) Try.func21 #[.slice A0_2 l0_2.length c0_2] ?_; (with_reducible refine (api_Envelope_21.calls _ _ l0_2 t120 _ ?side1 ?side2 A2.out).mono ?_); (case side1 => exact GS.rC (Kd.C_below HR0_2.out HB.out)); (case side2 => exact HC0_2.out); rintro e w7 ⟨v121, rfl, ho0, hb⟩; refine ⟨_, rfl, ?_⟩; have n0_ := Aside0.mk (Kd.R_lower ho0 (lqZ (GS.lB HB.out))); have n1_ := Aside0.mk (bqB (GS.bqX BK118.out) hb); have n2_ := Aside0.mk (bqB (GS.bqX BK119.out) hb); have n3_ := Aside0.mk (lqT (GS.lB HB.out) hb); clear BK118; clear BK119; clear HB; have HO122 := n0_; have BK118 := n1_; have BK119 := n2_; have HB := n3_; clear n0_ n1_ n2_ n3_; (try clear hb); (try clear hb2); (try clear hk); (try clear hi); (try clear ho0); obtain ⟨Ao8, co8, eo8⟩ := Kd.R_slice HO122.out; subst eo8; obtain ⟨hcz9_0, hcz9_1, hcz9_2, hfz9_0, hfz9_1, hfz9_2⟩ := GS.c3 BK118.out; obtain ⟨hcz10_0, hcz10_1, hcz10_2, hfz10_0, hfz10_1, hfz10_2⟩ := GS.c3 BK119.out))
 refine bodyPost_ret (results_cell_row rfl _ _ gb119 24 #[.int .i64 a0_0, .int .i64 a0_1, .slice Ao8 t120.length co8] (0, 0) _ rfl (GS.bqZ BK119.out) Try.underlying24 rfl (by kernel_rfl)) rfl ?_
 exact ⟨_, by first | rfl | (simp [errW_none, errW_some] <;> rfl) | (simp [*, errW_none, errW_some] <;> rfl), by (with_reducible repeat (first | apply Kd.R_alloc | apply Kd.R_drewN | apply Kd.R_drew)); exact Kd.R_mono (Kd.R_far (p := ⟨gb119, 2, none⟩) (Kd.R_far (p := ⟨gb119, 1, none⟩) (Kd.R_far (p := ⟨gb119, 0, none⟩) (Kd.R_far (p := ⟨gb118, 2, none⟩) (Kd.R_types (Kd.R_types HO122.out BK118.out (by decide)) BK119.out (by decide)) (fun _ hk => hk.1.2) (.slice Ao8 t120.length co8)) (fun _ hk => hk.2) (.int .i64 a0_0)) (fun _ hk => hk.2) (.int .i64 a0_1)) (fun _ hk => hk.2) (.slice Ao8 t120.length co8)) (fun _ hk => trivial), GS.lB HB.out⟩

end Go.Proofs.Ytfafeeobjlkjnaa.K
