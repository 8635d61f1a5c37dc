-- PRINTED by print.py (a twelfth state) out of the translation. Not trusted: Lean checks it.
import Derived.Test.YtfhmjleimampeaaK0
import Derived.Test.YtfhmjleimampeaaGPu
import Derived.Test.YtfhmjleimampeaaGShort
import Derived.Test.YtfhmjleimampeaaGSym
import Derived.Test.YtfhmjleimampeaaK3
import Derived.Test.YtfhmjleimampeaaK12
import Derived.Test.YtfhmjleimampeaaK25
import Derived.Test.YtfhmjleimampeaaGCloneF
import Derived.Test.YtfhmjleimampeaaGOf
import Derived.Test.YtfhmjleimampeaaGSuspects
import Derived.Test.YtfhmjleimampeaaGCont31
namespace Go.Proofs.Ytfhmjleimampeaa.K
open Go.RowKit Go.Proofs.YtfhmjleimampeaaW.PrintWords Go.Proofs.YtfhmjleimampeaaW.PrintLast Go.Proofs.YtfhmjleimampeaaW.PrintMore
attribute [local go_sem] max2_int min2_int max_two min_two max_three min_three max_four min_four   -- for this text's walks alone
set_option linter.unusedVariables false
set_option linter.unusedSimpArgs false

/-! ### spilelaw34_SuspectLimits: function 9 -/
mutual
def spilelaw34_SuspectLimits.l0 : Nat → List (S30) → Int → List Int → List (S30) → Int → Int → Int → Int → Option (Bool)
 | 0, _, _, _, _, _, _, _, _ => none
 | k + 1, x0, x1, x7, x43, x44, x45, x670000, x670001 => if x45 < x44 then (if 0 ≤ x45 then (if x45 < (x43.length : Int) then (if x1 = 1 then (spilelaw34_SuspectLimits.j1 k x0 x1 x7 ((rd_T30 x43 x45).f1) x43 x44 x45 x670000 x670001) else (spilelaw34_SuspectLimits.j1 k x0 x1 x7 ((rd_T30 x43 x45).f2) x43 x44 x45 x670000 x670001)) else (none)) else (none)) else (spilelaw34_SuspectLimits.l1 k x0 x1 x7 x7 (x7.length : Int) 0 x670000 x670001)
def spilelaw34_SuspectLimits.j1 : Nat → List (S30) → Int → List Int → Int → List (S30) → Int → Int → Int → Int → Option (Bool)
 | 0, _, _, _, _, _, _, _, _, _ => none
 | k + 1, x0, x1, x7, x11, x43, x44, x45, x670000, x670001 => (clone13.f x0).bind fun t680 => ((suspect_Test.f t680 x1 x11).bind fun bt683 => ((slices_Contains_int_int.f k x7 x11).bind fun t686 => (if bt683.2.2 = 0 then (if (t686 != (decide ((wrap64 (bt683.1 * x670001)) ≤ (wrap64 (bt683.2.1 * x670000))))) = true then (none) else (spilelaw34_SuspectLimits.l0 k x0 x1 x7 x43 x44 (wrap64 (x45 + 1)) x670000 x670001)) else (if (t686 != false) = true then (none) else (spilelaw34_SuspectLimits.l0 k x0 x1 x7 x43 x44 (wrap64 (x45 + 1)) x670000 x670001)))))
def spilelaw34_SuspectLimits.l1 : Nat → List (S30) → Int → List Int → List Int → Int → Int → Int → Int → Option (Bool)
 | 0, _, _, _, _, _, _, _, _ => none
 | k + 1, x0, x1, x7, x82, x83, x84, x670000, x670001 => if x84 < x83 then (if 0 ≤ x84 then (if x84 < (x82.length : Int) then (if x84 > 0 then (if 0 ≤ (wrap64 (x84 - 1)) then (if (wrap64 (x84 - 1)) < (x7.length : Int) then (spilelaw34_SuspectLimits.j3 k x0 x1 x7 (rd x82 x84) x82 x83 x84 (decide ((rd x7 (wrap64 (x84 - 1))) ≥ (rd x82 x84))) x670000 x670001) else (none)) else (none)) else (spilelaw34_SuspectLimits.j3 k x0 x1 x7 (rd x82 x84) x82 x83 x84 false x670000 x670001)) else (none)) else (none)) else (if x670000 < x670001 then ((clone13.f x0).bind fun t699 => ((suspect_Suspects.f t699 x1 (wrap64 (x670000 + 1)) x670001).bind fun bt702 => (if bt702.2 = 0 then ((cont31.f x7 bt702.1).bind fun t707 => (some (!t707))) else (none)))) else (some true))
def spilelaw34_SuspectLimits.j3 : Nat → List (S30) → Int → List Int → Int → List Int → Int → Int → Bool → Int → Int → Option (Bool)
 | 0, _, _, _, _, _, _, _, _, _, _ => none
 | k + 1, x0, x1, x7, x16, x82, x83, x84, x99, x670000, x670001 => if x99 = true then (none) else ((clone13.f x0).bind fun t689 => ((suspect_Of.f t689 x1 x16).bind fun bt692 => (if bt692.2.2 = 0 then (spilelaw34_SuspectLimits.l1 k x0 x1 x7 x82 x83 (wrap64 (x84 + 1)) x670000 x670001) else (none))))
end
def spilelaw34_SuspectLimits.f (k : Nat) (l0 : List (S30)) (a1 : Int) (a2_0 : Int) (a2_1 : Int) : Option (Bool) := (spilelaw34_awake.f k).bind fun t670 => (if t670 = true then (if (l0.length : Int) > 14 then (some true) else ((clone13.f l0).bind fun t671 => ((suspect_Suspects.f t671 a1 a2_0 a2_1).bind fun bt674 => (if bt674.2 = 0 then (spilelaw34_SuspectLimits.l0 k l0 a1 bt674.1 l0 (l0.length : Int) 0 a2_0 a2_1) else (some ((bt674.1.length : Int) == 0)))))) else (none))
theorem spilelaw34_SuspectLimits.mono_l : ∀ k, (∀ y0 y1 y2 y3 y4 y5 y6 y7, LeO (spilelaw34_SuspectLimits.l0 k y0 y1 y2 y3 y4 y5 y6 y7) (spilelaw34_SuspectLimits.l0 (k + 1) y0 y1 y2 y3 y4 y5 y6 y7)) ∧ (∀ y0 y1 y2 y3 y4 y5 y6 y7 y8, LeO (spilelaw34_SuspectLimits.j1 k y0 y1 y2 y3 y4 y5 y6 y7 y8) (spilelaw34_SuspectLimits.j1 (k + 1) y0 y1 y2 y3 y4 y5 y6 y7 y8)) ∧ (∀ y0 y1 y2 y3 y4 y5 y6 y7, LeO (spilelaw34_SuspectLimits.l1 k y0 y1 y2 y3 y4 y5 y6 y7) (spilelaw34_SuspectLimits.l1 (k + 1) y0 y1 y2 y3 y4 y5 y6 y7)) ∧ (∀ y0 y1 y2 y3 y4 y5 y6 y7 y8 y9, LeO (spilelaw34_SuspectLimits.j3 k y0 y1 y2 y3 y4 y5 y6 y7 y8 y9) (spilelaw34_SuspectLimits.j3 (k + 1) y0 y1 y2 y3 y4 y5 y6 y7 y8 y9))
 | 0 => ⟨fun _ _ _ _ _ _ _ _ r h => by simp [spilelaw34_SuspectLimits.l0] at h, fun _ _ _ _ _ _ _ _ _ r h => by simp [spilelaw34_SuspectLimits.j1] at h, fun _ _ _ _ _ _ _ _ r h => by simp [spilelaw34_SuspectLimits.l1] at h, fun _ _ _ _ _ _ _ _ _ _ r h => by simp [spilelaw34_SuspectLimits.j3] at h⟩
 | k + 1 => by
  obtain ⟨ih0, ih1, ih2, ih3⟩ := spilelaw34_SuspectLimits.mono_l k
  refine ⟨?_, ?_, ?_, ?_⟩
  ·intro y0 y1 y2 y3 y4 y5 y6 y7
   unfold spilelaw34_SuspectLimits.l0
   repeat' first
   | (with_reducible exact ih0 _ _ _ _ _ _ _ _)
   | (with_reducible exact ih1 _ _ _ _ _ _ _ _ _)
   | (with_reducible exact ih2 _ _ _ _ _ _ _ _)
   | (with_reducible exact ih3 _ _ _ _ _ _ _ _ _ _)
   | (with_reducible exact slices_Contains_int_int.mono _ _ _)
   | (with_reducible exact spilelaw34_awake.mono _)
   | (with_reducible exact LeO.refl _)
   | (with_reducible exact LeO.none _)
   | (with_reducible refine LeO.ite ?_ ?_)
   | (with_reducible refine LeO.bind ?_ (fun _ => ?_))
   | exact ih0 _ _ _ _ _ _ _ _
   | exact ih1 _ _ _ _ _ _ _ _ _
   | exact ih2 _ _ _ _ _ _ _ _
   | exact ih3 _ _ _ _ _ _ _ _ _ _
   | exact slices_Contains_int_int.mono _ _ _
   | exact spilelaw34_awake.mono _
   | exact LeO.none _
   | refine LeO.ite ?_ ?_
   | refine LeO.bind ?_ (fun _ => ?_)
  ·intro y0 y1 y2 y3 y4 y5 y6 y7 y8
   unfold spilelaw34_SuspectLimits.j1
   repeat' first
   | (with_reducible exact ih0 _ _ _ _ _ _ _ _)
   | (with_reducible exact ih1 _ _ _ _ _ _ _ _ _)
   | (with_reducible exact ih2 _ _ _ _ _ _ _ _)
   | (with_reducible exact ih3 _ _ _ _ _ _ _ _ _ _)
   | (with_reducible exact slices_Contains_int_int.mono _ _ _)
   | (with_reducible exact spilelaw34_awake.mono _)
   | (with_reducible exact LeO.refl _)
   | (with_reducible exact LeO.none _)
   | (with_reducible refine LeO.ite ?_ ?_)
   | (with_reducible refine LeO.bind ?_ (fun _ => ?_))
   | exact ih0 _ _ _ _ _ _ _ _
   | exact ih1 _ _ _ _ _ _ _ _ _
   | exact ih2 _ _ _ _ _ _ _ _
   | exact ih3 _ _ _ _ _ _ _ _ _ _
   | exact slices_Contains_int_int.mono _ _ _
   | exact spilelaw34_awake.mono _
   | exact LeO.none _
   | refine LeO.ite ?_ ?_
   | refine LeO.bind ?_ (fun _ => ?_)
  ·intro y0 y1 y2 y3 y4 y5 y6 y7
   unfold spilelaw34_SuspectLimits.l1
   repeat' first
   | (with_reducible exact ih0 _ _ _ _ _ _ _ _)
   | (with_reducible exact ih1 _ _ _ _ _ _ _ _ _)
   | (with_reducible exact ih2 _ _ _ _ _ _ _ _)
   | (with_reducible exact ih3 _ _ _ _ _ _ _ _ _ _)
   | (with_reducible exact slices_Contains_int_int.mono _ _ _)
   | (with_reducible exact spilelaw34_awake.mono _)
   | (with_reducible exact LeO.refl _)
   | (with_reducible exact LeO.none _)
   | (with_reducible refine LeO.ite ?_ ?_)
   | (with_reducible refine LeO.bind ?_ (fun _ => ?_))
   | exact ih0 _ _ _ _ _ _ _ _
   | exact ih1 _ _ _ _ _ _ _ _ _
   | exact ih2 _ _ _ _ _ _ _ _
   | exact ih3 _ _ _ _ _ _ _ _ _ _
   | exact slices_Contains_int_int.mono _ _ _
   | exact spilelaw34_awake.mono _
   | exact LeO.none _
   | refine LeO.ite ?_ ?_
   | refine LeO.bind ?_ (fun _ => ?_)
  ·intro y0 y1 y2 y3 y4 y5 y6 y7 y8 y9
   unfold spilelaw34_SuspectLimits.j3
   repeat' first
   | (with_reducible exact ih0 _ _ _ _ _ _ _ _)
   | (with_reducible exact ih1 _ _ _ _ _ _ _ _ _)
   | (with_reducible exact ih2 _ _ _ _ _ _ _ _)
   | (with_reducible exact ih3 _ _ _ _ _ _ _ _ _ _)
   | (with_reducible exact slices_Contains_int_int.mono _ _ _)
   | (with_reducible exact spilelaw34_awake.mono _)
   | (with_reducible exact LeO.refl _)
   | (with_reducible exact LeO.none _)
   | (with_reducible refine LeO.ite ?_ ?_)
   | (with_reducible refine LeO.bind ?_ (fun _ => ?_))
   | exact ih0 _ _ _ _ _ _ _ _
   | exact ih1 _ _ _ _ _ _ _ _ _
   | exact ih2 _ _ _ _ _ _ _ _
   | exact ih3 _ _ _ _ _ _ _ _ _ _
   | exact slices_Contains_int_int.mono _ _ _
   | exact spilelaw34_awake.mono _
   | exact LeO.none _
   | refine LeO.ite ?_ ?_
   | refine LeO.bind ?_ (fun _ => ?_)
theorem spilelaw34_SuspectLimits.mono : ∀ a0 a1 a2 a3 k, LeO (spilelaw34_SuspectLimits.f k a0 a1 a2 a3) (spilelaw34_SuspectLimits.f (k + 1) a0 a1 a2 a3) := by
 intro a0 a1 a2 a3 k
 obtain ⟨ih0, ih1, ih2, ih3⟩ := spilelaw34_SuspectLimits.mono_l k
 unfold spilelaw34_SuspectLimits.f
 repeat' first
   | (with_reducible exact ih0 _ _ _ _ _ _ _ _)
   | (with_reducible exact ih1 _ _ _ _ _ _ _ _ _)
   | (with_reducible exact ih2 _ _ _ _ _ _ _ _)
   | (with_reducible exact ih3 _ _ _ _ _ _ _ _ _ _)
   | (with_reducible exact slices_Contains_int_int.mono _ _ _)
   | (with_reducible exact spilelaw34_awake.mono _)
   | (with_reducible exact LeO.refl _)
   | (with_reducible exact LeO.none _)
   | (with_reducible refine LeO.ite ?_ ?_)
   | (with_reducible refine LeO.bind ?_ (fun _ => ?_))
   | exact ih0 _ _ _ _ _ _ _ _
   | exact ih1 _ _ _ _ _ _ _ _ _
   | exact ih2 _ _ _ _ _ _ _ _
   | exact ih3 _ _ _ _ _ _ _ _ _ _
   | exact slices_Contains_int_int.mono _ _ _
   | exact spilelaw34_awake.mono _
   | exact LeO.none _
   | refine LeO.ite ?_ ?_
   | refine LeO.bind ?_ (fun _ => ?_)
def spilelaw34_SuspectLimits.T5 : Bool × List (List Nat × List Nat) := (true, [([], []), ([0], [0]), ([], []), ([], []), ([3], [3]), ([], []), ([5], [5]), ([1, 2, 4, 6, 1], [1, 2, 4, 6]), ([7], [7]), ([8], [8]), ([8], [8]), ([9, 7, 0, 1, 2, 3, 4, 5, 6, 7, 8, 9], [9]), ([10, 11, 0, 1, 2, 3, 4, 5, 6, 7, 8, 9, 10, 11], [10])])
def spilelaw34_SuspectLimits.B5 : List Nat := [0, 1, 0, 0, 8, 0, 32, 127, 255, 511, 511, 1023, 4095]
theorem spilelaw34_SuspectLimits.tab5 : rtab .any (opsOf Try.f9 5) = spilelaw34_SuspectLimits.T5 := by kernel_rfl
theorem spilelaw34_SuspectLimits.bits5 : waitsOk spilelaw34_SuspectLimits.T5.2 spilelaw34_SuspectLimits.B5 = true := by kernel_rfl
def spilelaw34_SuspectLimits.T28 : Bool × List (List Nat × List Nat) := (true, [([], []), ([0], [0]), ([], []), ([], []), ([3], [3]), ([4], [4]), ([], []), ([6], [6]), ([1, 2, 5, 7, 1], [1, 2, 5, 7]), ([8], [8]), ([9], [9]), ([9], [9]), ([], []), ([12, 10, 8, 0, 1, 2, 3, 4, 5, 6, 7, 8, 9, 10, 12], [10, 12]), ([11, 13, 0, 1, 2, 3, 4, 5, 6, 7, 8, 9, 10, 11, 12, 13], [11])])
def spilelaw34_SuspectLimits.B28 : List Nat := [0, 1, 0, 0, 8, 24, 0, 64, 255, 511, 1023, 1023, 0, 6143, 16383]
theorem spilelaw34_SuspectLimits.tab28 : rtab .any (opsOf Try.f9 28) = spilelaw34_SuspectLimits.T28 := by kernel_rfl
theorem spilelaw34_SuspectLimits.bits28 : waitsOk spilelaw34_SuspectLimits.T28.2 spilelaw34_SuspectLimits.B28 = true := by kernel_rfl
set_option maxHeartbeats 8000000 in
set_option maxRecDepth 100000 in
theorem spilelaw34_SuspectLimits.calls (k : Nat) (A0 : Option Addr) (c0 : Nat) (l0 : List (S30)) (a1 : Int) (a2_0 : Int) (a2_1 : Int) (r : Bool) (w : World) (hr0 : Kd.C k30 w A0 l0.length l0) (hc0 : l0.length ≤ c0) (h : spilelaw34_SuspectLimits.f k l0 a1 a2_0 a2_1 = some r) :
  Calls Try.prog 9 #[.slice A0 l0.length c0, .int .i64 a1, .agg #[.int .i64 a2_0, .int .i64 a2_1]] w fun e w' => e = .returned (.bool r) ∧ Below w.heap.size w w' := by
 have hu79 := Try.underlying42
 have hu30 := Try.underlying30
 have HR0 := Aside0.mk hr0
 have HC0 := Aside0.mk hc0
 clear hr0 hc0
 have HB := Aside0.mk (Below.refl w.heap.size w)
 have H : ((spilelaw34_awake.f k).bind fun t670 => (if t670 = true then (if (l0.length : Int) > 14 then (some true) else ((clone13.f l0).bind fun t671 => ((suspect_Suspects.f t671 a1 a2_0 a2_1).bind fun bt674 => (if bt674.2 = 0 then (spilelaw34_SuspectLimits.l0 k l0 a1 bt674.1 l0 (l0.length : Int) 0 a2_0 a2_1) else (some ((bt674.1.length : Int) == 0)))))) else (none))) = some r := h
 clear h
 replace H := Option.bind_eq_some_iff.mp H
 obtain ⟨t670, A40, H⟩ := H
 replace H : (if t670 = true then (if (l0.length : Int) > 14 then (some true) else ((clone13.f l0).bind fun t671 => ((suspect_Suspects.f t671 a1 a2_0 a2_1).bind fun bt674 => (if bt674.2 = 0 then (spilelaw34_SuspectLimits.l0 k l0 a1 bt674.1 l0 (l0.length : Int) 0 a2_0 a2_1) else (some ((bt674.1.length : Int) == 0)))))) else (none)) = some r := H
 have A4 := Aside0.mk A40
 clear A40
 by_cases c5 : t670 = true
 ·subst c5
  have H1 : (if (l0.length : Int) > 14 then (some true) else ((clone13.f l0).bind fun t671 => ((suspect_Suspects.f t671 a1 a2_0 a2_1).bind fun bt674 => (if bt674.2 = 0 then (spilelaw34_SuspectLimits.l0 k l0 a1 bt674.1 l0 (l0.length : Int) 0 a2_0 a2_1) else (some ((bt674.1.length : Int) == 0)))))) = some r := by rw [if_pos rfl] at H; exact H
  clear H
  have H := H1
  clear H1
  by_cases c6 : (l0.length : Int) > 14
  ·rw [if_pos c6] at H
   have c6b0 : decide (14 < (l0.length : Int)) = true := decide_eq_true c6
   have c6b1 : decide (14 < l0.length) = true := decide_eq_true (by omega)
   clear c6
   obtain rfl := Option.some.inj H
   go_enter Try.func9, Try.ntmps9
   go_wp2_with (first | ((with_reducible refine gqD (N := 5) rfl ?_); refine GS.bx (N := 5) (cs := #[.int .i64 a2_0, .int .i64 a2_1]) (t := 42) ?_; intro gb669 hg w7 hbox hb; have n0_ := Aside0.mk (lqT (GS.lB HB.out) hb); have n1_ := Aside0.mk (hbox); have n2_ := Aside0.mk ((by rw [hg]; exact (lqZ (GS.lB HB.out)) : w.heap.size ≤ gb669)); have n3_ := Aside0.mk ((by rw [hg]; exact (lqZ (GS.lB HB.out)) : w.heap.size ≤ gb669)); clear HB; have HB := n0_; have BK669 := n1_; have GW669 := n2_; have GE669 := n3_; clear n0_ n1_ n2_ n3_; clear hb hbox hg) | ((with_reducible refine gqC (f := 10) rfl ?_); refine GS.gL (some 22) Try.func10 #[] ?_; (with_reducible refine (spilelaw34_awake.calls k  true _ A4.out).mono ?_); rintro e w8 ⟨rfl, hb⟩; refine ⟨_, rfl, ?_⟩; have n0_ := Aside0.mk (bqB (GS.bqX BK669.out) hb); have n1_ := Aside0.mk (lqT (GS.lB HB.out) hb); clear BK669; clear HB; have BK669 := n0_; have HB := n1_; clear n0_ n1_; (try clear hb); (try clear hb2); (try clear hk); (try clear hi)))
   go_ret
   exact ⟨by first | rfl | (simp [errW_none, errW_some] <;> rfl) | (simp [*, errW_none, errW_some] <;> rfl), GS.lB HB.out⟩
  ·rw [if_neg c6] at H
   have c6b0 : decide (14 < (l0.length : Int)) = false := decide_eq_false c6
   have c6b1 : decide (14 < l0.length) = false := decide_eq_false (by omega)
   clear c6
   replace H := Option.bind_eq_some_iff.mp H
   obtain ⟨t671, A90, H⟩ := H
   replace H : ((suspect_Suspects.f t671 a1 a2_0 a2_1).bind fun bt674 => (if bt674.2 = 0 then (spilelaw34_SuspectLimits.l0 k l0 a1 bt674.1 l0 (l0.length : Int) 0 a2_0 a2_1) else (some ((bt674.1.length : Int) == 0)))) = some r := H
   have A9 := Aside0.mk A90
   clear A90
   replace H := Option.bind_eq_some_iff.mp H
   obtain ⟨⟨t674, t675⟩, A100, H⟩ := H
   replace H : (if t675 = 0 then (spilelaw34_SuspectLimits.l0 k l0 a1 t674 l0 (l0.length : Int) 0 a2_0 a2_1) else (some ((t674.length : Int) == 0))) = some r := H
   have A10 := Aside0.mk A100
   clear A100
   by_cases c11 : t675 = 0
   ·rw [if_pos c11] at H
    have c11b0 : (t675 == 0) = true := beq_iff_eq.mpr c11
    try simp only [beq_self_eq_true, Bool.not_true, Bool.false_or, Bool.true_and] at c11b0
    have c11b1 : (t675 != 0) = false := bne_eq_false_iff_eq.mpr c11
    clear c11
    have H' := Aside0.mk H
    clear H
    go_enter Try.func9, Try.ntmps9
    try go_wp2_with (first | ((with_reducible refine gqD (N := 5) rfl ?_); refine GS.bx (N := 5) (cs := #[.int .i64 a2_0, .int .i64 a2_1]) (t := 42) ?_; intro gb669 hg w12 hbox hb; have n0_ := Aside0.mk (lqT (GS.lB HB.out) hb); have n1_ := Aside0.mk (hbox); have n2_ := Aside0.mk ((by rw [hg]; exact (lqZ (GS.lB HB.out)) : w.heap.size ≤ gb669)); have n3_ := Aside0.mk ((by rw [hg]; exact (lqZ (GS.lB HB.out)) : w.heap.size ≤ gb669)); clear HB; have HB := n0_; have BK669 := n1_; have GW669 := n2_; have GE669 := n3_; clear n0_ n1_ n2_ n3_; clear hb hbox hg) | ((with_reducible refine gqC (f := 10) rfl ?_); refine GS.gL (some 22) Try.func10 #[] ?_; (with_reducible refine (spilelaw34_awake.calls k  true _ A4.out).mono ?_); rintro e w13 ⟨rfl, hb⟩; refine ⟨_, rfl, ?_⟩; have n0_ := Aside0.mk (bqB (GS.bqX BK669.out) hb); have n1_ := Aside0.mk (lqT (GS.lB HB.out) hb); clear BK669; clear HB; have BK669 := n0_; have HB := n1_; clear n0_ n1_; (try clear hb); (try clear hb2); (try clear hk); (try clear hi)))
    have n0_ := Aside0.mk (bqD BK669.out)
    have n1_ := Aside0.mk (lqD HB.out)
    clear BK669
    clear HB
    have BK669 := n0_
    have HB := n1_
    clear n0_ n1_
    refine start_ (n := 13) (S := fun w' => w'.cell? ⟨gb669, 0, none⟩ = some (.int .i64 a2_0) ∧ w'.cell? ⟨gb669, 1, none⟩ = some (.int .i64 a2_1)) (ds := []) #[false, false, false, false, false, false, false, false, false, false, false, false, false] (by kernel_rfl) rfl rfl ⟨(bqC BK669.out 0).trans rfl, (bqC BK669.out 1).trans rfl⟩ (fun hHeld => ?_); refine with_tabW spilelaw34_SuspectLimits.tab5 spilelaw34_SuspectLimits.bits5 (fun HT_ HW_ => ?_)
    generalize w13.drew = w14 at BK669 HB hHeld ⊢
    refine GS.pu 0 (some 28) HT_.out ?_
    refine GS.pu 2 (some 30) HT_.out ?_
    refine GS.pu 3 (some 31) HT_.out ?_
    refine GS.pu 5 (some 33) HT_.out ?_
    refine GS.tk 4 (some 32) HT_.out HW_.out hHeld ?_
    refine GS.tk 6 (some 34) HT_.out HW_.out hHeld ?_
    refine one_ (i := 1) (N := some 29) #[true, true, true, true, true, true, true, false, false, false, false, false, false] rfl rfl (one_of HT_.out (by kernel_rfl)) (by decide) (fun K hK => ?_)
    refine goes_ Try.func13 (by kernel_rfl) rfl #[.slice A0 l0.length c0] (by rfl) rfl rfl (by (try simp only [List.map_toArray, List.map_cons, List.map_nil]); first | done | rfl | (simp only [List.length_drop, List.length_take]; rfl)) ?_
    with_reducible refine (clone13.calls _ _ l0 t671 _ ?side1 ?side2 A9.out).mono ?_
    (case side1 => exact GS.rC (Kd.C_below HR0.out HB.out))
    (case side2 => exact HC0.out)
    rintro e w15 ⟨v672, rfl, ho0, hb⟩
    refine ⟨_, rfl, ?_⟩
    have n0_ := Aside0.mk (Kd.R_lower ho0 (lqZ (GS.lB HB.out)))
    have n1_ := Aside0.mk (bqB (GS.bqX BK669.out) hb)
    have n2_ := Aside0.mk (lqT (GS.lB HB.out) hb)
    clear BK669
    clear HB
    have HO673 := n0_
    have BK669 := n1_
    have HB := n2_
    clear n0_ n1_ n2_
    (try clear hb)
    (try clear hb2)
    (try clear hk)
    (try clear hi)
    (try clear ho0)
    obtain ⟨Ao16, co16, eo16⟩ := Kd.R_slice HO673.out
    (first | subst eo16 | (injection eo16 with f1_ f2_ f3_; have f4_ := f1_.symm; have f5_ := f3_.symm; clear f1_ f2_ f3_; subst f4_; subst f5_))
    refine hK.out _ _ ⟨(bqC BK669.out 0).trans rfl, (bqC BK669.out 1).trans rfl⟩ (fun hHeld => ?_)
    clear hK K
    refine norm_ (a' := ?_) ?_ ?_
    rotate_left
    ·show Act.put _ (some 29) _ = _
     simp only [Act.put, List.setIfInBounds_toArray, List.set_cons_zero, List.set_cons_succ, i64_w, i32_w]
     rfl
    refine one_ (i := 7) (N := some 35) #[true, true, true, true, true, true, true, true, false, false, false, false, false] rfl rfl (one_of HT_.out (by kernel_rfl)) (by decide) (fun K hK => ?_)
    refine goes_ Try.func25 (by kernel_rfl) rfl #[.slice Ao16 t671.length co16, .int .i64 a1, .int .i64 a2_0, .int .i64 a2_1] (by rfl) rfl rfl (by (try simp only [List.map_toArray, List.map_cons, List.map_nil]); first | done | rfl | (simp only [List.length_drop, List.length_take]; rfl)) ?_
    with_reducible refine (suspect_Suspects.calls _ _ t671 a1 a2_0 a2_1 t674 t675 _ ?side1 ?side2 A10.out).mono ?_
    (case side1 => repeat (first | exact (Kd.R_reads' HO673.out).2.2 | (with_reducible refine Kd.C_alloc ?_ _) | (with_reducible refine Kd.C_drewN ?_ _) | (with_reducible refine Kd.C_drew ?_)))
    (case side2 => exact (Kd.R_reads' HO673.out).2.1)
    rintro e w17 ⟨v676, rfl, ho0, hb⟩
    refine ⟨_, rfl, ?_⟩
    have n0_ := Aside0.mk (Kd.R_below (GS.rR HO673.out) hb)
    have n1_ := Aside0.mk (Kd.R_lower ho0 (lqZ (GS.lB HB.out)))
    have n2_ := Aside0.mk (bqB (GS.bqX BK669.out) hb)
    have n3_ := Aside0.mk (lqT (GS.lB HB.out) hb)
    clear HO673
    clear BK669
    clear HB
    have HO673 := n0_
    have HO677 := n1_
    have BK669 := n2_
    have HB := n3_
    clear n0_ n1_ n2_ n3_
    (try clear hb)
    (try clear hb2)
    (try clear hk)
    (try clear hi)
    (try clear ho0)
    refine hK.out _ _ ⟨(bqC BK669.out 0).trans rfl, (bqC BK669.out 1).trans rfl⟩ (fun hHeld => ?_)
    clear hK K
    refine norm_ (a' := ?_) ?_ ?_
    rotate_left
    ·show Act.put _ (some 35) _ = _
     simp only [Act.put, List.setIfInBounds_toArray, List.set_cons_zero, List.set_cons_succ, i64_w, i32_w]
     rfl
    refine GS.pu 8 (some 27) HT_.out ?_
    refine GS.pu 9 (some 36) HT_.out ?_
    refine GS.pu 10 (some 37) HT_.out ?_
    refine GS.pu 11 (some 7) HT_.out ?_
    refine GS.pu 12 (some 8) HT_.out ?_
    refine done_ (done_of HT_.out (by kernel_rfl)) ?_
    try go_wp2
    go_loopg [45] k (fun kq v45 w' => ∃ (x45_1 : Int), v45 = .int .i64 x45_1 ∧ Aside0 (spilelaw34_SuspectLimits.l0 kq l0 a1 t674 l0 (l0.length : Int) x45_1 a2_0 a2_1 = some r) ∧ Aside0 (kq ≤ k) ∧ Aside0 (Kd.R (Kd.int .i64) 3 w' w.heap.size (fun _ => True) v676 t674) ∧ Aside0 (w'.heap[gb669]? = some (.cells #[.int .i64 a2_0, .int .i64 a2_1] 42 (0, 0))) ∧ Aside0 (Below w.heap.size w w'))
    case atStart => exact ⟨(0), (by first | rfl | (simp; done) | (simp [*]; done)), H', ⟨Nat.le_refl _⟩, ⟨by (with_reducible repeat (first | apply Kd.R_alloc | apply Kd.R_drewN | apply Kd.R_drew)); exact HO677.out⟩, ⟨GS.bqX BK669.out⟩, ⟨GS.lB HB.out⟩⟩
    case round =>
     clear H'
     try clear c1
     try clear c2
     try clear p2
     try clear c5
     try clear c6
     try clear c6b0
     try clear c6b1
     try clear c9
     try clear c10
     try clear c11
     try clear c11b0
     try clear c11b1
     try clear c13
     obtain ⟨x45_1, rfl, HA, HK1, HO_7, BK669, HB⟩ := hrel
     cases gk with
     | zero => exact absurd HA.out (by simp [spilelaw34_SuspectLimits.l0])
     | succ k1 =>
      have H := HA.out
      clear HA
      simp only [spilelaw34_SuspectLimits.l0] at H
      by_cases c18 : x45_1 < (l0.length : Int)
      ·rw [if_pos c18] at H
       have c18b0 : decide (x45_1 < (l0.length : Int)) = true := decide_eq_true c18
       clear c18
       by_cases c19 : 0 ≤ x45_1
       ·rw [if_pos c19] at H
        have c19b0 : decide (0 ≤ x45_1) = true := decide_eq_true c19
        clear c19
        by_cases c20 : x45_1 < (l0.length : Int)
        ·rw [if_pos c20] at H
         have c20b0 : decide (x45_1 < (l0.length : Int)) = true := decide_eq_true c20
         clear c20
         have HC21 := Aside0.mk H
         clear H
         have p678 : 0 ≤ (x45_1 : Int) := of_decide_eq_true (by first | (with_reducible assumption) | assumption)
         have q678 : x45_1 < (l0.length : Int) := of_decide_eq_true (by first | (with_reducible assumption) | assumption)
         obtain ⟨ad678, e678, hx678_0, hx678_1, hx678_2, hx678_3⟩ := at_T30 HR0.out x45_1 p678 q678
         cases e678
         replace hx678_0 := (HB.out.cell (World.block_lt_of_cell? w _ hx678_0)).trans hx678_0
         replace hx678_1 := (HB.out.cell (World.block_lt_of_cell? w _ hx678_1)).trans hx678_1
         replace hx678_2 := (HB.out.cell (World.block_lt_of_cell? w _ hx678_2)).trans hx678_2
         replace hx678_3 := (HB.out.cell (World.block_lt_of_cell? w _ hx678_3)).trans hx678_3
         replace p678 := eq_true p678
         replace q678 := eq_true q678
         go_upto_if 52 with (first | ((with_reducible refine gqD (N := 10) rfl ?_); refine GS.bx (N := 10) (cs := #[.int .i64 0, .int .i64 0, .int .i64 0, .int .i64 0]) (t := 30) ?_; intro gb679 hg w22 hbox hb; have n0_ := Aside0.mk (Kd.R_below (GS.rR HO_7.out) hb); have n1_ := Aside0.mk (bqB (GS.bqX BK669.out) hb); have n2_ := Aside0.mk (lqT (GS.lB HB.out) hb); have n3_ := Aside0.mk (hbox); have n4_ := Aside0.mk ((by rw [hg]; exact (lqZ (GS.lB HB.out)) : w.heap.size ≤ gb679)); have n5_ := Aside0.mk ((by rw [hg]; exact (lqZ (GS.lB HB.out)) : w.heap.size ≤ gb679)); have n6_ := Aside0.mk ((by rw [hg]; exact Nat.ne_of_lt (blk_lt (GS.bqX BK669.out)) : gb669 ≠ gb679)); have n7_ := Aside0.mk ((by rw [hg]; exact Nat.ne_of_gt (blk_lt (GS.bqX BK669.out)) : gb679 ≠ gb669)); clear HO_7; clear BK669; clear HB; have HO_7 := n0_; have BK669 := n1_; have HB := n2_; have BK679 := n3_; have GW679 := n4_; have GE679 := n5_; have NB669_679 := n6_; have NB679_669 := n7_; clear n0_ n1_ n2_ n3_ n4_ n5_ n6_ n7_; clear hb hbox hg; have hnb23 := NB679_669.out; have hnc23 := NB669_679.out; obtain ⟨hcz24_0, hcz24_1, hcz24_2, hcz24_3, hfz24_0, hfz24_1, hfz24_2, hfz24_3⟩ := GS.c4 BK679.out))
         (try simp only [Act.put, List.setIfInBounds_toArray, List.set_cons_zero, List.set_cons_succ])
         go_cut [11] (fun v11 wc => ∃ (kq : Nat) (x11_20 : Int), v11 = .int .i64 x11_20 ∧ Aside0 (spilelaw34_SuspectLimits.j1 kq l0 a1 t674 x11_20 l0 (l0.length : Int) x45_1 a2_0 a2_1 = some r) ∧ Aside0 (kq ≤ k1) ∧ Aside0 (Kd.R (Kd.int .i64) 3 wc w.heap.size (fun _ => True) v676 t674) ∧ Aside0 (wc.heap[gb669]? = some (.cells #[.int .i64 a2_0, .int .i64 a2_1] 42 (0, 0))) ∧ Aside0 (wc.heap[gb679]? = some (.cells #[.int .i64 ((rd_T30 l0 x45_1).f0), .int .i64 ((rd_T30 l0 x45_1).f1), .int .i64 ((rd_T30 l0 x45_1).f2), .int .i64 ((rd_T30 l0 x45_1).f3)] 30 (0, 0))) ∧ Aside0 (Below w.heap.size w wc))
         case first =>
          have H := HC21.out
          clear HC21
          by_cases c25 : a1 = 1
          ·rw [if_pos c25] at H
           have c25b0 : (a1 == 1) = true := beq_iff_eq.mpr c25
           try simp only [beq_self_eq_true, Bool.not_true, Bool.false_or, Bool.true_and] at c25b0
           have c25b1 : (a1 != 1) = false := bne_eq_false_iff_eq.mpr c25
           clear c25
           (first | rw [c25b0] | (simp only [i64_w, i32_w]; rw [c25b0]) | skip)
           have H' := Aside0.mk H
           clear H
           have hnb26 := NB679_669.out
           have hnc26 := NB669_679.out
           obtain ⟨hcz27_0, hcz27_1, hcz27_2, hcz27_3, hfz27_0, hfz27_1, hfz27_2, hfz27_3⟩ := GS.c4 BK679.out
           go_wp2
           go_meet
           case rel => exact ⟨_, ((rd_T30 l0 x45_1).f1), (by first | rfl | (simp; done) | (simp [*]; done)), H', ⟨by have := HK1.out; first | omega | exact Nat.le_refl _⟩, ⟨by (with_reducible repeat (first | apply Kd.R_alloc | apply Kd.R_drewN | apply Kd.R_drew)); exact Kd.R_mono (Kd.R_far (p := ⟨gb679, 3, none⟩) (Kd.R_far (p := ⟨gb679, 2, none⟩) (Kd.R_far (p := ⟨gb679, 1, none⟩) (Kd.R_far (p := ⟨gb679, 0, none⟩) (Kd.R_types HO_7.out BK679.out (by decide)) (fun _ hk => hk.2) (.int .i64 ((rd_T30 l0 x45_1).f0))) (fun _ hk => hk.2) (.int .i64 ((rd_T30 l0 x45_1).f1))) (fun _ hk => hk.2) (.int .i64 ((rd_T30 l0 x45_1).f2))) (fun _ hk => hk.2) (.int .i64 ((rd_T30 l0 x45_1).f3))) (fun _ hk => trivial)⟩, ⟨GS.bqX BK669.out⟩, ⟨GS.bqZ BK679.out⟩, ⟨GS.lB HB.out⟩⟩
          ·rw [if_neg c25] at H
           have c25b0 : (a1 == 1) = false := beq_eq_false_iff_ne.mpr c25
           try simp only [beq_self_eq_true, Bool.not_true, Bool.false_or, Bool.true_and] at c25b0
           have c25b1 : (a1 != 1) = true := bne_iff_ne.mpr c25
           (first | rw [c25b0] | (simp only [i64_w, i32_w]; rw [c25b0]) | skip)
           have H' := Aside0.mk H
           clear H
           go_wp2
           go_meet
           case rel => exact ⟨_, ((rd_T30 l0 x45_1).f2), (by first | rfl | (simp; done) | (simp [*]; done)), H', ⟨by have := HK1.out; first | omega | exact Nat.le_refl _⟩, ⟨by (with_reducible repeat (first | apply Kd.R_alloc | apply Kd.R_drewN | apply Kd.R_drew)); exact Kd.R_mono (Kd.R_far (p := ⟨gb679, 3, none⟩) (Kd.R_far (p := ⟨gb679, 2, none⟩) (Kd.R_far (p := ⟨gb679, 1, none⟩) (Kd.R_far (p := ⟨gb679, 0, none⟩) (Kd.R_types HO_7.out BK679.out (by decide)) (fun _ hk => hk.2) (.int .i64 ((rd_T30 l0 x45_1).f0))) (fun _ hk => hk.2) (.int .i64 ((rd_T30 l0 x45_1).f1))) (fun _ hk => hk.2) (.int .i64 ((rd_T30 l0 x45_1).f2))) (fun _ hk => hk.2) (.int .i64 ((rd_T30 l0 x45_1).f3))) (fun _ hk => trivial)⟩, ⟨GS.bqX BK669.out⟩, ⟨GS.bqZ BK679.out⟩, ⟨GS.lB HB.out⟩⟩
         case rest =>
          clear HC21
          try clear c1
          try clear c2
          try clear p2
          try clear c5
          try clear c6
          try clear c6b0
          try clear c6b1
          try clear p6
          try clear q6
          try clear hx6
          try clear c9
          try clear c10
          try clear c11
          try clear c11b0
          try clear c11b1
          try clear c13
          try clear c18
          try clear c18b0
          try clear c19
          try clear c19b0
          try clear c20
          try clear c20b0
          try clear c23
          try clear c25
          try clear c25b0
          try clear c25b1
          try clear c26
          try clear hcz24_0
          try clear hcz24_1
          try clear hcz24_2
          try clear hcz24_3
          try clear hcz27_0
          try clear hcz27_1
          try clear hcz27_2
          try clear hcz27_3
          try clear hfz24_0
          try clear hfz24_1
          try clear hfz24_2
          try clear hfz24_3
          try clear hfz27_0
          try clear hfz27_1
          try clear hfz27_2
          try clear hfz27_3
          try clear hx678_0
          try clear hx678_1
          try clear hx678_2
          try clear hx678_3
          try clear p2
          try clear p678
          try clear q678
          obtain ⟨kq, x11_20, rfl, HA, HJ20, HO_7, BK669, BK679, HB⟩ := hcut
          cases kq with
          | zero => exact absurd HA.out (by simp [spilelaw34_SuspectLimits.j1])
          | succ kj20 =>
           have H := HA.out
           clear HA
           simp only [spilelaw34_SuspectLimits.j1] at H
           replace H := Option.bind_eq_some_iff.mp H
           obtain ⟨t680, A280, H⟩ := H
           replace H : ((suspect_Test.f t680 a1 x11_20).bind fun bt683 => ((slices_Contains_int_int.f kj20 t674 x11_20).bind fun t686 => (if bt683.2.2 = 0 then (if (t686 != (decide ((wrap64 (bt683.1 * a2_1)) ≤ (wrap64 (bt683.2.1 * a2_0))))) = true then (none) else (spilelaw34_SuspectLimits.l0 kj20 l0 a1 t674 l0 (l0.length : Int) (wrap64 (x45_1 + 1)) a2_0 a2_1)) else (if (t686 != false) = true then (none) else (spilelaw34_SuspectLimits.l0 kj20 l0 a1 t674 l0 (l0.length : Int) (wrap64 (x45_1 + 1)) a2_0 a2_1))))) = some r := H
           have A28 := Aside0.mk A280
           clear A280
           replace H := Option.bind_eq_some_iff.mp H
           obtain ⟨⟨t683, t684, t685⟩, A290, H⟩ := H
           replace H : ((slices_Contains_int_int.f kj20 t674 x11_20).bind fun t686 => (if t685 = 0 then (if (t686 != (decide ((wrap64 (t683 * a2_1)) ≤ (wrap64 (t684 * a2_0))))) = true then (none) else (spilelaw34_SuspectLimits.l0 kj20 l0 a1 t674 l0 (l0.length : Int) (wrap64 (x45_1 + 1)) a2_0 a2_1)) else (if (t686 != false) = true then (none) else (spilelaw34_SuspectLimits.l0 kj20 l0 a1 t674 l0 (l0.length : Int) (wrap64 (x45_1 + 1)) a2_0 a2_1)))) = some r := H
           have A29 := Aside0.mk A290
           clear A290
           replace H := Option.bind_eq_some_iff.mp H
           obtain ⟨t686, A300, H⟩ := H
           replace H : (if t685 = 0 then (if (t686 != (decide ((wrap64 (t683 * a2_1)) ≤ (wrap64 (t684 * a2_0))))) = true then (none) else (spilelaw34_SuspectLimits.l0 kj20 l0 a1 t674 l0 (l0.length : Int) (wrap64 (x45_1 + 1)) a2_0 a2_1)) else (if (t686 != false) = true then (none) else (spilelaw34_SuspectLimits.l0 kj20 l0 a1 t674 l0 (l0.length : Int) (wrap64 (x45_1 + 1)) a2_0 a2_1))) = some r := H
           have A30 := Aside0.mk A300
           clear A300
           by_cases c31 : t685 = 0
           ·rw [if_pos c31] at H
            have c31b0 : (t685 == 0) = true := beq_iff_eq.mpr c31
            try simp only [beq_self_eq_true, Bool.not_true, Bool.false_or, Bool.true_and] at c31b0
            have c31b1 : (t685 != 0) = false := bne_eq_false_iff_eq.mpr c31
            clear c31
            by_cases c32 : (t686 != (decide ((wrap64 (t683 * a2_1)) ≤ (wrap64 (t684 * a2_0))))) = true
            ·rw [if_pos c32] at H
             exact absurd H (by simp)
            ·rw [if_neg c32] at H
             have c32b0 : (t686 != (decide ((wrap64 (t683 * a2_1)) ≤ (wrap64 (t684 * a2_0))))) = false := by simpa using c32
             (try (have c32b1 : decide (t686 = (decide ((wrap64 (t683 * a2_1)) ≤ (wrap64 (t684 * a2_0))))) = true := by simpa using c32))
             (try (have c32b2 : (t686 == (decide ((wrap64 (t683 * a2_1)) ≤ (wrap64 (t684 * a2_0))))) = true := by simpa using c32))
             clear c32
             have H' := Aside0.mk H
             clear H
             go_wp2_with (first | ((with_reducible refine gqC (f := 13) rfl ?_); refine GS.gL (some 57) Try.func13 #[.slice (some ad678) l0.length c0] ?_; (with_reducible refine (clone13.calls _ _ l0 t680 _ ?side1 ?side2 A28.out).mono ?_); (case side1 => exact GS.rC (Kd.C_below HR0.out HB.out)); (case side2 => exact HC0.out); rintro e w33 ⟨v681, rfl, ho0, hb⟩; refine ⟨_, rfl, ?_⟩; have n0_ := Aside0.mk (Kd.R_below (GS.rR HO_7.out) hb); have n1_ := Aside0.mk (Kd.R_lower (Kd.R_newB ho0 (GS.bqX BK679.out)) (lqZ (GS.lB HB.out))); have n2_ := Aside0.mk (bqB (GS.bqX BK669.out) hb); have n3_ := Aside0.mk (bqB (GS.bqX BK679.out) hb); have n4_ := Aside0.mk (lqT (GS.lB HB.out) hb); clear HO_7; clear BK669; clear BK679; clear HB; have HO_7 := n0_; have HO682 := n1_; have BK669 := n2_; have BK679 := n3_; have HB := n4_; clear n0_ n1_ n2_ n3_ n4_; (try clear hb); (try clear hb2); (try clear hk); (try clear hi); (try clear ho0); obtain ⟨Ao34, co34, eo34⟩ := Kd.R_slice HO682.out; subst eo34) | ((with_reducible refine gqC (f := 21) rfl ?_); refine GS.gL (some 60) Try.func21 #[.slice Ao34 t680.length co34, .int .i64 a1, .int .i64 x11_20] ?_; (with_reducible refine (suspect_Test.calls _ _ t680 a1 x11_20 t683 t684 t685 _ ?side1 ?side2 A29.out).mono ?_); (case side1 => repeat (first | exact (Kd.R_reads' HO682.out).2.2 | (with_reducible refine Kd.C_alloc ?_ _) | (with_reducible refine Kd.C_drewN ?_ _) | (with_reducible refine Kd.C_drew ?_))); (case side2 => exact (Kd.R_reads' HO682.out).2.1); rintro e w35 ⟨rfl, hb⟩; refine ⟨_, rfl, ?_⟩; have n0_ := Aside0.mk (Kd.R_below (GS.rR HO_7.out) hb); have n1_ := Aside0.mk (Kd.R_below (GS.rR HO682.out) hb); have n2_ := Aside0.mk (bqB (GS.bqX BK669.out) hb); have n3_ := Aside0.mk (bqB (GS.bqX BK679.out) hb); have n4_ := Aside0.mk (lqT (GS.lB HB.out) hb); clear HO_7; clear HO682; clear BK669; clear BK679; clear HB; have HO_7 := n0_; have HO682 := n1_; have BK669 := n2_; have BK679 := n3_; have HB := n4_; clear n0_ n1_ n2_ n3_ n4_; (try clear hb); (try clear hb2); (try clear hk); (try clear hi); obtain ⟨Ao36, co36, eo36⟩ := Kd.R_slice HO_7.out; subst eo36) | ((with_reducible refine gqC (f := 30) rfl ?_); refine GS.gL (some 66) Try.func30 #[.slice Ao36 t674.length co36, .int .i64 x11_20] ?_; (with_reducible refine (slices_Contains_int_int.calls kj20 _ _ t674 x11_20 t686 _ ?side1 ?side2 A30.out).mono ?_); (case side1 => repeat (first | exact (Kd.R_reads' HO_7.out).2.2 | (with_reducible refine Kd.C_alloc ?_ _) | (with_reducible refine Kd.C_drewN ?_ _) | (with_reducible refine Kd.C_drew ?_))); (case side2 => exact (Kd.R_reads' HO_7.out).2.1); rintro e w' ⟨rfl, ⟨nd, rfl⟩⟩; refine ⟨_, rfl, ?_⟩; have hnb37 := NB669_679.out; have hnc37 := NB679_669.out; obtain ⟨hcz38_0, hcz38_1, hfz38_0, hfz38_1⟩ := GS.c2 BK669.out))
             go_roundg kj20
             case measure => have := HK1.out; have := HJ20.out; omega
             case rel => exact ⟨(wrap64 (x45_1 + 1)), (by first | rfl | (simp; done) | (simp [*]; done)), H', ⟨by have := HK1.out; have := HJ20.out; omega⟩, ⟨by (with_reducible repeat (first | apply Kd.R_alloc | apply Kd.R_drewN | apply Kd.R_drew)); exact HO_7.out⟩, ⟨GS.bqX BK669.out⟩, ⟨GS.lB HB.out⟩⟩
           ·rw [if_neg c31] at H
            have c31b0 : (t685 == 0) = false := beq_eq_false_iff_ne.mpr c31
            try simp only [beq_self_eq_true, Bool.not_true, Bool.false_or, Bool.true_and] at c31b0
            have c31b1 : (t685 != 0) = true := bne_iff_ne.mpr c31
            by_cases c39 : (t686 != false) = true
            ·rw [if_pos c39] at H
             exact absurd H (by simp)
            ·rw [if_neg c39] at H
             have c39b0 : (t686 != false) = false := by simpa using c39
             (try (have c39b1 : decide (t686 = false) = true := by simpa using c39))
             (try (have c39b2 : (t686 == false) = true := by simpa using c39))
             clear c39
             have H' := Aside0.mk H
             clear H
             go_wp2_with (first | ((with_reducible refine gqC (f := 13) rfl ?_); refine GS.gL (some 57) Try.func13 #[.slice (some ad678) l0.length c0] ?_; (with_reducible refine (clone13.calls _ _ l0 t680 _ ?side1 ?side2 A28.out).mono ?_); (case side1 => exact GS.rC (Kd.C_below HR0.out HB.out)); (case side2 => exact HC0.out); rintro e w40 ⟨v681, rfl, ho0, hb⟩; refine ⟨_, rfl, ?_⟩; have n0_ := Aside0.mk (Kd.R_below (GS.rR HO_7.out) hb); have n1_ := Aside0.mk (Kd.R_lower (Kd.R_newB ho0 (GS.bqX BK679.out)) (lqZ (GS.lB HB.out))); have n2_ := Aside0.mk (bqB (GS.bqX BK669.out) hb); have n3_ := Aside0.mk (bqB (GS.bqX BK679.out) hb); have n4_ := Aside0.mk (lqT (GS.lB HB.out) hb); clear HO_7; clear BK669; clear BK679; clear HB; have HO_7 := n0_; have HO682 := n1_; have BK669 := n2_; have BK679 := n3_; have HB := n4_; clear n0_ n1_ n2_ n3_ n4_; (try clear hb); (try clear hb2); (try clear hk); (try clear hi); (try clear ho0); obtain ⟨Ao41, co41, eo41⟩ := Kd.R_slice HO682.out; subst eo41) | ((with_reducible refine gqC (f := 21) rfl ?_); refine GS.gL (some 60) Try.func21 #[.slice Ao41 t680.length co41, .int .i64 a1, .int .i64 x11_20] ?_; (with_reducible refine (suspect_Test.calls _ _ t680 a1 x11_20 t683 t684 t685 _ ?side1 ?side2 A29.out).mono ?_); (case side1 => repeat (first | exact (Kd.R_reads' HO682.out).2.2 | (with_reducible refine Kd.C_alloc ?_ _) | (with_reducible refine Kd.C_drewN ?_ _) | (with_reducible refine Kd.C_drew ?_))); (case side2 => exact (Kd.R_reads' HO682.out).2.1); rintro e w42 ⟨rfl, hb⟩; refine ⟨_, rfl, ?_⟩; have n0_ := Aside0.mk (Kd.R_below (GS.rR HO_7.out) hb); have n1_ := Aside0.mk (Kd.R_below (GS.rR HO682.out) hb); have n2_ := Aside0.mk (bqB (GS.bqX BK669.out) hb); have n3_ := Aside0.mk (bqB (GS.bqX BK679.out) hb); have n4_ := Aside0.mk (lqT (GS.lB HB.out) hb); clear HO_7; clear HO682; clear BK669; clear BK679; clear HB; have HO_7 := n0_; have HO682 := n1_; have BK669 := n2_; have BK679 := n3_; have HB := n4_; clear n0_ n1_ n2_ n3_ n4_; (try clear hb); (try clear hb2); (try clear hk); (try clear hi); obtain ⟨Ao43, co43, eo43⟩ := Kd.R_slice HO_7.out; subst eo43) | ((with_reducible refine gqC (f := 30) rfl ?_); refine GS.gL (some 66) Try.func30 #[.slice Ao43 t674.length co43, .int .i64 x11_20] ?_; (with_reducible refine (slices_Contains_int_int.calls kj20 _ _ t674 x11_20 t686 _ ?side1 ?side2 A30.out).mono ?_); (case side1 => repeat (first | exact (Kd.R_reads' HO_7.out).2.2 | (with_reducible refine Kd.C_alloc ?_ _) | (with_reducible refine Kd.C_drewN ?_ _) | (with_reducible refine Kd.C_drew ?_))); (case side2 => exact (Kd.R_reads' HO_7.out).2.1); rintro e w' ⟨rfl, ⟨nd, rfl⟩⟩; refine ⟨_, rfl, ?_⟩))
             go_roundg kj20
             case measure => have := HK1.out; have := HJ20.out; omega
             case rel => exact ⟨(wrap64 (x45_1 + 1)), (by first | rfl | (simp; done) | (simp [*]; done)), H', ⟨by have := HK1.out; have := HJ20.out; omega⟩, ⟨by (with_reducible repeat (first | apply Kd.R_alloc | apply Kd.R_drewN | apply Kd.R_drew)); exact HO_7.out⟩, ⟨GS.bqX BK669.out⟩, ⟨GS.lB HB.out⟩⟩
        ·rw [if_neg c20] at H
         exact absurd H (by simp)
       ·rw [if_neg c19] at H
        exact absurd H (by simp)
      ·rw [if_neg c18] at H
       have c18b0 : decide (x45_1 < (l0.length : Int)) = false := decide_eq_false c18
       clear c18
       have H' := Aside0.mk H
       clear H
       obtain ⟨Ao44, co44, eo44⟩ := Kd.R_slice HO_7.out
       subst eo44
       go_wp2
       go_loopg [84] k1 (fun kq v84 w' => ∃ (x84_2 : Int), v84 = .int .i64 x84_2 ∧ Aside0 (spilelaw34_SuspectLimits.l1 kq l0 a1 t674 t674 (t674.length : Int) x84_2 a2_0 a2_1 = some r) ∧ Aside0 (kq ≤ k1) ∧ Aside0 (Kd.R (Kd.int .i64) 3 w' w.heap.size (fun _ => True) (.slice Ao44 t674.length co44) t674) ∧ Aside0 (Kd.R (Kd.int .i64) 3 w' w.heap.size (fun _ => True) (.slice Ao44 t674.length co44) t674) ∧ Aside0 (w'.heap[gb669]? = some (.cells #[.int .i64 a2_0, .int .i64 a2_1] 42 (0, 0))) ∧ Aside0 (Below w.heap.size w w'))
       case atStart => exact ⟨(0), (by first | rfl | (simp; done) | (simp [*]; done)), H', ⟨Nat.le_refl _⟩, ⟨by (with_reducible repeat (first | apply Kd.R_alloc | apply Kd.R_drewN | apply Kd.R_drew)); exact HO_7.out⟩, ⟨by (with_reducible repeat (first | apply Kd.R_alloc | apply Kd.R_drewN | apply Kd.R_drew)); exact HO_7.out⟩, ⟨GS.bqX BK669.out⟩, ⟨GS.lB HB.out⟩⟩
       case round =>
        clear H'
        try clear c1
        try clear c2
        try clear p2
        try clear c3
        try clear c5
        try clear c6
        try clear c6b0
        try clear c6b1
        try clear p6
        try clear q6
        try clear hx6
        try clear c9
        try clear c10
        try clear c11
        try clear c11b0
        try clear c11b1
        try clear c13
        try clear c18
        try clear c18b0
        try clear c19
        try clear c19b0
        try clear c20
        try clear c20b0
        try clear c21
        try clear c23
        try clear c25
        try clear c25b0
        try clear c25b1
        try clear c26
        try clear c30
        try clear c31
        try clear c31b0
        try clear c31b1
        try clear c32
        try clear c32b0
        try clear c32b1
        try clear c32b2
        try clear c37
        try clear c39
        try clear c39b0
        try clear c39b1
        try clear c39b2
        try clear hcz24_0
        try clear hcz24_1
        try clear hcz24_2
        try clear hcz24_3
        try clear hcz27_0
        try clear hcz27_1
        try clear hcz27_2
        try clear hcz27_3
        try clear hcz38_0
        try clear hcz38_1
        try clear hfz24_0
        try clear hfz24_1
        try clear hfz24_2
        try clear hfz24_3
        try clear hfz27_0
        try clear hfz27_1
        try clear hfz27_2
        try clear hfz27_3
        try clear hfz38_0
        try clear hfz38_1
        try clear hx678_0
        try clear hx678_1
        try clear hx678_2
        try clear hx678_3
        try clear p2
        try clear p6
        try clear p678
        try clear q6
        try clear q678
        obtain ⟨x84_2, rfl, HA, HK2, HO_7, HO_82, BK669, HB⟩ := hrel
        cases gk with
        | zero => exact absurd HA.out (by simp [spilelaw34_SuspectLimits.l1])
        | succ k2 =>
         have H := HA.out
         clear HA
         simp only [spilelaw34_SuspectLimits.l1] at H
         by_cases c45 : x84_2 < (t674.length : Int)
         ·rw [if_pos c45] at H
          have c45b0 : decide (x84_2 < (t674.length : Int)) = true := decide_eq_true c45
          clear c45
          by_cases c46 : 0 ≤ x84_2
          ·rw [if_pos c46] at H
           have c46b0 : decide (0 ≤ x84_2) = true := decide_eq_true c46
           clear c46
           by_cases c47 : x84_2 < (t674.length : Int)
           ·rw [if_pos c47] at H
            have c47b0 : decide (x84_2 < (t674.length : Int)) = true := decide_eq_true c47
            clear c47
            have HC48 := Aside0.mk H
            clear H
            have p687 : 0 ≤ (x84_2 : Int) := of_decide_eq_true (by first | (with_reducible assumption) | assumption)
            have q687 : x84_2 < (t674.length : Int) := of_decide_eq_true (by first | (with_reducible assumption) | assumption)
            obtain ⟨ad687, e687, hx687_0⟩ := Kd.at_int (Kd.R_reads' HO_82.out).2.2 x84_2 p687 q687
            cases e687
            replace p687 := eq_true p687
            replace q687 := eq_true q687
            go_upto_region 21 with (fail)
            go_cut [99] (fun v99 wc => ∃ (kq : Nat) (x99_47 : Bool), v99 = .bool x99_47 ∧ Aside0 (spilelaw34_SuspectLimits.j3 kq l0 a1 t674 (rd t674 x84_2) t674 (t674.length : Int) x84_2 x99_47 a2_0 a2_1 = some r) ∧ Aside0 (kq ≤ k2) ∧ Aside0 (Kd.R (Kd.int .i64) 3 wc w.heap.size (fun _ => True) (.slice (some ad687) t674.length co44) t674) ∧ Aside0 (Kd.R (Kd.int .i64) 3 wc w.heap.size (fun _ => True) (.slice (some ad687) t674.length co44) t674) ∧ Aside0 (wc.heap[gb669]? = some (.cells #[.int .i64 a2_0, .int .i64 a2_1] 42 (0, 0))) ∧ Aside0 (Below w.heap.size w wc))
            case first =>
             have H := HC48.out
             clear HC48
             by_cases c49 : x84_2 > 0
             ·rw [if_pos c49] at H
              have c49b0 : decide (0 < x84_2) = true := decide_eq_true c49
              clear c49
              (first | rw [c49b0] | (simp only [i64_w, i32_w]; rw [c49b0]) | skip)
              obtain ⟨ji50, hji50⟩ : ∃ j_ : Int, (wrap64 (x84_2 - 1)) = j_ := ⟨_, rfl⟩
              replace H : (if 0 ≤ (ji50) then (if (ji50) < (t674.length : Int) then (spilelaw34_SuspectLimits.j3 k2 l0 a1 t674 (rd t674 x84_2) t674 (t674.length : Int) x84_2 (decide ((rd t674 (ji50)) ≥ (rd t674 x84_2))) a2_0 a2_1) else (none)) else (none)) = some r := by first | (rw [hji50] at H; exact H) | (simp only [hji50] at H ⊢; exact H)
              have hji50w : (IntKind.i64.wrap (x84_2 - 1)) = ji50 := (i64_w _).trans hji50
              by_cases c51 : 0 ≤ (ji50)
              ·rw [if_pos c51] at H
               have c51b0 : decide (0 ≤ (ji50)) = true := decide_eq_true c51
               clear c51
               by_cases c52 : (ji50) < (t674.length : Int)
               ·rw [if_pos c52] at H
                have c52b0 : decide ((ji50) < (t674.length : Int)) = true := decide_eq_true c52
                clear c52
                have H' := Aside0.mk H
                clear H
                have p688 : 0 ≤ ((ji50) : Int) := of_decide_eq_true (by first | (with_reducible assumption) | assumption)
                have q688 : (ji50) < (t674.length : Int) := of_decide_eq_true (by first | (with_reducible assumption) | assumption)
                obtain ⟨ad688, e688, hx688_0⟩ := Kd.at_int (Kd.R_reads' HO_7.out).2.2 (ji50) p688 q688
                obtain rfl : ad687 = ad688 := (by injection e688)
                replace p688 := eq_true p688
                replace q688 := eq_true q688
                go_wp2
                go_meet
                case rel => exact ⟨_, (decide ((rd t674 (ji50)) ≥ (rd t674 x84_2))), (by first | rfl | (simp; done) | (simp only [← hji50] <;> (first | rfl | simp)) | (simp [*]; done)), H', ⟨by have := HK1.out; have := HK2.out; first | omega | exact Nat.le_refl _⟩, ⟨by (with_reducible repeat (first | apply Kd.R_alloc | apply Kd.R_drewN | apply Kd.R_drew)); exact HO_7.out⟩, ⟨by (with_reducible repeat (first | apply Kd.R_alloc | apply Kd.R_drewN | apply Kd.R_drew)); exact HO_82.out⟩, ⟨GS.bqX BK669.out⟩, ⟨GS.lB HB.out⟩⟩
               ·rw [if_neg c52] at H
                exact absurd H (by simp)
              ·rw [if_neg c51] at H
               exact absurd H (by simp)
             ·rw [if_neg c49] at H
              have c49b0 : decide (0 < x84_2) = false := decide_eq_false c49
              clear c49
              (first | rw [c49b0] | (simp only [i64_w, i32_w]; rw [c49b0]) | skip)
              have H' := Aside0.mk H
              clear H
              go_wp2
              go_meet
              case rel => exact ⟨_, (false), (by first | rfl | (simp; done) | (simp [*]; done)), H', ⟨by have := HK1.out; have := HK2.out; first | omega | exact Nat.le_refl _⟩, ⟨by (with_reducible repeat (first | apply Kd.R_alloc | apply Kd.R_drewN | apply Kd.R_drew)); exact HO_7.out⟩, ⟨by (with_reducible repeat (first | apply Kd.R_alloc | apply Kd.R_drewN | apply Kd.R_drew)); exact HO_82.out⟩, ⟨GS.bqX BK669.out⟩, ⟨GS.lB HB.out⟩⟩
            case rest =>
             clear HC48
             try clear c1
             try clear c2
             try clear p2
             try clear c3
             try clear c4
             try clear c5
             try clear c6
             try clear c6b0
             try clear c6b1
             try clear p6
             try clear q6
             try clear hx6
             try clear c9
             try clear c10
             try clear c11
             try clear c11b0
             try clear c11b1
             try clear c13
             try clear c18
             try clear c18b0
             try clear c19
             try clear c19b0
             try clear c20
             try clear c20b0
             try clear c21
             try clear c23
             try clear c25
             try clear c25b0
             try clear c25b1
             try clear c26
             try clear c30
             try clear c31
             try clear c31b0
             try clear c31b1
             try clear c32
             try clear c32b0
             try clear c32b1
             try clear c32b2
             try clear c37
             try clear c39
             try clear c39b0
             try clear c39b1
             try clear c39b2
             try clear c45
             try clear c45b0
             try clear c46
             try clear c46b0
             try clear c47
             try clear c47b0
             try clear c49
             try clear c49b0
             try clear c51
             try clear c51b0
             try clear c52
             try clear c52b0
             try clear hcz24_0
             try clear hcz24_1
             try clear hcz24_2
             try clear hcz24_3
             try clear hcz27_0
             try clear hcz27_1
             try clear hcz27_2
             try clear hcz27_3
             try clear hcz38_0
             try clear hcz38_1
             try clear hfz24_0
             try clear hfz24_1
             try clear hfz24_2
             try clear hfz24_3
             try clear hfz27_0
             try clear hfz27_1
             try clear hfz27_2
             try clear hfz27_3
             try clear hfz38_0
             try clear hfz38_1
             try clear hx678_0
             try clear hx678_1
             try clear hx678_2
             try clear hx678_3
             try clear hx687_0
             try clear hx688_0
             try clear p2
             try clear p6
             try clear p678
             try clear p687
             try clear p688
             try clear q6
             try clear q678
             try clear q687
             try clear q688
             obtain ⟨kq, x99_47, rfl, HA, HJ47, HO_7, HO_82, BK669, HB⟩ := hcut
             cases kq with
             | zero => exact absurd HA.out (by simp [spilelaw34_SuspectLimits.j3])
             | succ kj47 =>
              have H := HA.out
              clear HA
              simp only [spilelaw34_SuspectLimits.j3] at H
              by_cases c53 : x99_47 = true
              ·subst c53
               have H1 : (none) = some r := by rw [if_pos rfl] at H; exact H
               clear H
               have H := H1
               clear H1
               exact absurd H (by simp)
              ·replace c53 := Bool.eq_false_iff.mpr c53
               subst c53
               have H1 : ((clone13.f l0).bind fun t689 => ((suspect_Of.f t689 a1 (rd t674 x84_2)).bind fun bt692 => (if bt692.2.2 = 0 then (spilelaw34_SuspectLimits.l1 kj47 l0 a1 t674 t674 (t674.length : Int) (wrap64 (x84_2 + 1)) a2_0 a2_1) else (none)))) = some r := by rw [if_neg (show ¬ (false = true) by decide)] at H; exact H
               clear H
               have H := H1
               clear H1
               replace H := Option.bind_eq_some_iff.mp H
               obtain ⟨t689, A540, H⟩ := H
               replace H : ((suspect_Of.f t689 a1 (rd t674 x84_2)).bind fun bt692 => (if bt692.2.2 = 0 then (spilelaw34_SuspectLimits.l1 kj47 l0 a1 t674 t674 (t674.length : Int) (wrap64 (x84_2 + 1)) a2_0 a2_1) else (none))) = some r := H
               have A54 := Aside0.mk A540
               clear A540
               replace H := Option.bind_eq_some_iff.mp H
               obtain ⟨⟨t692, t693, t694⟩, A550, H⟩ := H
               replace H : (if t694 = 0 then (spilelaw34_SuspectLimits.l1 kj47 l0 a1 t674 t674 (t674.length : Int) (wrap64 (x84_2 + 1)) a2_0 a2_1) else (none)) = some r := H
               have A55 := Aside0.mk A550
               clear A550
               by_cases c56 : t694 = 0
               ·rw [if_pos c56] at H
                have c56b0 : (t694 == 0) = true := beq_iff_eq.mpr c56
                try simp only [beq_self_eq_true, Bool.not_true, Bool.false_or, Bool.true_and] at c56b0
                have c56b1 : (t694 != 0) = false := bne_eq_false_iff_eq.mpr c56
                clear c56
                have H' := Aside0.mk H
                clear H
                go_wp2_with (first | ((with_reducible refine gqC (f := 13) rfl ?_); refine GS.gL (some 102) Try.func13 #[.slice A0 l0.length c0] ?_; (with_reducible refine (clone13.calls _ _ l0 t689 _ ?side1 ?side2 A54.out).mono ?_); (case side1 => exact GS.rC (Kd.C_below HR0.out HB.out)); (case side2 => exact HC0.out); rintro e w57 ⟨v690, rfl, ho0, hb⟩; refine ⟨_, rfl, ?_⟩; have n0_ := Aside0.mk (Kd.R_below (GS.rR HO_7.out) hb); have n1_ := Aside0.mk (Kd.R_below (GS.rR HO_82.out) hb); have n2_ := Aside0.mk (Kd.R_lower ho0 (lqZ (GS.lB HB.out))); have n3_ := Aside0.mk (bqB (GS.bqX BK669.out) hb); have n4_ := Aside0.mk (lqT (GS.lB HB.out) hb); clear HO_7; clear HO_82; clear BK669; clear HB; have HO_7 := n0_; have HO_82 := n1_; have HO691 := n2_; have BK669 := n3_; have HB := n4_; clear n0_ n1_ n2_ n3_ n4_; (try clear hb); (try clear hb2); (try clear hk); (try clear hi); (try clear ho0); obtain ⟨Ao58, co58, eo58⟩ := Kd.R_slice HO691.out; subst eo58) | ((with_reducible refine gqC (f := 15) rfl ?_); refine GS.gL (some 105) Try.func15 #[.slice Ao58 t689.length co58, .int .i64 a1, .int .i64 (rd t674 x84_2)] ?_; (with_reducible refine (suspect_Of.calls _ _ t689 a1 (rd t674 x84_2) t692 t693 t694 _ ?side1 ?side2 A55.out).mono ?_); (case side1 => repeat (first | exact (Kd.R_reads' HO691.out).2.2 | (with_reducible refine Kd.C_alloc ?_ _) | (with_reducible refine Kd.C_drewN ?_ _) | (with_reducible refine Kd.C_drew ?_))); (case side2 => exact (Kd.R_reads' HO691.out).2.1); rintro e w59 ⟨v695, v697, rfl, ho0, ho1, hb⟩; refine ⟨_, rfl, ?_⟩; have n0_ := Aside0.mk (Kd.R_mono (Kd.R_told (Kd.R_told (Kd.R_old (GS.rR HO_7.out) hb) (Kd.R_base ho0)) (Kd.R_base ho1)) (fun _ h_ => h_.1)); have n1_ := Aside0.mk (Kd.R_mono (Kd.R_told (Kd.R_told (Kd.R_old (GS.rR HO_82.out) hb) (Kd.R_base ho0)) (Kd.R_base ho1)) (fun _ h_ => h_.1)); have n2_ := Aside0.mk (Kd.R_below (GS.rR HO691.out) hb); have n3_ := Aside0.mk (Kd.R_lower (Kd.R_new' (Kd.R_new' ho0 (Kd.R_lt (GS.rR HO_7.out))) (Kd.R_lt (GS.rR HO_82.out))) (lqZ (GS.lB HB.out))); have n4_ := Aside0.mk (Kd.R_lower (Kd.R_new' (Kd.R_new' ho1 (Kd.R_lt (GS.rR HO_7.out))) (Kd.R_lt (GS.rR HO_82.out))) (lqZ (GS.lB HB.out))); have n5_ := Aside0.mk (bqB (GS.bqX BK669.out) hb); have n6_ := Aside0.mk (lqT (GS.lB HB.out) hb); clear HO_7; clear HO_82; clear HO691; clear BK669; clear HB; have HO_7 := n0_; have HO_82 := n1_; have HO691 := n2_; have HO696 := n3_; have HO698 := n4_; have BK669 := n5_; have HB := n6_; clear n0_ n1_ n2_ n3_ n4_ n5_ n6_; (try clear hb); (try clear hb2); (try clear hk); (try clear hi); (try clear ho0); (try clear ho1)))
                go_roundg kj47
                case measure => have := HK1.out; have := HK2.out; have := HJ47.out; omega
                case rel => exact ⟨(wrap64 (x84_2 + 1)), (by first | rfl | (simp; done) | (simp [*]; done)), H', ⟨by have := HK1.out; have := HK2.out; have := HJ47.out; omega⟩, ⟨by (with_reducible repeat (first | apply Kd.R_alloc | apply Kd.R_drewN | apply Kd.R_drew)); exact Kd.R_mono HO_7.out (fun _ hk => trivial)⟩, ⟨by (with_reducible repeat (first | apply Kd.R_alloc | apply Kd.R_drewN | apply Kd.R_drew)); exact Kd.R_mono HO_82.out (fun _ hk => trivial)⟩, ⟨GS.bqX BK669.out⟩, ⟨GS.lB HB.out⟩⟩
               ·rw [if_neg c56] at H
                exact absurd H (by simp)
           ·rw [if_neg c47] at H
            exact absurd H (by simp)
          ·rw [if_neg c46] at H
           exact absurd H (by simp)
         ·rw [if_neg c45] at H
          have c45b0 : decide (x84_2 < (t674.length : Int)) = false := decide_eq_false c45
          clear c45
          by_cases c60 : a2_0 < a2_1
          ·rw [if_pos c60] at H
           have c60b0 : decide (a2_0 < a2_1) = true := decide_eq_true c60
           clear c60
           replace H := Option.bind_eq_some_iff.mp H
           obtain ⟨t699, A610, H⟩ := H
           replace H : ((suspect_Suspects.f t699 a1 (wrap64 (a2_0 + 1)) a2_1).bind fun bt702 => (if bt702.2 = 0 then ((cont31.f t674 bt702.1).bind fun t707 => (some (!t707))) else (none))) = some r := H
           have A61 := Aside0.mk A610
           clear A610
           replace H := Option.bind_eq_some_iff.mp H
           obtain ⟨⟨t702, t703⟩, A620, H⟩ := H
           replace H : (if t703 = 0 then ((cont31.f t674 t702).bind fun t707 => (some (!t707))) else (none)) = some r := H
           have A62 := Aside0.mk A620
           clear A620
           by_cases c63 : t703 = 0
           ·rw [if_pos c63] at H
            have c63b0 : (t703 == 0) = true := beq_iff_eq.mpr c63
            try simp only [beq_self_eq_true, Bool.not_true, Bool.false_or, Bool.true_and] at c63b0
            have c63b1 : (t703 != 0) = false := bne_eq_false_iff_eq.mpr c63
            clear c63
            replace H := Option.bind_eq_some_iff.mp H
            obtain ⟨t707, A640, H⟩ := H
            replace H : (some (!t707)) = some r := H
            have A64 := Aside0.mk A640
            clear A640
            obtain rfl := Option.some.inj H
            obtain ⟨hcz65_0, hcz65_1, hfz65_0, hfz65_1⟩ := GS.c2 BK669.out
            try go_wp2
            have n0_ := Aside0.mk (Kd.R_drew HO_7.out)
            have n1_ := Aside0.mk (Kd.R_drew HO_82.out)
            have n2_ := Aside0.mk (bqD BK669.out)
            have n3_ := Aside0.mk (lqD HB.out)
            clear HO_7
            clear HO_82
            clear BK669
            clear HB
            have HO_7 := n0_
            have HO_82 := n1_
            have BK669 := n2_
            have HB := n3_
            clear n0_ n1_ n2_ n3_
            refine start_ (n := 15) (S := fun w' => True) (ds := []) #[false, false, false, false, false, false, false, false, false, false, false, false, false, false, false] (by kernel_rfl) rfl rfl trivial (fun hHeld => ?_); refine with_tabW spilelaw34_SuspectLimits.tab28 spilelaw34_SuspectLimits.bits28 (fun HT_ HW_ => ?_)
            generalize wr.drew = w66 at HO_7 HO_82 BK669 HB hHeld ⊢
            refine GS.pu 0 (some 118) HT_.out ?_
            refine GS.pu 2 (some 120) HT_.out ?_
            refine GS.pu 3 (some 121) HT_.out ?_
            refine GS.pu 6 (some 124) HT_.out ?_
            refine inv_at [1, 4, 5, 7, 8, 9, 10, 11, 12, 13, 14] (fun a0_ b a w' => ∃ (v700 : Value) (v704 : Value) (gb706 : Nat) (m8_ : Value) (m9_ : Value) (m10_ : Value) (m12_ : Value), a = putSel a0_ b [(1, 119, v700), (4, 122, .int .i64 a2_0), (5, 123, .int .i64 (wrap64 (a2_0 + 1))), (7, 125, .int .i64 a2_1), (8, 126, m8_), (9, 117, m9_), (10, 127, m10_), (11, 128, .int .i64 t703), (12, 20, m12_), (14, 21, .int .i64 t703)] ∧ (Kd.R (Kd.int .i64) 3 w' w.heap.size (fun _ => True) (.slice Ao44 t674.length co44) t674) ∧ (Kd.R (Kd.int .i64) 3 w' w.heap.size (fun _ => True) (.slice Ao44 t674.length co44) t674) ∧ (w'.heap[gb669]? = some (.cells #[.int .i64 a2_0, .int .i64 a2_1] 42 (0, 0))) ∧ (Below w.heap.size w w') ∧ (b 1 = true → Kd.R k30 30 w' w.heap.size (fun _ => True) v700 t699) ∧ (b 12 = true → w'.heap[gb706]? = some (.cells #[if b 13 = true then v704 else .slice none 0 0] 31 (0, 0))) ∧ (b 12 = true → w.heap.size ≤ gb706) ∧ (b 12 = true → w.heap.size ≤ gb706) ∧ (b 12 = true → gb669 ≠ gb706) ∧ (b 12 = true → gb706 ≠ gb669) ∧ (b 8 = true → Kd.R (Kd.int .i64) 3 w' w.heap.size (fun k_ => some k_ ≠ (.slice Ao44 t674.length co44 : Value).ownBlock ∧ some k_ ≠ (.slice Ao44 t674.length co44 : Value).ownBlock) v704 t702) ∧ (b 8 = true → (m8_ : Value) = .tuple #[v704, .int .i64 t703]) ∧ (b 9 = true → (m9_ : Value) = .tuple #[v704, .int .i64 t703]) ∧ (b 10 = true → (m10_ : Value) = v704) ∧ (b 12 = true → (m12_ : Value) = .pointer (some ⟨gb706, 0, none⟩))) HT_.out HW_.out (by kernel_rfl) (by kernel_rfl) ?_ ?_ ?_
            ·exact ⟨.bool false, .bool false, 0, .bool false, .bool false, .bool false, .bool false, by simp only [putSel, Bool.false_eq_true, if_false], HO_7.out, HO_82.out, BK669.out, HB.out, fun h_ => absurd h_ (by decide), fun h_ => absurd h_ (by decide), fun h_ => absurd h_ (by decide), fun h_ => absurd h_ (by decide), fun h_ => absurd h_ (by decide), fun h_ => absurd h_ (by decide), fun h_ => absurd h_ (by decide), fun h_ => absurd h_ (by decide), fun h_ => absurd h_ (by decide), fun h_ => absurd h_ (by decide), fun h_ => absurd h_ (by decide)⟩
            ·skip
             clear BK669 HB HO_7 HO_82
             refine steps_cons ?_ ?_
             ·rintro b a w' ⟨v700, v704, gb706, m8_, m9_, m10_, m12_, ha, Q_HO_7, Q_HO_82, Q_BK669, Q_HB, Q_HO701, Q_BK706, Q_GW706, Q_GE706, Q_NB669_706, Q_NB706_669, Q_HO705, Q_X8_, Q_X9_, Q_X10_, Q_X12_⟩ hb_ hon hoff
              refine ⟨_, rfl, fun K hK => ?_⟩
              have e118 : a.tmps[118]? = some (.slice A0 l0.length c0) := by rw [ha]; exact (putSel_off rfl).trans rfl
              replace ha := Aside0.mk ha
              have HO_7 := Aside0.mk Q_HO_7
              have HO_82 := Aside0.mk Q_HO_82
              have BK669 := Aside0.mk Q_BK669
              have HB := Aside0.mk Q_HB
              refine goes_ Try.func13 (by kernel_rfl) rfl #[.slice A0 l0.length c0] (by rfl) rfl rfl (by first | (simp only [List.map_toArray, List.map_cons, List.map_nil, Act.eval, Array.getD_eq_getD_getElem?, Option.getD_some, e118]; done) | (simp only [List.map_toArray, List.map_cons, List.map_nil, Act.eval, Array.getD_eq_getD_getElem?, Option.getD_some, e118]; rfl)) ?_
              with_reducible refine (clone13.calls _ _ l0 t699 _ ?side1 ?side2 A61.out).mono ?_
              (case side1 => exact GS.rC (Kd.C_below HR0.out HB.out))
              (case side2 => exact HC0.out)
              rintro e w67 ⟨v700, rfl, ho0, hb⟩
              refine ⟨_, rfl, ?_⟩
              have n0_ := Aside0.mk (Kd.R_below (GS.rR HO_7.out) hb)
              have n1_ := Aside0.mk (Kd.R_below (GS.rR HO_82.out) hb)
              have n2_ := Aside0.mk (Kd.R_lower ho0 (lqZ (GS.lB HB.out)))
              have n3_ := Aside0.mk (bqB (GS.bqX BK669.out) hb)
              have n4_ := Aside0.mk (lqT (GS.lB HB.out) hb)
              have z_BK706 := fun (h0_ : b 12 = true) => (show w67.heap[gb706]? = some (.cells #[if b 13 = true then v704 else .slice none 0 0] 31 (0, 0)) from by have h_ := Q_BK706 h0_; rw [if_neg (by rw [hoff 13 (by kernel_rfl)]; decide)] at h_ ⊢; first | exact (bqB (g := gb706) (o := .cells #[.slice none 0 0] 31 (0, 0)) (by (with_reducible repeat (first | refine bqN ?_ _ | refine bqD ?_ | refine bqA ?_ _)); exact h_) hb))
              clear HO_7
              clear HO_82
              clear BK669
              clear HB
              have HO_7 := n0_
              have HO_82 := n1_
              have HO701 := n2_
              have BK669 := n3_
              have HB := n4_
              clear n0_ n1_ n2_ n3_ n4_
              (try clear hb)
              (try clear hb2)
              (try clear hk)
              (try clear hi)
              (try clear ho0)
              refine hK.out _ _ ⟨v700, v704, gb706, m8_, m9_, m10_, m12_, (by rw [ha.out]; exact putSel_upk 0 hb_ rfl rfl rfl), (GS.rR HO_7.out), (GS.rR HO_82.out), (GS.bqX BK669.out), (GS.lB HB.out), fun _ => (GS.rR HO701.out), z_BK706, Q_GW706, Q_GE706, Q_NB669_706, Q_NB706_669, fun h0_ => absurd ((hoff 8 (by kernel_rfl)).symm.trans h0_) (by decide), fun h0_ => absurd ((hoff 8 (by kernel_rfl)).symm.trans h0_) (by decide), fun h0_ => absurd ((hoff 9 (by kernel_rfl)).symm.trans h0_) (by decide), fun h0_ => absurd ((hoff 10 (by kernel_rfl)).symm.trans h0_) (by decide), Q_X12_⟩
             refine steps_cons ?_ ?_
             ·rintro b a w' ⟨v700, v704, gb706, m8_, m9_, m10_, m12_, ha, Q_HO_7, Q_HO_82, Q_BK669, Q_HB, Q_HO701, Q_BK706, Q_GW706, Q_GE706, Q_NB669_706, Q_NB706_669, Q_HO705, Q_X8_, Q_X9_, Q_X10_, Q_X12_⟩ hb_ hon hoff
              refine ⟨_, rfl, fun K hK => ?_⟩
              have e121 : a.tmps[121]? = some (.pointer (some ⟨gb669, 0, none⟩)) := by rw [ha]; exact (putSel_off rfl).trans rfl
              replace ha := Aside0.mk ha
              have HO_7 := Aside0.mk Q_HO_7
              have HO_82 := Aside0.mk Q_HO_82
              have BK669 := Aside0.mk Q_BK669
              have HB := Aside0.mk Q_HB
              have hc0_ : w'.cell? ⟨gb669, 0, none⟩ = some (.int .i64 a2_0) := (bqC BK669.out 0).trans rfl
              have hc1_ : w'.cell? ⟨gb669, 1, none⟩ = some (.int .i64 a2_1) := (bqC BK669.out 1).trans rfl
              refine value_ (w1 := w') (v := .int .i64 a2_0) (by rfl) rfl ?_ ?_
              ·go_simp
               (try simp only [i64_w])
               try rfl
              refine hK.out _ _ ⟨v700, v704, gb706, m8_, m9_, m10_, m12_, (by rw [ha.out]; exact putSel_upk 1 hb_ rfl rfl rfl), Q_HO_7, Q_HO_82, Q_BK669, Q_HB, Q_HO701, Q_BK706, Q_GW706, Q_GE706, Q_NB669_706, Q_NB706_669, fun h0_ => absurd ((hoff 8 (by kernel_rfl)).symm.trans h0_) (by decide), fun h0_ => absurd ((hoff 8 (by kernel_rfl)).symm.trans h0_) (by decide), fun h0_ => absurd ((hoff 9 (by kernel_rfl)).symm.trans h0_) (by decide), fun h0_ => absurd ((hoff 10 (by kernel_rfl)).symm.trans h0_) (by decide), Q_X12_⟩
             refine steps_cons ?_ ?_
             ·rintro b a w' ⟨v700, v704, gb706, m8_, m9_, m10_, m12_, ha, Q_HO_7, Q_HO_82, Q_BK669, Q_HB, Q_HO701, Q_BK706, Q_GW706, Q_GE706, Q_NB669_706, Q_NB706_669, Q_HO705, Q_X8_, Q_X9_, Q_X10_, Q_X12_⟩ hb_ hon hoff
              refine ⟨_, rfl, fun K hK => ?_⟩
              have e122 : a.tmps[122]? = some (.int .i64 a2_0) := by rw [ha]; exact putSel_on (e := (4, 122, .int .i64 a2_0)) 1 rfl rfl (hon 4 (by kernel_rfl)) rfl
              replace ha := Aside0.mk ha
              have HO_7 := Aside0.mk Q_HO_7
              have HO_82 := Aside0.mk Q_HO_82
              have BK669 := Aside0.mk Q_BK669
              have HB := Aside0.mk Q_HB
              refine value_ (w1 := w') (v := .int .i64 (wrap64 (a2_0 + 1))) (by rfl) rfl ?_ ?_
              ·go_simp
               (try simp only [i64_w])
               try rfl
              refine hK.out _ _ ⟨v700, v704, gb706, m8_, m9_, m10_, m12_, (by rw [ha.out]; exact putSel_upk 2 hb_ rfl rfl rfl), Q_HO_7, Q_HO_82, Q_BK669, Q_HB, Q_HO701, Q_BK706, Q_GW706, Q_GE706, Q_NB669_706, Q_NB706_669, fun h0_ => absurd ((hoff 8 (by kernel_rfl)).symm.trans h0_) (by decide), fun h0_ => absurd ((hoff 8 (by kernel_rfl)).symm.trans h0_) (by decide), fun h0_ => absurd ((hoff 9 (by kernel_rfl)).symm.trans h0_) (by decide), fun h0_ => absurd ((hoff 10 (by kernel_rfl)).symm.trans h0_) (by decide), Q_X12_⟩
             refine steps_cons ?_ ?_
             ·rintro b a w' ⟨v700, v704, gb706, m8_, m9_, m10_, m12_, ha, Q_HO_7, Q_HO_82, Q_BK669, Q_HB, Q_HO701, Q_BK706, Q_GW706, Q_GE706, Q_NB669_706, Q_NB706_669, Q_HO705, Q_X8_, Q_X9_, Q_X10_, Q_X12_⟩ hb_ hon hoff
              refine ⟨_, rfl, fun K hK => ?_⟩
              have e124 : a.tmps[124]? = some (.pointer (some ⟨gb669, 1, none⟩)) := by rw [ha]; exact (putSel_off rfl).trans rfl
              replace ha := Aside0.mk ha
              have HO_7 := Aside0.mk Q_HO_7
              have HO_82 := Aside0.mk Q_HO_82
              have BK669 := Aside0.mk Q_BK669
              have HB := Aside0.mk Q_HB
              have hc0_ : w'.cell? ⟨gb669, 0, none⟩ = some (.int .i64 a2_0) := (bqC BK669.out 0).trans rfl
              have hc1_ : w'.cell? ⟨gb669, 1, none⟩ = some (.int .i64 a2_1) := (bqC BK669.out 1).trans rfl
              refine value_ (w1 := w') (v := .int .i64 a2_1) (by rfl) rfl ?_ ?_
              ·go_simp
               (try simp only [i64_w])
               try rfl
              refine hK.out _ _ ⟨v700, v704, gb706, m8_, m9_, m10_, m12_, (by rw [ha.out]; exact putSel_upk 3 hb_ rfl rfl rfl), Q_HO_7, Q_HO_82, Q_BK669, Q_HB, Q_HO701, Q_BK706, Q_GW706, Q_GE706, Q_NB669_706, Q_NB706_669, fun h0_ => absurd ((hoff 8 (by kernel_rfl)).symm.trans h0_) (by decide), fun h0_ => absurd ((hoff 8 (by kernel_rfl)).symm.trans h0_) (by decide), fun h0_ => absurd ((hoff 9 (by kernel_rfl)).symm.trans h0_) (by decide), fun h0_ => absurd ((hoff 10 (by kernel_rfl)).symm.trans h0_) (by decide), Q_X12_⟩
             refine steps_cons ?_ ?_
             ·rintro b a w' ⟨v700, v704, gb706, m8_, m9_, m10_, m12_, ha, Q_HO_7, Q_HO_82, Q_BK669, Q_HB, Q_HO701, Q_BK706, Q_GW706, Q_GE706, Q_NB669_706, Q_NB706_669, Q_HO705, Q_X8_, Q_X9_, Q_X10_, Q_X12_⟩ hb_ hon hoff
              refine ⟨_, rfl, fun K hK => ?_⟩
              have e119 : a.tmps[119]? = some (v700) := by rw [ha]; exact putSel_on (e := (1, 119, v700)) 0 rfl rfl (hon 1 (by kernel_rfl)) rfl
              have e120 : a.tmps[120]? = some (.int .i64 a1) := by rw [ha]; exact (putSel_off rfl).trans rfl
              have e123 : a.tmps[123]? = some (.int .i64 (wrap64 (a2_0 + 1))) := by rw [ha]; exact putSel_on (e := (5, 123, .int .i64 (wrap64 (a2_0 + 1)))) 2 rfl rfl (hon 5 (by kernel_rfl)) rfl
              have e125 : a.tmps[125]? = some (.int .i64 a2_1) := by rw [ha]; exact putSel_on (e := (7, 125, .int .i64 a2_1)) 3 rfl rfl (hon 7 (by kernel_rfl)) rfl
              replace ha := Aside0.mk ha
              have HO_7 := Aside0.mk Q_HO_7
              have HO_82 := Aside0.mk Q_HO_82
              have BK669 := Aside0.mk Q_BK669
              have HB := Aside0.mk Q_HB
              have HO701 := Aside0.mk (Q_HO701 (hon 1 (by kernel_rfl)))
              obtain ⟨Ao69, co69, eo69⟩ := Kd.R_slice HO701.out
              (first | subst eo69 | (injection eo69 with f1_ f2_ f3_; have f4_ := f1_.symm; have f5_ := f3_.symm; clear f1_ f2_ f3_; subst f4_; subst f5_))
              refine goes_ Try.func25 (by kernel_rfl) rfl #[.slice Ao69 t699.length co69, .int .i64 a1, .int .i64 (wrap64 (a2_0 + 1)), .int .i64 a2_1] (by rfl) rfl rfl (by first | (simp only [List.map_toArray, List.map_cons, List.map_nil, Act.eval, Array.getD_eq_getD_getElem?, Option.getD_some, e119, e120, e123, e125]; done) | (simp only [List.map_toArray, List.map_cons, List.map_nil, Act.eval, Array.getD_eq_getD_getElem?, Option.getD_some, e119, e120, e123, e125]; rfl)) ?_
              with_reducible refine (suspect_Suspects.calls _ _ t699 a1 (wrap64 (a2_0 + 1)) a2_1 t702 t703 _ ?side1 ?side2 A62.out).mono ?_
              (case side1 => repeat (first | exact (Kd.R_reads' HO701.out).2.2 | (with_reducible refine Kd.C_alloc ?_ _) | (with_reducible refine Kd.C_drewN ?_ _) | (with_reducible refine Kd.C_drew ?_)))
              (case side2 => exact (Kd.R_reads' HO701.out).2.1)
              rintro e w70 ⟨v704, rfl, ho0, hb⟩
              refine ⟨_, rfl, ?_⟩
              have n0_ := Aside0.mk (Kd.R_elder' (GS.rR HO_7.out) (Kd.R_base ho0) hb)
              have n1_ := Aside0.mk (Kd.R_elder' (GS.rR HO_82.out) (Kd.R_base ho0) hb)
              have n2_ := Aside0.mk (Kd.R_below (GS.rR HO701.out) hb)
              have n3_ := Aside0.mk (Kd.R_lower (Kd.R_new' (Kd.R_new' ho0 (Kd.R_lt (GS.rR HO_7.out))) (Kd.R_lt (GS.rR HO_82.out))) (lqZ (GS.lB HB.out)))
              have n4_ := Aside0.mk (bqB (GS.bqX BK669.out) hb)
              have n5_ := Aside0.mk (lqT (GS.lB HB.out) hb)
              have z_BK706 := fun (h0_ : b 12 = true) => (show w70.heap[gb706]? = some (.cells #[if b 13 = true then v704 else .slice none 0 0] 31 (0, 0)) from by have h_ := Q_BK706 h0_; rw [if_neg (by rw [hoff 13 (by kernel_rfl)]; decide)] at h_ ⊢; first | exact (bqB (g := gb706) (o := .cells #[.slice none 0 0] 31 (0, 0)) (by (with_reducible repeat (first | refine bqN ?_ _ | refine bqD ?_ | refine bqA ?_ _)); exact h_) hb))
              clear HO_7
              clear HO_82
              clear HO701
              clear BK669
              clear HB
              have HO_7 := n0_
              have HO_82 := n1_
              have HO701 := n2_
              have HO705 := n3_
              have BK669 := n4_
              have HB := n5_
              clear n0_ n1_ n2_ n3_ n4_ n5_
              (try clear hb)
              (try clear hb2)
              (try clear hk)
              (try clear hi)
              (try clear ho0)
              refine hK.out _ _ ⟨.slice Ao69 t699.length co69, v704, gb706, (.tuple #[v704, .int .i64 t703]), m9_, m10_, m12_, (by rw [ha.out]; exact putSel_upk 4 hb_ rfl rfl rfl), (GS.rR (Kd.R_mono HO_7.out (fun _ hk => GS.cj hk))), (GS.rR (Kd.R_mono HO_82.out (fun _ hk => GS.cj hk))), (GS.bqX BK669.out), (GS.lB HB.out), fun _ => (GS.rR HO701.out), z_BK706, Q_GW706, Q_GE706, Q_NB669_706, Q_NB706_669, fun _ => (GS.rR (Kd.R_mono HO705.out (fun _ hk => GS.cj hk))), fun _ => rfl, fun h0_ => absurd ((hoff 9 (by kernel_rfl)).symm.trans h0_) (by decide), fun h0_ => absurd ((hoff 10 (by kernel_rfl)).symm.trans h0_) (by decide), Q_X12_⟩
             refine steps_cons ?_ ?_
             ·rintro b a w' ⟨v700, v704, gb706, m8_, m9_, m10_, m12_, ha, Q_HO_7, Q_HO_82, Q_BK669, Q_HB, Q_HO701, Q_BK706, Q_GW706, Q_GE706, Q_NB669_706, Q_NB706_669, Q_HO705, Q_X8_, Q_X9_, Q_X10_, Q_X12_⟩ hb_ hon hoff
              refine ⟨_, rfl, fun K hK => ?_⟩
              have e126 : a.tmps[126]? = some (m8_) := by rw [ha]; exact putSel_on (e := (8, 126, m8_)) 4 rfl rfl (hon 8 (by kernel_rfl)) rfl
              rw [Q_X8_ (hon 8 (by kernel_rfl))] at e126
              replace ha := Aside0.mk ha
              have HO_7 := Aside0.mk Q_HO_7
              have HO_82 := Aside0.mk Q_HO_82
              have BK669 := Aside0.mk Q_BK669
              have HB := Aside0.mk Q_HB
              have HO701 := Aside0.mk (Q_HO701 (hon 1 (by kernel_rfl)))
              have HO705 := Aside0.mk (Q_HO705 (hon 8 (by kernel_rfl)))
              refine value_ (w1 := w') (v := .tuple #[v704, .int .i64 t703]) (by rfl) rfl ?_ ?_
              ·go_simp
               (try simp only [i64_w])
               try rfl
              refine hK.out _ _ ⟨v700, v704, gb706, m8_, (.tuple #[v704, .int .i64 t703]), m10_, m12_, (by rw [ha.out]; exact putSel_upk 5 hb_ rfl rfl rfl), Q_HO_7, Q_HO_82, Q_BK669, Q_HB, Q_HO701, Q_BK706, Q_GW706, Q_GE706, Q_NB669_706, Q_NB706_669, Q_HO705, Q_X8_, fun _ => rfl, fun h0_ => absurd ((hoff 10 (by kernel_rfl)).symm.trans h0_) (by decide), Q_X12_⟩
             refine steps_cons ?_ ?_
             ·rintro b a w' ⟨v700, v704, gb706, m8_, m9_, m10_, m12_, ha, Q_HO_7, Q_HO_82, Q_BK669, Q_HB, Q_HO701, Q_BK706, Q_GW706, Q_GE706, Q_NB669_706, Q_NB706_669, Q_HO705, Q_X8_, Q_X9_, Q_X10_, Q_X12_⟩ hb_ hon hoff
              refine ⟨_, rfl, fun K hK => ?_⟩
              have e117 : a.tmps[117]? = some (m9_) := by rw [ha]; exact putSel_on (e := (9, 117, m9_)) 5 rfl rfl (hon 9 (by kernel_rfl)) rfl
              rw [Q_X9_ (hon 9 (by kernel_rfl))] at e117
              replace ha := Aside0.mk ha
              have HO_7 := Aside0.mk Q_HO_7
              have HO_82 := Aside0.mk Q_HO_82
              have BK669 := Aside0.mk Q_BK669
              have HB := Aside0.mk Q_HB
              have HO701 := Aside0.mk (Q_HO701 (hon 1 (by kernel_rfl)))
              have HO705 := Aside0.mk (Q_HO705 (hon 8 (by kernel_rfl)))
              obtain ⟨Ao10_0, co10_0, eo_⟩ := Kd.R_slice HO705.out
              subst eo_
              refine value_ (w1 := w') (v := .slice Ao10_0 t702.length co10_0) (by rfl) rfl ?_ ?_
              ·go_simp
               (try simp only [i64_w])
               try rfl
              refine hK.out _ _ ⟨v700, .slice Ao10_0 t702.length co10_0, gb706, m8_, m9_, (.slice Ao10_0 t702.length co10_0), m12_, (by rw [ha.out]; exact putSel_upk 6 hb_ rfl rfl rfl), Q_HO_7, Q_HO_82, Q_BK669, Q_HB, Q_HO701, Q_BK706, Q_GW706, Q_GE706, Q_NB669_706, Q_NB706_669, Q_HO705, Q_X8_, Q_X9_, fun _ => rfl, Q_X12_⟩
             refine steps_cons ?_ ?_
             ·rintro b a w' ⟨v700, v704, gb706, m8_, m9_, m10_, m12_, ha, Q_HO_7, Q_HO_82, Q_BK669, Q_HB, Q_HO701, Q_BK706, Q_GW706, Q_GE706, Q_NB669_706, Q_NB706_669, Q_HO705, Q_X8_, Q_X9_, Q_X10_, Q_X12_⟩ hb_ hon hoff
              refine ⟨_, rfl, fun K hK => ?_⟩
              have e117 : a.tmps[117]? = some (m9_) := by rw [ha]; exact putSel_on (e := (9, 117, m9_)) 5 rfl rfl (hon 9 (by kernel_rfl)) rfl
              rw [Q_X9_ (hon 9 (by kernel_rfl))] at e117
              replace ha := Aside0.mk ha
              have HO_7 := Aside0.mk Q_HO_7
              have HO_82 := Aside0.mk Q_HO_82
              have BK669 := Aside0.mk Q_BK669
              have HB := Aside0.mk Q_HB
              have HO701 := Aside0.mk (Q_HO701 (hon 1 (by kernel_rfl)))
              have HO705 := Aside0.mk (Q_HO705 (hon 8 (by kernel_rfl)))
              obtain ⟨Ao11_0, co11_0, eo_⟩ := Kd.R_slice HO705.out
              subst eo_
              refine value_ (w1 := w') (v := .int .i64 t703) (by rfl) rfl ?_ ?_
              ·go_simp
               (try simp only [i64_w])
               try rfl
              refine hK.out _ _ ⟨v700, .slice Ao11_0 t702.length co11_0, gb706, m8_, m9_, m10_, m12_, (by rw [ha.out]; exact putSel_upk 7 hb_ rfl rfl rfl), Q_HO_7, Q_HO_82, Q_BK669, Q_HB, Q_HO701, Q_BK706, Q_GW706, Q_GE706, Q_NB669_706, Q_NB706_669, Q_HO705, Q_X8_, Q_X9_, Q_X10_, Q_X12_⟩
             refine steps_cons ?_ ?_
             ·rintro b a w' ⟨v700, v704, gb706, m8_, m9_, m10_, m12_, ha, Q_HO_7, Q_HO_82, Q_BK669, Q_HB, Q_HO701, Q_BK706, Q_GW706, Q_GE706, Q_NB669_706, Q_NB706_669, Q_HO705, Q_X8_, Q_X9_, Q_X10_, Q_X12_⟩ hb_ hon hoff
              refine ⟨_, rfl, fun K hK => ?_⟩
              replace ha := Aside0.mk ha
              have HO_7 := Aside0.mk Q_HO_7
              have HO_82 := Aside0.mk Q_HO_82
              have BK669 := Aside0.mk Q_BK669
              have HB := Aside0.mk Q_HB
              refine box_step ?hg (N := 20) ?hd (cs := #[.slice none 0 0]) (t := 31) ?hr ?_; (case hd => rfl); (case hg => rfl); (case hr => first | (go_simp; done) | (go_simp; rfl))
              intro gb706 hg w67 hbox hb
              have n0_ := Aside0.mk (Kd.R_below (GS.rR HO_7.out) hb)
              have n1_ := Aside0.mk (Kd.R_below (GS.rR HO_82.out) hb)
              have n2_ := Aside0.mk (bqB (GS.bqX BK669.out) hb)
              have n3_ := Aside0.mk (lqT (GS.lB HB.out) hb)
              have n4_ := Aside0.mk (hbox)
              have n5_ := Aside0.mk ((by rw [hg]; exact (lqZ (GS.lB HB.out)) : w.heap.size ≤ gb706))
              have n6_ := Aside0.mk ((by rw [hg]; exact (lqZ (GS.lB HB.out)) : w.heap.size ≤ gb706))
              have n7_ := Aside0.mk ((by rw [hg]; exact Nat.ne_of_lt (blk_lt (GS.bqX BK669.out)) : gb669 ≠ gb706))
              have n8_ := Aside0.mk ((by rw [hg]; exact Nat.ne_of_gt (blk_lt (GS.bqX BK669.out)) : gb706 ≠ gb669))
              have z_HO701 := fun (h0_ : b 1 = true) => (show Kd.R k30 30 w67 w.heap.size (fun _ => True) v700 t699 from by first | exact (Kd.R_below (GS.rR (Q_HO701 h0_)) hb) | exact Kd.R_mono (Kd.R_below (GS.rR (Q_HO701 h0_)) hb) (fun _ hk => GS.cj hk))
              have z_HO705 := fun (h0_ : b 8 = true) => (show Kd.R (Kd.int .i64) 3 w67 w.heap.size (fun k_ => some k_ ≠ (.slice Ao44 t674.length co44 : Value).ownBlock ∧ some k_ ≠ (.slice Ao44 t674.length co44 : Value).ownBlock) v704 t702 from by first | exact (Kd.R_below (GS.rR (Q_HO705 h0_)) hb) | exact Kd.R_mono (Kd.R_below (GS.rR (Q_HO705 h0_)) hb) (fun _ hk => GS.cj hk))
              clear HO_7
              clear HO_82
              clear BK669
              clear HB
              have HO_7 := n0_
              have HO_82 := n1_
              have BK669 := n2_
              have HB := n3_
              have BK706 := n4_
              have GW706 := n5_
              have GE706 := n6_
              have NB669_706 := n7_
              have NB706_669 := n8_
              clear n0_ n1_ n2_ n3_ n4_ n5_ n6_ n7_ n8_
              clear hb hbox hg
              refine hK.out _ _ ⟨v700, v704, gb706, m8_, m9_, m10_, (.pointer (some ⟨gb706, 0, none⟩)), (by rw [ha.out]; exact putSel_upk 8 hb_ rfl rfl rfl), (GS.rR HO_7.out), (GS.rR HO_82.out), (GS.bqX BK669.out), (GS.lB HB.out), z_HO701, fun _ => (by have h11_ : b 13 = false := hoff 13 (by kernel_rfl); show (_ : Option Obj) = some (Obj.cells #[if b 13 = true then v704 else .slice none 0 0] 31 (0, 0)); rw [if_neg (by rw [h11_]; decide)]; (with_reducible repeat (first | refine bqN ?_ _ | refine bqD ?_ | refine bqA ?_ _)); exact BK706.out), fun _ => GW706.out, fun _ => GE706.out, fun _ => NB669_706.out, fun _ => NB706_669.out, z_HO705, Q_X8_, Q_X9_, Q_X10_, fun _ => rfl⟩
             refine steps_cons ?_ ?_
             ·rintro b a w' ⟨v700, v704, gb706, m8_, m9_, m10_, m12_, ha, Q_HO_7, Q_HO_82, Q_BK669, Q_HB, Q_HO701, Q_BK706, Q_GW706, Q_GE706, Q_NB669_706, Q_NB706_669, Q_HO705, Q_X8_, Q_X9_, Q_X10_, Q_X12_⟩ hb_ hon hoff
              refine ⟨_, rfl, fun K hK => ?_⟩
              have e20 : a.tmps[20]? = some (m12_) := by rw [ha]; exact putSel_on (e := (12, 20, m12_)) 8 rfl rfl (hon 12 (by kernel_rfl)) rfl
              rw [Q_X12_ (hon 12 (by kernel_rfl))] at e20
              have e127 : a.tmps[127]? = some (m10_) := by rw [ha]; exact putSel_on (e := (10, 127, m10_)) 6 rfl rfl (hon 10 (by kernel_rfl)) rfl
              rw [Q_X10_ (hon 10 (by kernel_rfl))] at e127
              replace ha := Aside0.mk ha
              have HO_7 := Aside0.mk Q_HO_7
              have HO_82 := Aside0.mk Q_HO_82
              have BK669 := Aside0.mk Q_BK669
              have HB := Aside0.mk Q_HB
              have HO701 := Aside0.mk (Q_HO701 (hon 1 (by kernel_rfl)))
              have BK706 := Aside0.mk (show w'.heap[gb706]? = some (.cells #[.slice none 0 0] 31 (0, 0)) from by have h_ := Q_BK706 (hon 12 (by kernel_rfl)); rw [if_neg (by rw [hb_]; decide)] at h_; exact h_)
              have GW706 := Aside0.mk (Q_GW706 (hon 12 (by kernel_rfl)))
              have GE706 := Aside0.mk (Q_GE706 (hon 12 (by kernel_rfl)))
              have NB669_706 := Aside0.mk (Q_NB669_706 (hon 12 (by kernel_rfl)))
              have NB706_669 := Aside0.mk (Q_NB706_669 (hon 12 (by kernel_rfl)))
              have HO705 := Aside0.mk (Q_HO705 (hon 8 (by kernel_rfl)))
              have hs72 : w'.cell? ⟨gb706, 0, none⟩ = some (.slice none 0 0) := (bqC BK706.out 0).trans rfl
              have hfs72 := bqF BK706.out 0
              have hns72_0 := NB669_706.out
              have hms72_0 := NB706_669.out
              obtain ⟨Aob_, cob_, eob_⟩ := Kd.R_slice HO705.out
              subst eob_
              refine skip_ (w1 := ?_) (by rfl) rfl ?_ ?_
              rotate_left
              ·go_simp
               rfl
              refine hK.out _ _ ⟨v700, .slice Aob_ t702.length cob_, gb706, m8_, m9_, m10_, m12_, (by rw [ha.out]; exact putSel_none (v := undef) rfl), (by (with_reducible repeat (first | apply Kd.R_alloc | apply Kd.R_drewN | apply Kd.R_drew)); exact Kd.R_mono (Kd.R_far (p := ⟨gb706, 0, none⟩) (Kd.R_types HO_7.out BK706.out (by decide)) (fun _ hk => hk.2) (.slice Aob_ t702.length cob_)) (fun _ hk => GS.cj hk)), (by (with_reducible repeat (first | apply Kd.R_alloc | apply Kd.R_drewN | apply Kd.R_drew)); exact Kd.R_mono (Kd.R_far (p := ⟨gb706, 0, none⟩) (Kd.R_types HO_82.out BK706.out (by decide)) (fun _ hk => hk.2) (.slice Aob_ t702.length cob_)) (fun _ hk => GS.cj hk)), (GS.bqX BK669.out), (GS.lB HB.out), fun _ => (by (with_reducible repeat (first | apply Kd.R_alloc | apply Kd.R_drewN | apply Kd.R_drew)); exact Kd.R_mono (Kd.R_far (p := ⟨gb706, 0, none⟩) (Kd.R_types HO701.out BK706.out (by decide)) (fun _ hk => hk.2) (.slice Aob_ t702.length cob_)) (fun _ hk => trivial)), fun _ => (by refine bqP (cs := #[.slice none 0 0]) ?_ 0 _ rfl; exact BK706.out), fun _ => GW706.out, fun _ => GE706.out, fun _ => NB669_706.out, fun _ => NB706_669.out, fun _ => (by (with_reducible repeat (first | apply Kd.R_alloc | apply Kd.R_drewN | apply Kd.R_drew)); exact Kd.R_mono (Kd.R_far (p := ⟨gb706, 0, none⟩) (Kd.R_types HO705.out BK706.out (by decide)) (fun _ hk => hk.2) (.slice Aob_ t702.length cob_)) (fun _ hk => GS.cj hk)), Q_X8_, Q_X9_, Q_X10_, Q_X12_⟩
             refine steps_cons ?_ ?_
             ·rintro b a w' ⟨v700, v704, gb706, m8_, m9_, m10_, m12_, ha, Q_HO_7, Q_HO_82, Q_BK669, Q_HB, Q_HO701, Q_BK706, Q_GW706, Q_GE706, Q_NB669_706, Q_NB706_669, Q_HO705, Q_X8_, Q_X9_, Q_X10_, Q_X12_⟩ hb_ hon hoff
              refine ⟨_, rfl, fun K hK => ?_⟩
              have e128 : a.tmps[128]? = some (.int .i64 t703) := by rw [ha]; exact putSel_on (e := (11, 128, .int .i64 t703)) 7 rfl rfl (hon 11 (by kernel_rfl)) rfl
              replace ha := Aside0.mk ha
              have HO_7 := Aside0.mk Q_HO_7
              have HO_82 := Aside0.mk Q_HO_82
              have BK669 := Aside0.mk Q_BK669
              have HB := Aside0.mk Q_HB
              have HO701 := Aside0.mk (Q_HO701 (hon 1 (by kernel_rfl)))
              have BK706 := Aside0.mk (Q_BK706 (hon 12 (by kernel_rfl)))
              have GW706 := Aside0.mk (Q_GW706 (hon 12 (by kernel_rfl)))
              have GE706 := Aside0.mk (Q_GE706 (hon 12 (by kernel_rfl)))
              have NB669_706 := Aside0.mk (Q_NB669_706 (hon 12 (by kernel_rfl)))
              have NB706_669 := Aside0.mk (Q_NB706_669 (hon 12 (by kernel_rfl)))
              have HO705 := Aside0.mk (Q_HO705 (hon 8 (by kernel_rfl)))
              refine value_ (w1 := w') (v := .int .i64 t703) (by rfl) rfl ?_ ?_
              ·go_simp
               (try simp only [i64_w])
               try rfl
              refine hK.out _ _ ⟨v700, v704, gb706, m8_, m9_, m10_, m12_, (by rw [ha.out]; exact putSel_upk 9 hb_ rfl rfl rfl), Q_HO_7, Q_HO_82, Q_BK669, Q_HB, Q_HO701, Q_BK706, Q_GW706, Q_GE706, Q_NB669_706, Q_NB706_669, Q_HO705, Q_X8_, Q_X9_, Q_X10_, Q_X12_⟩
             exact steps_nil
            rintro b a w72 hall ⟨v700, v704, gb706, m8_, m9_, m10_, m12_, ha, Q_HO_7, Q_HO_82, Q_BK669, Q_HB, Q_HO701, Q_BK706, Q_GW706, Q_GE706, Q_NB669_706, Q_NB706_669, Q_HO705, Q_X8_, Q_X9_, Q_X10_, Q_X12_⟩
            clear BK669 HB HO_7 HO_82
            have hb1_ := hall 1 (by kernel_rfl)
            have hb4_ := hall 4 (by kernel_rfl)
            have hb5_ := hall 5 (by kernel_rfl)
            have hb7_ := hall 7 (by kernel_rfl)
            have hb8_ := hall 8 (by kernel_rfl)
            have hb9_ := hall 9 (by kernel_rfl)
            have hb10_ := hall 10 (by kernel_rfl)
            have hb11_ := hall 11 (by kernel_rfl)
            have hb12_ := hall 12 (by kernel_rfl)
            have hb13_ := hall 13 (by kernel_rfl)
            have hb14_ := hall 14 (by kernel_rfl)
            subst ha
            obtain rfl := Q_X8_ hb8_
            obtain rfl := Q_X9_ hb9_
            obtain rfl := Q_X10_ hb10_
            obtain rfl := Q_X12_ hb12_
            simp only [putSel, hb1_, hb4_, hb5_, hb7_, hb8_, hb9_, hb10_, hb11_, hb12_, hb13_, hb14_, if_true, Act.put, List.setIfInBounds_toArray, List.set_cons_zero, List.set_cons_succ]
            have HO_7 := Aside0.mk Q_HO_7
            clear Q_HO_7
            have HO_82 := Aside0.mk Q_HO_82
            clear Q_HO_82
            have BK669 := Aside0.mk Q_BK669
            clear Q_BK669
            have HB := Aside0.mk Q_HB
            clear Q_HB
            have HO701 := Aside0.mk (Q_HO701 hb1_)
            clear Q_HO701
            have BK706 := Aside0.mk (by have h_ := Q_BK706 hb12_; rw [if_pos hb13_] at h_; exact h_)
            clear Q_BK706
            have GW706 := Aside0.mk (Q_GW706 hb12_)
            clear Q_GW706
            have GE706 := Aside0.mk (Q_GE706 hb12_)
            clear Q_GE706
            have NB669_706 := Aside0.mk (Q_NB669_706 hb12_)
            clear Q_NB669_706
            have NB706_669 := Aside0.mk (Q_NB706_669 hb12_)
            clear Q_NB706_669
            have HO705 := Aside0.mk (Q_HO705 hb8_)
            clear Q_HO705
            clear hall hb1_ hb4_ hb5_ hb7_ hb8_ hb9_ hb10_ hb11_ hb12_ hb13_ hb14_
            obtain ⟨Ao73, co73, eo73⟩ := Kd.R_slice HO705.out
            subst eo73
            try go_wp2_with (first | (go_at_call 31; (with_reducible refine (cont31.calls gb706 _ _ t674 Ao73 co73 t702 t707 _ ?side1 ?side2 ?side3 ?side4 ?box A64.out).mono ?_); (case side1 => repeat (first | exact (Kd.R_reads' HO_7.out).2.2 | (with_reducible refine Kd.C_alloc ?_ _) | (with_reducible refine Kd.C_drewN ?_ _) | (with_reducible refine Kd.C_drew ?_))); (case side2 => exact (Kd.R_reads' HO_7.out).2.1); (case side3 => repeat (first | exact (Kd.R_reads' HO705.out).2.2 | (with_reducible refine Kd.C_alloc ?_ _) | (with_reducible refine Kd.C_drewN ?_ _) | (with_reducible refine Kd.C_drew ?_))); (case side4 => exact (Kd.R_reads' HO705.out).2.1); (case box => first | exact BK706.out | exact (GS.bqX BK706.out)); rintro e w74 ⟨rfl, hb⟩; have n0_ := Aside0.mk (Kd.R_below (GS.rR HO_7.out) hb); have n1_ := Aside0.mk (Kd.R_below (GS.rR HO_82.out) hb); have n2_ := Aside0.mk (Kd.R_below (GS.rR HO701.out) hb); have n3_ := Aside0.mk (Kd.R_below (GS.rR HO705.out) hb); have n4_ := Aside0.mk (bqB (GS.bqX BK669.out) hb); have n5_ := Aside0.mk (bqB (g := gb706) (o := _) (GS.bqX BK706.out) hb); have n6_ := Aside0.mk (lqT (GS.lB HB.out) hb); clear HO_7; clear HO_82; clear HO701; clear HO705; clear BK669; clear BK706; clear HB; have HO_7 := n0_; have HO_82 := n1_; have HO701 := n2_; have HO705 := n3_; have BK669 := n4_; have BK706 := n5_; have HB := n6_; clear n0_ n1_ n2_ n3_ n4_ n5_ n6_; (try clear hb); (try clear hb2); (try clear hk); (try clear hi)))
            go_ret
            exact ⟨by first | rfl | (simp [errW_none, errW_some] <;> rfl) | (simp [*, errW_none, errW_some] <;> rfl), GS.lB HB.out⟩
           ·rw [if_neg c63] at H
            exact absurd H (by simp)
          ·rw [if_neg c60] at H
           have c60b0 : decide (a2_0 < a2_1) = false := decide_eq_false c60
           clear c60
           obtain rfl := Option.some.inj H
           obtain ⟨hcz75_0, hcz75_1, hfz75_0, hfz75_1⟩ := GS.c2 BK669.out
           go_wp2
           go_ret
           exact ⟨by first | rfl | (simp [errW_none, errW_some] <;> rfl) | (simp [*, errW_none, errW_some] <;> rfl), GS.lB HB.out⟩
   ·rw [if_neg c11] at H
    have c11b0 : (t675 == 0) = false := beq_eq_false_iff_ne.mpr c11
    try simp only [beq_self_eq_true, Bool.not_true, Bool.false_or, Bool.true_and] at c11b0
    have c11b1 : (t675 != 0) = true := bne_iff_ne.mpr c11
    obtain rfl := Option.some.inj H
    go_enter Try.func9, Try.ntmps9
    try go_wp2_with (first | ((with_reducible refine gqD (N := 5) rfl ?_); refine GS.bx (N := 5) (cs := #[.int .i64 a2_0, .int .i64 a2_1]) (t := 42) ?_; intro gb669 hg w76 hbox hb; have n0_ := Aside0.mk (lqT (GS.lB HB.out) hb); have n1_ := Aside0.mk (hbox); have n2_ := Aside0.mk ((by rw [hg]; exact (lqZ (GS.lB HB.out)) : w.heap.size ≤ gb669)); have n3_ := Aside0.mk ((by rw [hg]; exact (lqZ (GS.lB HB.out)) : w.heap.size ≤ gb669)); clear HB; have HB := n0_; have BK669 := n1_; have GW669 := n2_; have GE669 := n3_; clear n0_ n1_ n2_ n3_; clear hb hbox hg) | ((with_reducible refine gqC (f := 10) rfl ?_); refine GS.gL (some 22) Try.func10 #[] ?_; (with_reducible refine (spilelaw34_awake.calls k  true _ A4.out).mono ?_); rintro e w77 ⟨rfl, hb⟩; refine ⟨_, rfl, ?_⟩; have n0_ := Aside0.mk (bqB (GS.bqX BK669.out) hb); have n1_ := Aside0.mk (lqT (GS.lB HB.out) hb); clear BK669; clear HB; have BK669 := n0_; have HB := n1_; clear n0_ n1_; (try clear hb); (try clear hb2); (try clear hk); (try clear hi)))
    have n0_ := Aside0.mk (bqD BK669.out)
    have n1_ := Aside0.mk (lqD HB.out)
    clear BK669
    clear HB
    have BK669 := n0_
    have HB := n1_
    clear n0_ n1_
    refine start_ (n := 13) (S := fun w' => w'.cell? ⟨gb669, 0, none⟩ = some (.int .i64 a2_0) ∧ w'.cell? ⟨gb669, 1, none⟩ = some (.int .i64 a2_1)) (ds := []) #[false, false, false, false, false, false, false, false, false, false, false, false, false] (by kernel_rfl) rfl rfl ⟨(bqC BK669.out 0).trans rfl, (bqC BK669.out 1).trans rfl⟩ (fun hHeld => ?_); refine with_tabW spilelaw34_SuspectLimits.tab5 spilelaw34_SuspectLimits.bits5 (fun HT_ HW_ => ?_)
    generalize w77.drew = w78 at BK669 HB hHeld ⊢
    refine GS.pu 0 (some 28) HT_.out ?_
    refine GS.pu 2 (some 30) HT_.out ?_
    refine GS.pu 3 (some 31) HT_.out ?_
    refine GS.pu 5 (some 33) HT_.out ?_
    refine GS.tk 4 (some 32) HT_.out HW_.out hHeld ?_
    refine GS.tk 6 (some 34) HT_.out HW_.out hHeld ?_
    refine one_ (i := 1) (N := some 29) #[true, true, true, true, true, true, true, false, false, false, false, false, false] rfl rfl (one_of HT_.out (by kernel_rfl)) (by decide) (fun K hK => ?_)
    refine goes_ Try.func13 (by kernel_rfl) rfl #[.slice A0 l0.length c0] (by rfl) rfl rfl (by (try simp only [List.map_toArray, List.map_cons, List.map_nil]); first | done | rfl | (simp only [List.length_drop, List.length_take]; rfl)) ?_
    with_reducible refine (clone13.calls _ _ l0 t671 _ ?side1 ?side2 A9.out).mono ?_
    (case side1 => exact GS.rC (Kd.C_below HR0.out HB.out))
    (case side2 => exact HC0.out)
    rintro e w79 ⟨v672, rfl, ho0, hb⟩
    refine ⟨_, rfl, ?_⟩
    have n0_ := Aside0.mk (Kd.R_lower ho0 (lqZ (GS.lB HB.out)))
    have n1_ := Aside0.mk (bqB (GS.bqX BK669.out) hb)
    have n2_ := Aside0.mk (lqT (GS.lB HB.out) hb)
    clear BK669
    clear HB
    have HO673 := n0_
    have BK669 := n1_
    have HB := n2_
    clear n0_ n1_ n2_
    (try clear hb)
    (try clear hb2)
    (try clear hk)
    (try clear hi)
    (try clear ho0)
    obtain ⟨Ao80, co80, eo80⟩ := Kd.R_slice HO673.out
    (first | subst eo80 | (injection eo80 with f1_ f2_ f3_; have f4_ := f1_.symm; have f5_ := f3_.symm; clear f1_ f2_ f3_; subst f4_; subst f5_))
    refine hK.out _ _ ⟨(bqC BK669.out 0).trans rfl, (bqC BK669.out 1).trans rfl⟩ (fun hHeld => ?_)
    clear hK K
    refine norm_ (a' := ?_) ?_ ?_
    rotate_left
    ·show Act.put _ (some 29) _ = _
     simp only [Act.put, List.setIfInBounds_toArray, List.set_cons_zero, List.set_cons_succ, i64_w, i32_w]
     rfl
    refine one_ (i := 7) (N := some 35) #[true, true, true, true, true, true, true, true, false, false, false, false, false] rfl rfl (one_of HT_.out (by kernel_rfl)) (by decide) (fun K hK => ?_)
    refine goes_ Try.func25 (by kernel_rfl) rfl #[.slice Ao80 t671.length co80, .int .i64 a1, .int .i64 a2_0, .int .i64 a2_1] (by rfl) rfl rfl (by (try simp only [List.map_toArray, List.map_cons, List.map_nil]); first | done | rfl | (simp only [List.length_drop, List.length_take]; rfl)) ?_
    with_reducible refine (suspect_Suspects.calls _ _ t671 a1 a2_0 a2_1 t674 t675 _ ?side1 ?side2 A10.out).mono ?_
    (case side1 => repeat (first | exact (Kd.R_reads' HO673.out).2.2 | (with_reducible refine Kd.C_alloc ?_ _) | (with_reducible refine Kd.C_drewN ?_ _) | (with_reducible refine Kd.C_drew ?_)))
    (case side2 => exact (Kd.R_reads' HO673.out).2.1)
    rintro e w81 ⟨v676, rfl, ho0, hb⟩
    refine ⟨_, rfl, ?_⟩
    have n0_ := Aside0.mk (Kd.R_below (GS.rR HO673.out) hb)
    have n1_ := Aside0.mk (Kd.R_lower ho0 (lqZ (GS.lB HB.out)))
    have n2_ := Aside0.mk (bqB (GS.bqX BK669.out) hb)
    have n3_ := Aside0.mk (lqT (GS.lB HB.out) hb)
    clear HO673
    clear BK669
    clear HB
    have HO673 := n0_
    have HO677 := n1_
    have BK669 := n2_
    have HB := n3_
    clear n0_ n1_ n2_ n3_
    (try clear hb)
    (try clear hb2)
    (try clear hk)
    (try clear hi)
    (try clear ho0)
    refine hK.out _ _ ⟨(bqC BK669.out 0).trans rfl, (bqC BK669.out 1).trans rfl⟩ (fun hHeld => ?_)
    clear hK K
    refine norm_ (a' := ?_) ?_ ?_
    rotate_left
    ·show Act.put _ (some 35) _ = _
     simp only [Act.put, List.setIfInBounds_toArray, List.set_cons_zero, List.set_cons_succ, i64_w, i32_w]
     rfl
    refine GS.pu 8 (some 27) HT_.out ?_
    refine GS.pu 9 (some 36) HT_.out ?_
    refine GS.pu 10 (some 37) HT_.out ?_
    refine GS.pu 11 (some 7) HT_.out ?_
    refine GS.pu 12 (some 8) HT_.out ?_
    refine done_ (done_of HT_.out (by kernel_rfl)) ?_
    obtain ⟨Ao82, co82, eo82⟩ := Kd.R_slice HO677.out
    subst eo82
    try go_wp2
    go_ret
    exact ⟨by first | rfl | (simp [errW_none, errW_some] <;> rfl) | (simp [*, errW_none, errW_some] <;> rfl), GS.lB HB.out⟩
 ·replace c5 := Bool.eq_false_iff.mpr c5
  subst c5
  have H1 : (none) = some r := by rw [if_neg (show ¬ (false = true) by decide)] at H; exact H
  clear H
  have H := H1
  clear H1
  exact absurd H (by simp)

end Go.Proofs.Ytfhmjleimampeaa.K
