-- PRINTED by print.py (a twelfth state) out of the translation. Not trusted: Lean checks it.
import Derived.Test.YthboaobgipodiaaK0
import Derived.Test.YthboaobgipodiaaGShort
import Derived.Test.YthboaobgipodiaaGSym
import Derived.Test.YthboaobgipodiaaK7
import Derived.Test.YthboaobgipodiaaK15
import Derived.Test.YthboaobgipodiaaK16
import Derived.Test.YthboaobgipodiaaK17
import Derived.Test.YthboaobgipodiaaK18
import Derived.Test.YthboaobgipodiaaGClone
namespace Go.Proofs.Ythboaobgipodiaa.K
open Go.RowKit Go.Proofs.YthboaobgipodiaaW.PrintWords Go.Proofs.YthboaobgipodiaaW.PrintLast Go.Proofs.YthboaobgipodiaaW.PrintMore
attribute [local go_sem] max2_int min2_int max_two min_two max_three min_three max_four min_four   -- for this text's walks alone
set_option linter.unusedVariables false
set_option linter.unusedSimpArgs false

/-! ### spilelaw51_LiabilityReached: function 6 -/
mutual
def spilelaw51_LiabilityReached.j0 : Nat → List (S35) → Int → Bool → Int → List (S60) → Option (Bool)
 | 0, _, _, _, _, _ => none
 | k + 1, x1, x2, x25, x672000, x672001 => if x25 = true then ((spilelaw51_awake.f k).bind fun t674 => (some t674)) else ((spilelaw51_ct.f x672000 x672001).bind fun bt675 => ((clone13.f x1).bind fun t679 => ((liability_Witness.f k bt675.1 bt675.2 t679 x2).bind fun bt682 => ((spilelaw51_ct.f x672000 x672001).bind fun bt686 => ((clone13.f x1).bind fun t690 => ((liability_Greatest.f k bt686.1 bt686.2 t690 x2).bind fun bt693 => (if bt682.2 = 0 then (if bt693.2.2 = 0 then (if (bt682.1.length : Int) = (x1.length : Int) then (spilelaw51_LiabilityReached.j1 k x1 x2 bt682.1 bt693.1 bt693.2.1 ((bt693.1.length : Int) != (x1.length : Int)) x672000 x672001) else (none)) else (none)) else (if (bt682.1.length : Int) = 0 then (if bt682.2 = bt693.2.2 then (some true) else (some (bt682.2 == 11))) else (none)))))))))
def spilelaw51_LiabilityReached.j1 : Nat → List (S35) → Int → List (S51) → List Int → Int → Bool → Int → List (S60) → Option (Bool)
 | 0, _, _, _, _, _, _, _, _ => none
 | k + 1, x1, x2, x7, x9, x10, x75, x672000, x672001 => if x75 = true then (none) else (spilelaw51_LiabilityReached.l0 k x1 x2 x7 x9 x10 x7 (x7.length : Int) 0 x672000 x672001)
def spilelaw51_LiabilityReached.l0 : Nat → List (S35) → Int → List (S51) → List Int → Int → List (S51) → Int → Int → Int → List (S60) → Option (Bool)
 | 0, _, _, _, _, _, _, _, _, _, _ => none
 | k + 1, x1, x2, x7, x9, x10, x76, x77, x78, x672000, x672001 => if x78 < x77 then (if 0 ≤ x78 then (if x78 < (x76.length : Int) then ((spilelaw51_ct.f x672000 x672001).bind fun bt700 => (if x78 < (x1.length : Int) then ((liability_Causes.f k bt700.1 bt700.2 ((rd_T35 x1 x78).f0) ((rd_T35 x1 x78).f1) ((rd_T35 x1 x78).f2) ((rd_T35 x1 x78).f3) ((rd_T35 x1 x78).f4) ((rd_T51 x76 x78).f0) ((rd_T51 x76 x78).f1) ((rd_T51 x76 x78).f2) ((rd_T51 x76 x78).f3) x2).bind fun bt705 => (if bt705.2 = 0 then (if x78 < (x9.length : Int) then (if bt705.1 = (rd x9 x78) then ((liability_Fits.f k ((rd_T35 x1 x78).f0) ((rd_T35 x1 x78).f1) ((rd_T35 x1 x78).f2) ((rd_T35 x1 x78).f3) ((rd_T35 x1 x78).f4) ((rd_T51 x76 x78).f0) ((rd_T51 x76 x78).f1) ((rd_T51 x76 x78).f2) ((rd_T51 x76 x78).f3) x2).bind fun t709 => (spilelaw51_LiabilityReached.j3 k x1 x2 x7 x9 x10 x76 x77 x78 (!t709) x672000 x672001)) else (none)) else (none)) else (none))) else (none))) else (none)) else (none)) else ((spilelaw51_ct.f x672000 x672001).bind fun bt710 => ((clone13.f x1).bind fun t714 => ((liability_Sum.f k bt710.1 bt710.2 t714 x7 x2).bind fun bt717 => (if bt717.2 = 0 then (some (bt717.1 == x10)) else (none)))))
def spilelaw51_LiabilityReached.j3 : Nat → List (S35) → Int → List (S51) → List Int → Int → List (S51) → Int → Int → Bool → Int → List (S60) → Option (Bool)
 | 0, _, _, _, _, _, _, _, _, _, _, _ => none
 | k + 1, x1, x2, x7, x9, x10, x76, x77, x78, x114, x672000, x672001 => if x114 = true then (none) else (spilelaw51_LiabilityReached.l0 k x1 x2 x7 x9 x10 x76 x77 (wrap64 (x78 + 1)) x672000 x672001)
end
def spilelaw51_LiabilityReached.f (k : Nat) (a0_0 : Int) (l0_1 : List (S60)) (l1 : List (S35)) (a2 : Int) : Option (Bool) := (spilelaw51_awake.f k).bind fun t672 => (if t672 = true then ((spilelaw51_few.f a0_0 l0_1 l1).bind fun t673 => (spilelaw51_LiabilityReached.j0 k l1 a2 (!t673) a0_0 l0_1)) else (spilelaw51_LiabilityReached.j0 k l1 a2 true a0_0 l0_1))
theorem spilelaw51_LiabilityReached.mono_l : ∀ k, (∀ y0 y1 y2 y3 y4, LeO (spilelaw51_LiabilityReached.j0 k y0 y1 y2 y3 y4) (spilelaw51_LiabilityReached.j0 (k + 1) y0 y1 y2 y3 y4)) ∧ (∀ y0 y1 y2 y3 y4 y5 y6 y7, LeO (spilelaw51_LiabilityReached.j1 k y0 y1 y2 y3 y4 y5 y6 y7) (spilelaw51_LiabilityReached.j1 (k + 1) y0 y1 y2 y3 y4 y5 y6 y7)) ∧ (∀ y0 y1 y2 y3 y4 y5 y6 y7 y8 y9, LeO (spilelaw51_LiabilityReached.l0 k y0 y1 y2 y3 y4 y5 y6 y7 y8 y9) (spilelaw51_LiabilityReached.l0 (k + 1) y0 y1 y2 y3 y4 y5 y6 y7 y8 y9)) ∧ (∀ y0 y1 y2 y3 y4 y5 y6 y7 y8 y9 y10, LeO (spilelaw51_LiabilityReached.j3 k y0 y1 y2 y3 y4 y5 y6 y7 y8 y9 y10) (spilelaw51_LiabilityReached.j3 (k + 1) y0 y1 y2 y3 y4 y5 y6 y7 y8 y9 y10))
 | 0 => ⟨fun _ _ _ _ _ r h => by simp [spilelaw51_LiabilityReached.j0] at h, fun _ _ _ _ _ _ _ _ r h => by simp [spilelaw51_LiabilityReached.j1] at h, fun _ _ _ _ _ _ _ _ _ _ r h => by simp [spilelaw51_LiabilityReached.l0] at h, fun _ _ _ _ _ _ _ _ _ _ _ r h => by simp [spilelaw51_LiabilityReached.j3] at h⟩
 | k + 1 => by
  obtain ⟨ih0, ih1, ih2, ih3⟩ := spilelaw51_LiabilityReached.mono_l k
  refine ⟨?_, ?_, ?_, ?_⟩
  ·intro y0 y1 y2 y3 y4
   unfold spilelaw51_LiabilityReached.j0
   repeat' first
   | (with_reducible exact ih0 _ _ _ _ _)
   | (with_reducible exact ih1 _ _ _ _ _ _ _ _)
   | (with_reducible exact ih2 _ _ _ _ _ _ _ _ _ _)
   | (with_reducible exact ih3 _ _ _ _ _ _ _ _ _ _ _)
   | (with_reducible exact liability_Causes.mono _ _ _ _ _ _ _ _ _ _ _ _ _)
   | (with_reducible exact liability_Fits.mono _ _ _ _ _ _ _ _ _ _ _)
   | (with_reducible exact liability_Greatest.mono _ _ _ _ _)
   | (with_reducible exact liability_Sum.mono _ _ _ _ _ _)
   | (with_reducible exact liability_Witness.mono _ _ _ _ _)
   | (with_reducible exact spilelaw51_awake.mono _)
   | (with_reducible exact LeO.refl _)
   | (with_reducible exact LeO.none _)
   | (with_reducible refine LeO.ite ?_ ?_)
   | (with_reducible refine LeO.bind ?_ (fun _ => ?_))
   | exact ih0 _ _ _ _ _
   | exact ih1 _ _ _ _ _ _ _ _
   | exact ih2 _ _ _ _ _ _ _ _ _ _
   | exact ih3 _ _ _ _ _ _ _ _ _ _ _
   | exact liability_Causes.mono _ _ _ _ _ _ _ _ _ _ _ _ _
   | exact liability_Fits.mono _ _ _ _ _ _ _ _ _ _ _
   | exact liability_Greatest.mono _ _ _ _ _
   | exact liability_Sum.mono _ _ _ _ _ _
   | exact liability_Witness.mono _ _ _ _ _
   | exact spilelaw51_awake.mono _
   | exact LeO.none _
   | refine LeO.ite ?_ ?_
   | refine LeO.bind ?_ (fun _ => ?_)
  ·intro y0 y1 y2 y3 y4 y5 y6 y7
   unfold spilelaw51_LiabilityReached.j1
   repeat' first
   | (with_reducible exact ih0 _ _ _ _ _)
   | (with_reducible exact ih1 _ _ _ _ _ _ _ _)
   | (with_reducible exact ih2 _ _ _ _ _ _ _ _ _ _)
   | (with_reducible exact ih3 _ _ _ _ _ _ _ _ _ _ _)
   | (with_reducible exact liability_Causes.mono _ _ _ _ _ _ _ _ _ _ _ _ _)
   | (with_reducible exact liability_Fits.mono _ _ _ _ _ _ _ _ _ _ _)
   | (with_reducible exact liability_Greatest.mono _ _ _ _ _)
   | (with_reducible exact liability_Sum.mono _ _ _ _ _ _)
   | (with_reducible exact liability_Witness.mono _ _ _ _ _)
   | (with_reducible exact spilelaw51_awake.mono _)
   | (with_reducible exact LeO.refl _)
   | (with_reducible exact LeO.none _)
   | (with_reducible refine LeO.ite ?_ ?_)
   | (with_reducible refine LeO.bind ?_ (fun _ => ?_))
   | exact ih0 _ _ _ _ _
   | exact ih1 _ _ _ _ _ _ _ _
   | exact ih2 _ _ _ _ _ _ _ _ _ _
   | exact ih3 _ _ _ _ _ _ _ _ _ _ _
   | exact liability_Causes.mono _ _ _ _ _ _ _ _ _ _ _ _ _
   | exact liability_Fits.mono _ _ _ _ _ _ _ _ _ _ _
   | exact liability_Greatest.mono _ _ _ _ _
   | exact liability_Sum.mono _ _ _ _ _ _
   | exact liability_Witness.mono _ _ _ _ _
   | exact spilelaw51_awake.mono _
   | exact LeO.none _
   | refine LeO.ite ?_ ?_
   | refine LeO.bind ?_ (fun _ => ?_)
  ·intro y0 y1 y2 y3 y4 y5 y6 y7 y8 y9
   unfold spilelaw51_LiabilityReached.l0
   repeat' first
   | (with_reducible exact ih0 _ _ _ _ _)
   | (with_reducible exact ih1 _ _ _ _ _ _ _ _)
   | (with_reducible exact ih2 _ _ _ _ _ _ _ _ _ _)
   | (with_reducible exact ih3 _ _ _ _ _ _ _ _ _ _ _)
   | (with_reducible exact liability_Causes.mono _ _ _ _ _ _ _ _ _ _ _ _ _)
   | (with_reducible exact liability_Fits.mono _ _ _ _ _ _ _ _ _ _ _)
   | (with_reducible exact liability_Greatest.mono _ _ _ _ _)
   | (with_reducible exact liability_Sum.mono _ _ _ _ _ _)
   | (with_reducible exact liability_Witness.mono _ _ _ _ _)
   | (with_reducible exact spilelaw51_awake.mono _)
   | (with_reducible exact LeO.refl _)
   | (with_reducible exact LeO.none _)
   | (with_reducible refine LeO.ite ?_ ?_)
   | (with_reducible refine LeO.bind ?_ (fun _ => ?_))
   | exact ih0 _ _ _ _ _
   | exact ih1 _ _ _ _ _ _ _ _
   | exact ih2 _ _ _ _ _ _ _ _ _ _
   | exact ih3 _ _ _ _ _ _ _ _ _ _ _
   | exact liability_Causes.mono _ _ _ _ _ _ _ _ _ _ _ _ _
   | exact liability_Fits.mono _ _ _ _ _ _ _ _ _ _ _
   | exact liability_Greatest.mono _ _ _ _ _
   | exact liability_Sum.mono _ _ _ _ _ _
   | exact liability_Witness.mono _ _ _ _ _
   | exact spilelaw51_awake.mono _
   | exact LeO.none _
   | refine LeO.ite ?_ ?_
   | refine LeO.bind ?_ (fun _ => ?_)
  ·intro y0 y1 y2 y3 y4 y5 y6 y7 y8 y9 y10
   unfold spilelaw51_LiabilityReached.j3
   repeat' first
   | (with_reducible exact ih0 _ _ _ _ _)
   | (with_reducible exact ih1 _ _ _ _ _ _ _ _)
   | (with_reducible exact ih2 _ _ _ _ _ _ _ _ _ _)
   | (with_reducible exact ih3 _ _ _ _ _ _ _ _ _ _ _)
   | (with_reducible exact liability_Causes.mono _ _ _ _ _ _ _ _ _ _ _ _ _)
   | (with_reducible exact liability_Fits.mono _ _ _ _ _ _ _ _ _ _ _)
   | (with_reducible exact liability_Greatest.mono _ _ _ _ _)
   | (with_reducible exact liability_Sum.mono _ _ _ _ _ _)
   | (with_reducible exact liability_Witness.mono _ _ _ _ _)
   | (with_reducible exact spilelaw51_awake.mono _)
   | (with_reducible exact LeO.refl _)
   | (with_reducible exact LeO.none _)
   | (with_reducible refine LeO.ite ?_ ?_)
   | (with_reducible refine LeO.bind ?_ (fun _ => ?_))
   | exact ih0 _ _ _ _ _
   | exact ih1 _ _ _ _ _ _ _ _
   | exact ih2 _ _ _ _ _ _ _ _ _ _
   | exact ih3 _ _ _ _ _ _ _ _ _ _ _
   | exact liability_Causes.mono _ _ _ _ _ _ _ _ _ _ _ _ _
   | exact liability_Fits.mono _ _ _ _ _ _ _ _ _ _ _
   | exact liability_Greatest.mono _ _ _ _ _
   | exact liability_Sum.mono _ _ _ _ _ _
   | exact liability_Witness.mono _ _ _ _ _
   | exact spilelaw51_awake.mono _
   | exact LeO.none _
   | refine LeO.ite ?_ ?_
   | refine LeO.bind ?_ (fun _ => ?_)
theorem spilelaw51_LiabilityReached.mono : ∀ a0 a1 a2 a3 k, LeO (spilelaw51_LiabilityReached.f k a0 a1 a2 a3) (spilelaw51_LiabilityReached.f (k + 1) a0 a1 a2 a3) := by
 intro a0 a1 a2 a3 k
 obtain ⟨ih0, ih1, ih2, ih3⟩ := spilelaw51_LiabilityReached.mono_l k
 unfold spilelaw51_LiabilityReached.f
 repeat' first
   | (with_reducible exact ih0 _ _ _ _ _)
   | (with_reducible exact ih1 _ _ _ _ _ _ _ _)
   | (with_reducible exact ih2 _ _ _ _ _ _ _ _ _ _)
   | (with_reducible exact ih3 _ _ _ _ _ _ _ _ _ _ _)
   | (with_reducible exact liability_Causes.mono _ _ _ _ _ _ _ _ _ _ _ _ _)
   | (with_reducible exact liability_Fits.mono _ _ _ _ _ _ _ _ _ _ _)
   | (with_reducible exact liability_Greatest.mono _ _ _ _ _)
   | (with_reducible exact liability_Sum.mono _ _ _ _ _ _)
   | (with_reducible exact liability_Witness.mono _ _ _ _ _)
   | (with_reducible exact spilelaw51_awake.mono _)
   | (with_reducible exact LeO.refl _)
   | (with_reducible exact LeO.none _)
   | (with_reducible refine LeO.ite ?_ ?_)
   | (with_reducible refine LeO.bind ?_ (fun _ => ?_))
   | exact ih0 _ _ _ _ _
   | exact ih1 _ _ _ _ _ _ _ _
   | exact ih2 _ _ _ _ _ _ _ _ _ _
   | exact ih3 _ _ _ _ _ _ _ _ _ _ _
   | exact liability_Causes.mono _ _ _ _ _ _ _ _ _ _ _ _ _
   | exact liability_Fits.mono _ _ _ _ _ _ _ _ _ _ _
   | exact liability_Greatest.mono _ _ _ _ _
   | exact liability_Sum.mono _ _ _ _ _ _
   | exact liability_Witness.mono _ _ _ _ _
   | exact spilelaw51_awake.mono _
   | exact LeO.none _
   | refine LeO.ite ?_ ?_
   | refine LeO.bind ?_ (fun _ => ?_)
def spilelaw51_LiabilityReached.T12 : Bool × List (List Nat × List Nat) := (true, [([], []), ([0], [0]), ([], []), ([], []), ([2, 3], [2, 3]), ([4], [4]), ([], []), ([], []), ([1, 5, 6, 7, 1], [1, 5, 6, 7]), ([8], [8]), ([9], [9]), ([9], [9]), ([10, 8, 0, 1, 2, 3, 4, 5, 6, 7, 8, 9, 10], [10]), ([11, 12, 0, 1, 2, 3, 4, 5, 6, 7, 8, 9, 10, 11, 12], [11])])
def spilelaw51_LiabilityReached.B12 : List Nat := [0, 1, 0, 0, 12, 28, 0, 0, 255, 511, 1023, 1023, 2047, 8191]
theorem spilelaw51_LiabilityReached.tab12 : rtab .any (opsOf Try.f6 12) = spilelaw51_LiabilityReached.T12 := by kernel_rfl
theorem spilelaw51_LiabilityReached.bits12 : waitsOk spilelaw51_LiabilityReached.T12.2 spilelaw51_LiabilityReached.B12 = true := by kernel_rfl
def spilelaw51_LiabilityReached.T13 : Bool × List (List Nat × List Nat) := (true, [([], []), ([0], [0]), ([1], [1]), ([2], [2]), ([2], [2]), ([2], [2]), ([4, 5, 2], [2, 4, 5]), ([6, 2], [2, 6]), ([3, 7, 2], [2, 3, 7]), ([2, 8], [2, 8]), ([9, 2], [9]), ([10], [10]), ([10], [10]), ([11, 12, 10], [10, 11, 12]), ([13, 10], [10, 13]), ([10], [10]), ([10], [10]), ([14, 15, 16, 10, 10], [10, 14, 15, 16]), ([17, 10], [10, 17]), ([10, 18], [10, 18])])
def spilelaw51_LiabilityReached.B13 : List Nat := [0, 1, 3, 7, 7, 7, 55, 119, 255, 511, 1023, 2047, 2047, 8191, 16383, 2047, 2047, 131071, 262143, 524287]
theorem spilelaw51_LiabilityReached.tab13 : rtab .any (opsOf Try.f6 13) = spilelaw51_LiabilityReached.T13 := by kernel_rfl
theorem spilelaw51_LiabilityReached.bits13 : waitsOk spilelaw51_LiabilityReached.T13.2 spilelaw51_LiabilityReached.B13 = true := by kernel_rfl
set_option maxHeartbeats 8000000 in
set_option maxRecDepth 100000 in
theorem spilelaw51_LiabilityReached.calls (k : Nat) (a0_0 : Int) (A0_1 : Option Addr) (c0_1 : Nat) (l0_1 : List (S60)) (A1 : Option Addr) (c1 : Nat) (l1 : List (S35)) (a2 : Int) (r : Bool) (w : World) (hr0_1 : Kd.C k60 w A0_1 l0_1.length l0_1) (hc0_1 : l0_1.length ≤ c0_1) (hr1 : Kd.C k35 w A1 l1.length l1) (hc1 : l1.length ≤ c1) (h : spilelaw51_LiabilityReached.f k a0_0 l0_1 l1 a2 = some r) :
  Calls Try.prog 6 #[.agg #[.int .i64 a0_0, .slice A0_1 l0_1.length c0_1], .slice A1 l1.length c1, .int .i64 a2] w fun e w' => e = .returned (.bool r) ∧ Below w.heap.size w w' := by
 have hu24 := Try.underlying24
 have hu51 := Try.underlying51
 have hu35 := Try.underlying35
 have HR0_1 := Aside0.mk hr0_1
 have HC0_1 := Aside0.mk hc0_1
 clear hr0_1 hc0_1
 have HR1 := Aside0.mk hr1
 have HC1 := Aside0.mk hc1
 clear hr1 hc1
 have HB := Aside0.mk (Below.refl w.heap.size w)
 have H : ((spilelaw51_awake.f k).bind fun t672 => (if t672 = true then ((spilelaw51_few.f a0_0 l0_1 l1).bind fun t673 => (spilelaw51_LiabilityReached.j0 k l1 a2 (!t673) a0_0 l0_1)) else (spilelaw51_LiabilityReached.j0 k l1 a2 true a0_0 l0_1))) = some r := h
 clear h
 have HC4 := Aside0.mk H
 clear H
 go_enter Try.func6, Try.ntmps6
 go_upto_region 1 with (first | ((with_reducible refine gqD (N := 3) rfl ?_); (try (refine gate_guard (by rfl) ?_; dsimp only)); refine GS.bx (N := 3) (cs := #[.int .i64 a0_0, .slice A0_1 l0_1.length c0_1]) (t := 24) ?_; intro gb671 hg w5 hbox hb; have n0_ := Aside0.mk (lqT (GS.lB HB.out) hb); have n1_ := Aside0.mk (hbox); have n2_ := Aside0.mk ((by rw [hg]; exact (lqZ (GS.lB HB.out)) : w.heap.size ≤ gb671)); have n3_ := Aside0.mk ((by rw [hg]; exact (lqZ (GS.lB HB.out)) : w.heap.size ≤ gb671)); clear HB; have HB := n0_; have BK671 := n1_; have GW671 := n2_; have GE671 := n3_; clear n0_ n1_ n2_ n3_; clear hb hbox hg))
 (try simp only [Act.put, List.setIfInBounds_toArray, List.set_cons_zero, List.set_cons_succ])
 go_cut [25] (fun v25 wc => ∃ (kq : Nat) (x25_3 : Bool), v25 = .bool x25_3 ∧ Aside0 (spilelaw51_LiabilityReached.j0 kq l1 a2 x25_3 a0_0 l0_1 = some r) ∧ Aside0 (kq ≤ k) ∧ Aside0 (wc.heap[gb671]? = some (.cells #[.int .i64 a0_0, (.slice A0_1 l0_1.length c0_1)] 24 (0, 0))) ∧ Aside0 (Below w.heap.size w wc))
 case first =>
  have H := HC4.out
  clear HC4
  replace H := Option.bind_eq_some_iff.mp H
  obtain ⟨t672, A60, H⟩ := H
  replace H : (if t672 = true then ((spilelaw51_few.f a0_0 l0_1 l1).bind fun t673 => (spilelaw51_LiabilityReached.j0 k l1 a2 (!t673) a0_0 l0_1)) else (spilelaw51_LiabilityReached.j0 k l1 a2 true a0_0 l0_1)) = some r := H
  have A6 := Aside0.mk A60
  clear A60
  by_cases c7 : t672 = true
  ·subst c7
   have H1 : ((spilelaw51_few.f a0_0 l0_1 l1).bind fun t673 => (spilelaw51_LiabilityReached.j0 k l1 a2 (!t673) a0_0 l0_1)) = some r := by rw [if_pos rfl] at H; exact H
   clear H
   have H := H1
   clear H1
   replace H := Option.bind_eq_some_iff.mp H
   obtain ⟨t673, A80, H⟩ := H
   replace H : (spilelaw51_LiabilityReached.j0 k l1 a2 (!t673) a0_0 l0_1) = some r := H
   have A8 := Aside0.mk A80
   clear A80
   have H' := Aside0.mk H
   clear H
   go_wp2_with (first | ((with_reducible refine gqC (f := 9) rfl ?_); refine GS.gL (some 18) Try.func9 #[] ?_; (with_reducible refine (spilelaw51_awake.calls k  true _ A6.out).mono ?_); rintro e w9 ⟨rfl, hb⟩; refine ⟨_, rfl, ?_⟩; have n0_ := Aside0.mk (bqB (GS.bqX BK671.out) hb); have n1_ := Aside0.mk (lqT (GS.lB HB.out) hb); clear BK671; clear HB; have BK671 := n0_; have HB := n1_; clear n0_ n1_; (try clear hb); (try clear hb2); (try clear hk); (try clear hi); obtain ⟨hcz10_0, hcz10_1, hfz10_0, hfz10_1⟩ := GS.c2 BK671.out) | (go_at_call 10; (with_reducible refine (spilelaw51_few.calls a0_0 _ _ l0_1 _ _ l1 t673 _ ?side1 ?side2 ?side3 ?side4 A8.out).mono ?_); (case side1 => exact GS.rC (Kd.C_below HR0_1.out HB.out)); (case side2 => exact HC0_1.out); (case side3 => exact GS.rC (Kd.C_below HR1.out HB.out)); (case side4 => exact HC1.out); rintro e w11 ⟨rfl, hb⟩; have n0_ := Aside0.mk (bqB (GS.bqX BK671.out) hb); have n1_ := Aside0.mk (lqT (GS.lB HB.out) hb); clear BK671; clear HB; have BK671 := n0_; have HB := n1_; clear n0_ n1_; (try clear hb); (try clear hb2); (try clear hk); (try clear hi)))
   go_meet
   case rel => exact ⟨_, (!t673), (by first | rfl | (simp; done) | (simp [*]; done)), H', ⟨by first | omega | exact Nat.le_refl _⟩, ⟨GS.bqX BK671.out⟩, ⟨GS.lB HB.out⟩⟩
  ·replace c7 := Bool.eq_false_iff.mpr c7
   subst c7
   have H1 : (spilelaw51_LiabilityReached.j0 k l1 a2 true a0_0 l0_1) = some r := by rw [if_neg (show ¬ (false = true) by decide)] at H; exact H
   clear H
   have H := H1
   clear H1
   have H' := Aside0.mk H
   clear H
   go_wp2_with (first | ((with_reducible refine gqC (f := 9) rfl ?_); refine GS.gL (some 18) Try.func9 #[] ?_; (with_reducible refine (spilelaw51_awake.calls k  false _ A6.out).mono ?_); rintro e w12 ⟨rfl, hb⟩; refine ⟨_, rfl, ?_⟩; have n0_ := Aside0.mk (bqB (GS.bqX BK671.out) hb); have n1_ := Aside0.mk (lqT (GS.lB HB.out) hb); clear BK671; clear HB; have BK671 := n0_; have HB := n1_; clear n0_ n1_; (try clear hb); (try clear hb2); (try clear hk); (try clear hi)))
   go_meet
   case rel => exact ⟨_, (true), (by first | rfl | (simp; done) | (simp [*]; done)), H', ⟨by first | omega | exact Nat.le_refl _⟩, ⟨GS.bqX BK671.out⟩, ⟨GS.lB HB.out⟩⟩
 case rest =>
  clear HC4
  try clear c1
  try clear p2
  try clear c6
  try clear c7
  try clear c9
  try clear hcz10_0
  try clear hcz10_1
  try clear hfz10_0
  try clear hfz10_1
  obtain ⟨kq, x25_3, rfl, HA, HJ3, BK671, HB⟩ := hcut
  cases kq with
  | zero => exact absurd HA.out (by simp [spilelaw51_LiabilityReached.j0])
  | succ kj3 =>
   have H := HA.out
   clear HA
   simp only [spilelaw51_LiabilityReached.j0] at H
   by_cases c13 : x25_3 = true
   ·subst c13
    have H1 : ((spilelaw51_awake.f kj3).bind fun t674 => (some t674)) = some r := by rw [if_pos rfl] at H; exact H
    clear H
    have H := H1
    clear H1
    replace H := Option.bind_eq_some_iff.mp H
    obtain ⟨t674, A140, H⟩ := H
    replace H : (some t674) = some r := H
    have A14 := Aside0.mk A140
    clear A140
    obtain rfl := Option.some.inj H
    go_wp2_with (first | ((with_reducible refine gqC (f := 9) rfl ?_); refine GS.gL (some 26) Try.func9 #[] ?_; (with_reducible refine (spilelaw51_awake.calls kj3  t674 _ A14.out).mono ?_); rintro e w15 ⟨rfl, hb⟩; refine ⟨_, rfl, ?_⟩; have n0_ := Aside0.mk (bqB (GS.bqX BK671.out) hb); have n1_ := Aside0.mk (lqT (GS.lB HB.out) hb); clear BK671; clear HB; have BK671 := n0_; have HB := n1_; clear n0_ n1_; (try clear hb); (try clear hb2); (try clear hk); (try clear hi)))
    go_ret
    exact ⟨by first | rfl | (simp [errW_none, errW_some] <;> rfl) | (simp [*, errW_none, errW_some] <;> rfl), GS.lB HB.out⟩
   ·replace c13 := Bool.eq_false_iff.mpr c13
    subst c13
    have H1 : ((spilelaw51_ct.f a0_0 l0_1).bind fun bt675 => ((clone13.f l1).bind fun t679 => ((liability_Witness.f kj3 bt675.1 bt675.2 t679 a2).bind fun bt682 => ((spilelaw51_ct.f a0_0 l0_1).bind fun bt686 => ((clone13.f l1).bind fun t690 => ((liability_Greatest.f kj3 bt686.1 bt686.2 t690 a2).bind fun bt693 => (if bt682.2 = 0 then (if bt693.2.2 = 0 then (if (bt682.1.length : Int) = (l1.length : Int) then (spilelaw51_LiabilityReached.j1 kj3 l1 a2 bt682.1 bt693.1 bt693.2.1 ((bt693.1.length : Int) != (l1.length : Int)) a0_0 l0_1) else (none)) else (none)) else (if (bt682.1.length : Int) = 0 then (if bt682.2 = bt693.2.2 then (some true) else (some (bt682.2 == 11))) else (none))))))))) = some r := by rw [if_neg (show ¬ (false = true) by decide)] at H; exact H
    clear H
    have H := H1
    clear H1
    replace H := Option.bind_eq_some_iff.mp H
    obtain ⟨⟨t675, t676⟩, A160, H⟩ := H
    replace H : ((clone13.f l1).bind fun t679 => ((liability_Witness.f kj3 t675 t676 t679 a2).bind fun bt682 => ((spilelaw51_ct.f a0_0 l0_1).bind fun bt686 => ((clone13.f l1).bind fun t690 => ((liability_Greatest.f kj3 bt686.1 bt686.2 t690 a2).bind fun bt693 => (if bt682.2 = 0 then (if bt693.2.2 = 0 then (if (bt682.1.length : Int) = (l1.length : Int) then (spilelaw51_LiabilityReached.j1 kj3 l1 a2 bt682.1 bt693.1 bt693.2.1 ((bt693.1.length : Int) != (l1.length : Int)) a0_0 l0_1) else (none)) else (none)) else (if (bt682.1.length : Int) = 0 then (if bt682.2 = bt693.2.2 then (some true) else (some (bt682.2 == 11))) else (none)))))))) = some r := H
    have A16 := Aside0.mk A160
    clear A160
    replace H := Option.bind_eq_some_iff.mp H
    obtain ⟨t679, A170, H⟩ := H
    replace H : ((liability_Witness.f kj3 t675 t676 t679 a2).bind fun bt682 => ((spilelaw51_ct.f a0_0 l0_1).bind fun bt686 => ((clone13.f l1).bind fun t690 => ((liability_Greatest.f kj3 bt686.1 bt686.2 t690 a2).bind fun bt693 => (if bt682.2 = 0 then (if bt693.2.2 = 0 then (if (bt682.1.length : Int) = (l1.length : Int) then (spilelaw51_LiabilityReached.j1 kj3 l1 a2 bt682.1 bt693.1 bt693.2.1 ((bt693.1.length : Int) != (l1.length : Int)) a0_0 l0_1) else (none)) else (none)) else (if (bt682.1.length : Int) = 0 then (if bt682.2 = bt693.2.2 then (some true) else (some (bt682.2 == 11))) else (none))))))) = some r := H
    have A17 := Aside0.mk A170
    clear A170
    replace H := Option.bind_eq_some_iff.mp H
    obtain ⟨⟨t682, t685⟩, A180, H⟩ := H
    replace H : ((spilelaw51_ct.f a0_0 l0_1).bind fun bt686 => ((clone13.f l1).bind fun t690 => ((liability_Greatest.f kj3 bt686.1 bt686.2 t690 a2).bind fun bt693 => (if t685 = 0 then (if bt693.2.2 = 0 then (if (t682.length : Int) = (l1.length : Int) then (spilelaw51_LiabilityReached.j1 kj3 l1 a2 t682 bt693.1 bt693.2.1 ((bt693.1.length : Int) != (l1.length : Int)) a0_0 l0_1) else (none)) else (none)) else (if (t682.length : Int) = 0 then (if t685 = bt693.2.2 then (some true) else (some (t685 == 11))) else (none)))))) = some r := H
    have A18 := Aside0.mk A180
    clear A180
    replace H := Option.bind_eq_some_iff.mp H
    obtain ⟨⟨t686, t687⟩, A190, H⟩ := H
    replace H : ((clone13.f l1).bind fun t690 => ((liability_Greatest.f kj3 t686 t687 t690 a2).bind fun bt693 => (if t685 = 0 then (if bt693.2.2 = 0 then (if (t682.length : Int) = (l1.length : Int) then (spilelaw51_LiabilityReached.j1 kj3 l1 a2 t682 bt693.1 bt693.2.1 ((bt693.1.length : Int) != (l1.length : Int)) a0_0 l0_1) else (none)) else (none)) else (if (t682.length : Int) = 0 then (if t685 = bt693.2.2 then (some true) else (some (t685 == 11))) else (none))))) = some r := H
    have A19 := Aside0.mk A190
    clear A190
    replace H := Option.bind_eq_some_iff.mp H
    obtain ⟨t690, A200, H⟩ := H
    replace H : ((liability_Greatest.f kj3 t686 t687 t690 a2).bind fun bt693 => (if t685 = 0 then (if bt693.2.2 = 0 then (if (t682.length : Int) = (l1.length : Int) then (spilelaw51_LiabilityReached.j1 kj3 l1 a2 t682 bt693.1 bt693.2.1 ((bt693.1.length : Int) != (l1.length : Int)) a0_0 l0_1) else (none)) else (none)) else (if (t682.length : Int) = 0 then (if t685 = bt693.2.2 then (some true) else (some (t685 == 11))) else (none)))) = some r := H
    have A20 := Aside0.mk A200
    clear A200
    replace H := Option.bind_eq_some_iff.mp H
    obtain ⟨⟨t693, t696, t697⟩, A210, H⟩ := H
    replace H : (if t685 = 0 then (if t697 = 0 then (if (t682.length : Int) = (l1.length : Int) then (spilelaw51_LiabilityReached.j1 kj3 l1 a2 t682 t693 t696 ((t693.length : Int) != (l1.length : Int)) a0_0 l0_1) else (none)) else (none)) else (if (t682.length : Int) = 0 then (if t685 = t697 then (some true) else (some (t685 == 11))) else (none))) = some r := H
    have A21 := Aside0.mk A210
    clear A210
    by_cases c22 : t685 = 0
    ·rw [if_pos c22] at H
     have c22b0 : (t685 == 0) = true := beq_iff_eq.mpr c22
     try simp only [beq_self_eq_true, Bool.not_true, Bool.false_or, Bool.true_and] at c22b0
     have c22b1 : (t685 != 0) = false := bne_eq_false_iff_eq.mpr c22
     clear c22
     have HC23 := Aside0.mk H
     clear H
     obtain ⟨hcz24_0, hcz24_1, hfz24_0, hfz24_1⟩ := GS.c2 BK671.out
     go_upto_region 7 with (first | ((with_reducible refine gqC (f := 12) rfl ?_); refine GS.gL (some 29) Try.func12 #[.agg #[.int .i64 a0_0, .slice A0_1 l0_1.length c0_1]] ?_; (with_reducible refine (spilelaw51_ct.calls a0_0 _ _ l0_1 t675 t676 _ ?side1 ?side2 A16.out).mono ?_); (case side1 => exact GS.rC (Kd.C_below HR0_1.out HB.out)); (case side2 => exact HC0_1.out); rintro e w25 ⟨v677, rfl, ho0, hb⟩; refine ⟨_, rfl, ?_⟩; have n0_ := Aside0.mk (Kd.R_lower ho0 (lqZ (GS.lB HB.out))); have n1_ := Aside0.mk (bqB (GS.bqX BK671.out) hb); have n2_ := Aside0.mk (lqT (GS.lB HB.out) hb); clear BK671; clear HB; have HO678 := n0_; have BK671 := n1_; have HB := n2_; clear n0_ n1_ n2_; (try clear hb); (try clear hb2); (try clear hk); (try clear hi); (try clear ho0)) | ((with_reducible refine gqC (f := 13) rfl ?_); refine GS.gL (some 31) Try.func13 #[.slice A1 l1.length c1] ?_; (with_reducible refine (clone13.calls _ _ l1 t679 _ ?side1 ?side2 A17.out).mono ?_); (case side1 => exact GS.rC (Kd.C_below HR1.out HB.out)); (case side2 => exact HC1.out); rintro e w26 ⟨v680, rfl, ho0, hb⟩; refine ⟨_, rfl, ?_⟩; have n0_ := Aside0.mk (Kd.R_below (GS.rR HO678.out) hb); have n1_ := Aside0.mk (Kd.R_lower ho0 (lqZ (GS.lB HB.out))); have n2_ := Aside0.mk (bqB (GS.bqX BK671.out) hb); have n3_ := Aside0.mk (lqT (GS.lB HB.out) hb); clear HO678; clear BK671; clear HB; have HO678 := n0_; have HO681 := n1_; have BK671 := n2_; have HB := n3_; clear n0_ n1_ n2_ n3_; (try clear hb); (try clear hb2); (try clear hk); (try clear hi); (try clear ho0); obtain ⟨Ao27, co27, eo27⟩ := Kd.R_slice HO678.out; subst eo27; obtain ⟨Ao28, co28, eo28⟩ := Kd.R_slice HO681.out; subst eo28) | ((with_reducible refine gqC (f := 19) rfl ?_); refine GS.gL (some 33) Try.func19 #[.agg #[.int .i64 t675, .slice Ao27 t676.length co27], .slice Ao28 t679.length co28, .int .i64 a2] ?_; (with_reducible refine (liability_Witness.calls kj3 t675 _ _ t676 _ _ t679 a2 t682 t685 _ ?side1 ?side2 ?side3 ?side4 A18.out).mono ?_); (case side1 => repeat (first | exact (Kd.R_reads' HO678.out).2.2 | (with_reducible refine Kd.C_alloc ?_ _) | (with_reducible refine Kd.C_drewN ?_ _) | (with_reducible refine Kd.C_drew ?_))); (case side2 => exact (Kd.R_reads' HO678.out).2.1); (case side3 => repeat (first | exact (Kd.R_reads' HO681.out).2.2 | (with_reducible refine Kd.C_alloc ?_ _) | (with_reducible refine Kd.C_drewN ?_ _) | (with_reducible refine Kd.C_drew ?_))); (case side4 => exact (Kd.R_reads' HO681.out).2.1); rintro e w29 ⟨v683, rfl, ho0, hb⟩; refine ⟨_, rfl, ?_⟩; have n0_ := Aside0.mk (Kd.R_below (GS.rR HO678.out) hb); have n1_ := Aside0.mk (Kd.R_below (GS.rR HO681.out) hb); have n2_ := Aside0.mk (Kd.R_lower ho0 (lqZ (GS.lB HB.out))); have n3_ := Aside0.mk (bqB (GS.bqX BK671.out) hb); have n4_ := Aside0.mk (lqT (GS.lB HB.out) hb); clear HO678; clear HO681; clear BK671; clear HB; have HO678 := n0_; have HO681 := n1_; have HO684 := n2_; have BK671 := n3_; have HB := n4_; clear n0_ n1_ n2_ n3_ n4_; (try clear hb); (try clear hb2); (try clear hk); (try clear hi); (try clear ho0); obtain ⟨hcz30_0, hcz30_1, hfz30_0, hfz30_1⟩ := GS.c2 BK671.out) | ((with_reducible refine gqC (f := 12) rfl ?_); refine GS.gL (some 38) Try.func12 #[.agg #[.int .i64 a0_0, .slice A0_1 l0_1.length c0_1]] ?_; (with_reducible refine (spilelaw51_ct.calls a0_0 _ _ l0_1 t686 t687 _ ?side1 ?side2 A19.out).mono ?_); (case side1 => exact GS.rC (Kd.C_below HR0_1.out HB.out)); (case side2 => exact HC0_1.out); rintro e w31 ⟨v688, rfl, ho0, hb⟩; refine ⟨_, rfl, ?_⟩; have n0_ := Aside0.mk (Kd.R_elder' (GS.rR HO678.out) (Kd.R_base ho0) hb); have n1_ := Aside0.mk (Kd.R_below (GS.rR HO681.out) hb); have n2_ := Aside0.mk (Kd.R_below (GS.rR HO684.out) hb); have n3_ := Aside0.mk (Kd.R_lower (Kd.R_new' ho0 (Kd.R_lt (GS.rR HO678.out))) (lqZ (GS.lB HB.out))); have n4_ := Aside0.mk (bqB (GS.bqX BK671.out) hb); have n5_ := Aside0.mk (lqT (GS.lB HB.out) hb); clear HO678; clear HO681; clear HO684; clear BK671; clear HB; have HO678 := n0_; have HO681 := n1_; have HO684 := n2_; have HO689 := n3_; have BK671 := n4_; have HB := n5_; clear n0_ n1_ n2_ n3_ n4_ n5_; (try clear hb); (try clear hb2); (try clear hk); (try clear hi); (try clear ho0)) | ((with_reducible refine gqC (f := 13) rfl ?_); refine GS.gL (some 40) Try.func13 #[.slice A1 l1.length c1] ?_; (with_reducible refine (clone13.calls _ _ l1 t690 _ ?side1 ?side2 A20.out).mono ?_); (case side1 => exact GS.rC (Kd.C_below HR1.out HB.out)); (case side2 => exact HC1.out); rintro e w32 ⟨v691, rfl, ho0, hb⟩; refine ⟨_, rfl, ?_⟩; have n0_ := Aside0.mk (Kd.R_below (GS.rR HO678.out) hb); have n1_ := Aside0.mk (Kd.R_elder' (GS.rR HO681.out) (Kd.R_base ho0) hb); have n2_ := Aside0.mk (Kd.R_below (GS.rR HO684.out) hb); have n3_ := Aside0.mk (Kd.R_below (GS.rR HO689.out) hb); have n4_ := Aside0.mk (Kd.R_lower (Kd.R_new' ho0 (Kd.R_lt (GS.rR HO681.out))) (lqZ (GS.lB HB.out))); have n5_ := Aside0.mk (bqB (GS.bqX BK671.out) hb); have n6_ := Aside0.mk (lqT (GS.lB HB.out) hb); clear HO678; clear HO681; clear HO684; clear HO689; clear BK671; clear HB; have HO678 := n0_; have HO681 := n1_; have HO684 := n2_; have HO689 := n3_; have HO692 := n4_; have BK671 := n5_; have HB := n6_; clear n0_ n1_ n2_ n3_ n4_ n5_ n6_; (try clear hb); (try clear hb2); (try clear hk); (try clear hi); (try clear ho0); obtain ⟨Ao33, co33, eo33⟩ := Kd.R_slice HO689.out; subst eo33; obtain ⟨Ao34, co34, eo34⟩ := Kd.R_slice HO692.out; subst eo34) | ((with_reducible refine gqC (f := 11) rfl ?_); refine GS.gL (some 42) Try.func11 #[.agg #[.int .i64 t686, .slice Ao33 t687.length co33], .slice Ao34 t690.length co34, .int .i64 a2] ?_; (with_reducible refine (liability_Greatest.calls kj3 t686 _ _ t687 _ _ t690 a2 t693 t696 t697 _ ?side1 ?side2 ?side3 ?side4 A21.out).mono ?_); (case side1 => repeat (first | exact (Kd.R_reads' HO689.out).2.2 | (with_reducible refine Kd.C_alloc ?_ _) | (with_reducible refine Kd.C_drewN ?_ _) | (with_reducible refine Kd.C_drew ?_))); (case side2 => exact (Kd.R_reads' HO689.out).2.1); (case side3 => repeat (first | exact (Kd.R_reads' HO692.out).2.2 | (with_reducible refine Kd.C_alloc ?_ _) | (with_reducible refine Kd.C_drewN ?_ _) | (with_reducible refine Kd.C_drew ?_))); (case side4 => exact (Kd.R_reads' HO692.out).2.1); rintro e w35 ⟨v694, rfl, ho0, hb⟩; refine ⟨_, rfl, ?_⟩; have n0_ := Aside0.mk (Kd.R_below (GS.rR HO678.out) hb); have n1_ := Aside0.mk (Kd.R_below (GS.rR HO681.out) hb); have n2_ := Aside0.mk (Kd.R_below (GS.rR HO684.out) hb); have n3_ := Aside0.mk (Kd.R_below (GS.rR HO689.out) hb); have n4_ := Aside0.mk (Kd.R_below (GS.rR HO692.out) hb); have n5_ := Aside0.mk (Kd.R_lower ho0 (lqZ (GS.lB HB.out))); have n6_ := Aside0.mk (bqB (GS.bqX BK671.out) hb); have n7_ := Aside0.mk (lqT (GS.lB HB.out) hb); clear HO678; clear HO681; clear HO684; clear HO689; clear HO692; clear BK671; clear HB; have HO678 := n0_; have HO681 := n1_; have HO684 := n2_; have HO689 := n3_; have HO692 := n4_; have HO695 := n5_; have BK671 := n6_; have HB := n7_; clear n0_ n1_ n2_ n3_ n4_ n5_ n6_ n7_; (try clear hb); (try clear hb2); (try clear hk); (try clear hi); (try clear ho0)))
     (try simp only [Act.put, List.setIfInBounds_toArray, List.set_cons_zero, List.set_cons_succ])
     go_cut [75] (fun v75 wc => ∃ (kq : Nat) (x75_22 : Bool), v75 = .bool x75_22 ∧ Aside0 (spilelaw51_LiabilityReached.j1 kq l1 a2 t682 t693 t696 x75_22 a0_0 l0_1 = some r) ∧ Aside0 (kq ≤ kj3) ∧ Aside0 (Kd.R k51 51 wc w.heap.size (fun _ => True) v683 t682) ∧ Aside0 (Kd.R (Kd.int .i64) 3 wc w.heap.size (fun _ => True) v694 t693) ∧ Aside0 (wc.heap[gb671]? = some (.cells #[.int .i64 a0_0, (.slice A0_1 l0_1.length c0_1)] 24 (0, 0))) ∧ Aside0 (Below w.heap.size w wc))
     case first =>
      have H := HC23.out
      clear HC23
      by_cases c36 : t697 = 0
      ·rw [if_pos c36] at H
       have c36b0 : (t697 == 0) = true := beq_iff_eq.mpr c36
       try simp only [beq_self_eq_true, Bool.not_true, Bool.false_or, Bool.true_and] at c36b0
       have c36b1 : (t697 != 0) = false := bne_eq_false_iff_eq.mpr c36
       clear c36
       (first | rw [c36b0] | (simp only [i64_w, i32_w]; rw [c36b0]) | skip)
       by_cases c37 : (t682.length : Int) = (l1.length : Int)
       ·rw [if_pos c37] at H
        have c37b0 : ((t682.length : Int) == (l1.length : Int)) = true := beq_iff_eq.mpr c37
        try simp only [beq_self_eq_true, Bool.not_true, Bool.false_or, Bool.true_and] at c37b0
        have c37b1 : ((t682.length : Int) != (l1.length : Int)) = false := bne_eq_false_iff_eq.mpr c37
        have c37b2 : (t682.length == l1.length) = true := by first | simpa using c37 | (simp at c37 ⊢; omega)
        clear c37
        have H' := Aside0.mk H
        clear H
        obtain ⟨Ao38, co38, eo38⟩ := Kd.R_slice HO684.out
        subst eo38
        obtain ⟨Ao39, co39, eo39⟩ := Kd.R_slice HO695.out
        subst eo39
        go_wp2
        go_meet
        case rel => exact ⟨_, (((t693.length : Int) != (l1.length : Int))), (by first | rfl | (simp; done) | (simp [*]; done)), H', ⟨by have := HJ3.out; first | omega | exact Nat.le_refl _⟩, ⟨by (with_reducible repeat (first | apply Kd.R_alloc | apply Kd.R_drewN | apply Kd.R_drew)); exact HO684.out⟩, ⟨by (with_reducible repeat (first | apply Kd.R_alloc | apply Kd.R_drewN | apply Kd.R_drew)); exact HO695.out⟩, ⟨GS.bqX BK671.out⟩, ⟨GS.lB HB.out⟩⟩
       ·rw [if_neg c37] at H
        exact absurd H (by simp)
      ·rw [if_neg c36] at H
       exact absurd H (by simp)
     case rest =>
      clear HC23
      try clear c1
      try clear c2
      try clear p2
      try clear c3
      try clear c6
      try clear c7
      try clear c9
      try clear c11
      try clear c12
      try clear c13
      try clear c19
      try clear c22
      try clear c22b0
      try clear c22b1
      try clear c36
      try clear c36b0
      try clear c36b1
      try clear c37
      try clear c37b0
      try clear c37b1
      try clear c37b2
      try clear hcz10_0
      try clear hcz10_1
      try clear hcz24_0
      try clear hcz24_1
      try clear hcz30_0
      try clear hcz30_1
      try clear hfz10_0
      try clear hfz10_1
      try clear hfz24_0
      try clear hfz24_1
      try clear hfz30_0
      try clear hfz30_1
      try clear p2
      obtain ⟨kq, x75_22, rfl, HA, HJ22, HO_7, HO_9, BK671, HB⟩ := hcut
      cases kq with
      | zero => exact absurd HA.out (by simp [spilelaw51_LiabilityReached.j1])
      | succ kj22 =>
       have H := HA.out
       clear HA
       simp only [spilelaw51_LiabilityReached.j1] at H
       by_cases c40 : x75_22 = true
       ·subst c40
        have H1 : (none) = some r := by rw [if_pos rfl] at H; exact H
        clear H
        have H := H1
        clear H1
        exact absurd H (by simp)
       ·replace c40 := Bool.eq_false_iff.mpr c40
        subst c40
        have H1 : (spilelaw51_LiabilityReached.l0 kj22 l1 a2 t682 t693 t696 t682 (t682.length : Int) 0 a0_0 l0_1) = some r := by rw [if_neg (show ¬ (false = true) by decide)] at H; exact H
        clear H
        have H := H1
        clear H1
        have H' := Aside0.mk H
        clear H
        obtain ⟨Ao41, co41, eo41⟩ := Kd.R_slice HO_7.out
        subst eo41
        go_wp2
        go_loopg [78] kj22 (fun kq v78 w' => ∃ (x78_3 : Int), v78 = .int .i64 x78_3 ∧ Aside0 (spilelaw51_LiabilityReached.l0 kq l1 a2 t682 t693 t696 t682 (t682.length : Int) x78_3 a0_0 l0_1 = some r) ∧ Aside0 (kq ≤ kj22) ∧ Aside0 (Kd.R k51 51 w' w.heap.size (fun _ => True) (.slice Ao41 t682.length co41) t682) ∧ Aside0 (Kd.R (Kd.int .i64) 3 w' w.heap.size (fun _ => True) v694 t693) ∧ Aside0 (Kd.R k51 51 w' w.heap.size (fun _ => True) (.slice Ao41 t682.length co41) t682) ∧ Aside0 (w'.heap[gb671]? = some (.cells #[.int .i64 a0_0, (.slice A0_1 l0_1.length c0_1)] 24 (0, 0))) ∧ Aside0 (Below w.heap.size w w'))
        case atStart => exact ⟨(0), (by first | rfl | (simp; done) | (simp [*]; done)), H', ⟨Nat.le_refl _⟩, ⟨by (with_reducible repeat (first | apply Kd.R_alloc | apply Kd.R_drewN | apply Kd.R_drew)); exact HO_7.out⟩, ⟨by (with_reducible repeat (first | apply Kd.R_alloc | apply Kd.R_drewN | apply Kd.R_drew)); exact HO_9.out⟩, ⟨by (with_reducible repeat (first | apply Kd.R_alloc | apply Kd.R_drewN | apply Kd.R_drew)); exact HO_7.out⟩, ⟨GS.bqX BK671.out⟩, ⟨GS.lB HB.out⟩⟩
        case round =>
         clear H'
         try clear c1
         try clear c2
         try clear p2
         try clear c3
         try clear c4
         try clear c6
         try clear c7
         try clear c9
         try clear c11
         try clear c12
         try clear c13
         try clear c19
         try clear c22
         try clear c22b0
         try clear c22b1
         try clear c36
         try clear c36b0
         try clear c36b1
         try clear c37
         try clear c37b0
         try clear c37b1
         try clear c37b2
         try clear c40
         try clear hcz10_0
         try clear hcz10_1
         try clear hcz24_0
         try clear hcz24_1
         try clear hcz30_0
         try clear hcz30_1
         try clear hfz10_0
         try clear hfz10_1
         try clear hfz24_0
         try clear hfz24_1
         try clear hfz30_0
         try clear hfz30_1
         try clear p2
         obtain ⟨x78_3, rfl, HA, HK3, HO_7, HO_9, HO_76, BK671, HB⟩ := hrel
         cases gk with
         | zero => exact absurd HA.out (by simp [spilelaw51_LiabilityReached.l0])
         | succ k3 =>
          have H := HA.out
          clear HA
          simp only [spilelaw51_LiabilityReached.l0] at H
          by_cases c42 : x78_3 < (t682.length : Int)
          ·rw [if_pos c42] at H
           have c42b0 : decide (x78_3 < (t682.length : Int)) = true := decide_eq_true c42
           clear c42
           by_cases c43 : 0 ≤ x78_3
           ·rw [if_pos c43] at H
            have c43b0 : decide (0 ≤ x78_3) = true := decide_eq_true c43
            clear c43
            by_cases c44 : x78_3 < (t682.length : Int)
            ·rw [if_pos c44] at H
             have c44b0 : decide (x78_3 < (t682.length : Int)) = true := decide_eq_true c44
             clear c44
             replace H := Option.bind_eq_some_iff.mp H
             obtain ⟨⟨t700, t701⟩, A450, H⟩ := H
             replace H : (if x78_3 < (l1.length : Int) then ((liability_Causes.f k3 t700 t701 ((rd_T35 l1 x78_3).f0) ((rd_T35 l1 x78_3).f1) ((rd_T35 l1 x78_3).f2) ((rd_T35 l1 x78_3).f3) ((rd_T35 l1 x78_3).f4) ((rd_T51 t682 x78_3).f0) ((rd_T51 t682 x78_3).f1) ((rd_T51 t682 x78_3).f2) ((rd_T51 t682 x78_3).f3) a2).bind fun bt705 => (if bt705.2 = 0 then (if x78_3 < (t693.length : Int) then (if bt705.1 = (rd t693 x78_3) then ((liability_Fits.f k3 ((rd_T35 l1 x78_3).f0) ((rd_T35 l1 x78_3).f1) ((rd_T35 l1 x78_3).f2) ((rd_T35 l1 x78_3).f3) ((rd_T35 l1 x78_3).f4) ((rd_T51 t682 x78_3).f0) ((rd_T51 t682 x78_3).f1) ((rd_T51 t682 x78_3).f2) ((rd_T51 t682 x78_3).f3) a2).bind fun t709 => (spilelaw51_LiabilityReached.j3 k3 l1 a2 t682 t693 t696 t682 (t682.length : Int) x78_3 (!t709) a0_0 l0_1)) else (none)) else (none)) else (none))) else (none)) = some r := H
             have A45 := Aside0.mk A450
             clear A450
             by_cases c46 : x78_3 < (l1.length : Int)
             ·rw [if_pos c46] at H
              have c46b0 : decide (x78_3 < (l1.length : Int)) = true := decide_eq_true c46
              clear c46
              replace H := Option.bind_eq_some_iff.mp H
              obtain ⟨⟨t705, t706⟩, A470, H⟩ := H
              replace H : (if t706 = 0 then (if x78_3 < (t693.length : Int) then (if t705 = (rd t693 x78_3) then ((liability_Fits.f k3 ((rd_T35 l1 x78_3).f0) ((rd_T35 l1 x78_3).f1) ((rd_T35 l1 x78_3).f2) ((rd_T35 l1 x78_3).f3) ((rd_T35 l1 x78_3).f4) ((rd_T51 t682 x78_3).f0) ((rd_T51 t682 x78_3).f1) ((rd_T51 t682 x78_3).f2) ((rd_T51 t682 x78_3).f3) a2).bind fun t709 => (spilelaw51_LiabilityReached.j3 k3 l1 a2 t682 t693 t696 t682 (t682.length : Int) x78_3 (!t709) a0_0 l0_1)) else (none)) else (none)) else (none)) = some r := H
              have A47 := Aside0.mk A470
              clear A470
              have HC48 := Aside0.mk H
              clear H
              have p698 : 0 ≤ (x78_3 : Int) := of_decide_eq_true (by first | (with_reducible assumption) | assumption)
              have q698 : x78_3 < (t682.length : Int) := of_decide_eq_true (by first | (with_reducible assumption) | assumption)
              obtain ⟨ad698, e698, hx698_0, hx698_1, hx698_2, hx698_3⟩ := at_T51 (Kd.R_reads' HO_76.out).2.2 x78_3 p698 q698
              cases e698
              replace p698 := eq_true p698
              replace q698 := eq_true q698
              try go_wp2_with (first | ((with_reducible refine gqD (N := 13) rfl ?_); (try (refine gate_guard (by rfl) ?_; dsimp only)); refine GS.bx (N := 13) (cs := #[.int .i64 0, .int .i64 0, .int .i64 0, .int .i64 0]) (t := 51) ?_; intro gb699 hg w49 hbox hb; have n0_ := Aside0.mk (Kd.R_below (Kd.R_elderB (GS.rR HO_7.out) gb699 (Nat.le_of_eq hg.symm)) hb); have n1_ := Aside0.mk (Kd.R_below (GS.rR HO_9.out) hb); have n2_ := Aside0.mk (Kd.R_below (Kd.R_elderB (GS.rR HO_76.out) gb699 (Nat.le_of_eq hg.symm)) hb); have n3_ := Aside0.mk (bqB (GS.bqX BK671.out) hb); have n4_ := Aside0.mk (lqT (GS.lB HB.out) hb); have n5_ := Aside0.mk (hbox); have n6_ := Aside0.mk ((by rw [hg]; exact (lqZ (GS.lB HB.out)) : w.heap.size ≤ gb699)); have n7_ := Aside0.mk ((by rw [hg]; exact (lqZ (GS.lB HB.out)) : w.heap.size ≤ gb699)); have n8_ := Aside0.mk ((by rw [hg]; exact Nat.ne_of_lt (blk_lt (GS.bqX BK671.out)) : gb671 ≠ gb699)); have n9_ := Aside0.mk ((by rw [hg]; exact Nat.ne_of_gt (blk_lt (GS.bqX BK671.out)) : gb699 ≠ gb671)); clear HO_7; clear HO_9; clear HO_76; clear BK671; clear HB; have HO_7 := n0_; have HO_9 := n1_; have HO_76 := n2_; have BK671 := n3_; have HB := n4_; have BK699 := n5_; have GW699 := n6_; have GE699 := n7_; have NB671_699 := n8_; have NB699_671 := n9_; clear n0_ n1_ n2_ n3_ n4_ n5_ n6_ n7_ n8_ n9_; clear hb hbox hg; have hnb50 := NB699_671.out; have hnc50 := NB671_699.out; obtain ⟨hcz51_0, hcz51_1, hcz51_2, hcz51_3, hfz51_0, hfz51_1, hfz51_2, hfz51_3⟩ := GS.c4 BK699.out))
              have n0_ : Aside0 (Kd.R k51 51 ((((w49.setCell ⟨gb699, 0, none⟩ (.int .i64 ((rd_T51 t682 x78_3).f0))).setCell ⟨gb699, 1, none⟩ (.int .i64 ((rd_T51 t682 x78_3).f1))).setCell ⟨gb699, 2, none⟩ (.int .i64 ((rd_T51 t682 x78_3).f2))).setCell ⟨gb699, 3, none⟩ (.int .i64 ((rd_T51 t682 x78_3).f3))) w.heap.size (fun k_ => k_ ≠ gb699) (.slice (some ad698) t682.length co41) t682) := ⟨by (with_reducible repeat (first | apply Kd.R_alloc | apply Kd.R_drewN | apply Kd.R_drew)); exact Kd.R_mono (Kd.R_far (p := ⟨gb699, 3, none⟩) (Kd.R_far (p := ⟨gb699, 2, none⟩) (Kd.R_far (p := ⟨gb699, 1, none⟩) (Kd.R_far (p := ⟨gb699, 0, none⟩) (Kd.R_mono HO_7.out (fun k_ hk => (⟨hk, GS.cj hk⟩ : _ ∧ k_ ≠ gb699))) (fun _ hk => hk.2) (.int .i64 ((rd_T51 t682 x78_3).f0))) (fun _ hk => hk.2) (.int .i64 ((rd_T51 t682 x78_3).f1))) (fun _ hk => hk.2) (.int .i64 ((rd_T51 t682 x78_3).f2))) (fun _ hk => hk.2) (.int .i64 ((rd_T51 t682 x78_3).f3))) (fun _ hk => GS.cj hk)⟩
              have n1_ : Aside0 (Kd.R (Kd.int .i64) 3 ((((w49.setCell ⟨gb699, 0, none⟩ (.int .i64 ((rd_T51 t682 x78_3).f0))).setCell ⟨gb699, 1, none⟩ (.int .i64 ((rd_T51 t682 x78_3).f1))).setCell ⟨gb699, 2, none⟩ (.int .i64 ((rd_T51 t682 x78_3).f2))).setCell ⟨gb699, 3, none⟩ (.int .i64 ((rd_T51 t682 x78_3).f3))) w.heap.size (fun _ => True) v694 t693) := ⟨by (with_reducible repeat (first | apply Kd.R_alloc | apply Kd.R_drewN | apply Kd.R_drew)); exact Kd.R_mono (Kd.R_far (p := ⟨gb699, 3, none⟩) (Kd.R_far (p := ⟨gb699, 2, none⟩) (Kd.R_far (p := ⟨gb699, 1, none⟩) (Kd.R_far (p := ⟨gb699, 0, none⟩) (Kd.R_types HO_9.out BK699.out (by decide)) (fun _ hk => hk.2) (.int .i64 ((rd_T51 t682 x78_3).f0))) (fun _ hk => hk.2) (.int .i64 ((rd_T51 t682 x78_3).f1))) (fun _ hk => hk.2) (.int .i64 ((rd_T51 t682 x78_3).f2))) (fun _ hk => hk.2) (.int .i64 ((rd_T51 t682 x78_3).f3))) (fun _ hk => trivial)⟩
              have n2_ : Aside0 (Kd.R k51 51 ((((w49.setCell ⟨gb699, 0, none⟩ (.int .i64 ((rd_T51 t682 x78_3).f0))).setCell ⟨gb699, 1, none⟩ (.int .i64 ((rd_T51 t682 x78_3).f1))).setCell ⟨gb699, 2, none⟩ (.int .i64 ((rd_T51 t682 x78_3).f2))).setCell ⟨gb699, 3, none⟩ (.int .i64 ((rd_T51 t682 x78_3).f3))) w.heap.size (fun k_ => k_ ≠ gb699) (.slice (some ad698) t682.length co41) t682) := ⟨by (with_reducible repeat (first | apply Kd.R_alloc | apply Kd.R_drewN | apply Kd.R_drew)); exact Kd.R_mono (Kd.R_far (p := ⟨gb699, 3, none⟩) (Kd.R_far (p := ⟨gb699, 2, none⟩) (Kd.R_far (p := ⟨gb699, 1, none⟩) (Kd.R_far (p := ⟨gb699, 0, none⟩) (Kd.R_mono HO_76.out (fun k_ hk => (⟨hk, GS.cj hk⟩ : _ ∧ k_ ≠ gb699))) (fun _ hk => hk.2) (.int .i64 ((rd_T51 t682 x78_3).f0))) (fun _ hk => hk.2) (.int .i64 ((rd_T51 t682 x78_3).f1))) (fun _ hk => hk.2) (.int .i64 ((rd_T51 t682 x78_3).f2))) (fun _ hk => hk.2) (.int .i64 ((rd_T51 t682 x78_3).f3))) (fun _ hk => GS.cj hk)⟩
              have n3_ : Aside0 (((((w49.setCell ⟨gb699, 0, none⟩ (.int .i64 ((rd_T51 t682 x78_3).f0))).setCell ⟨gb699, 1, none⟩ (.int .i64 ((rd_T51 t682 x78_3).f1))).setCell ⟨gb699, 2, none⟩ (.int .i64 ((rd_T51 t682 x78_3).f2))).setCell ⟨gb699, 3, none⟩ (.int .i64 ((rd_T51 t682 x78_3).f3))).heap[gb671]? = some (.cells #[.int .i64 a0_0, .slice A0_1 l0_1.length c0_1] 24 (0, 0))) := ⟨GS.bqX BK671.out⟩
              have n4_ : Aside0 (((((w49.setCell ⟨gb699, 0, none⟩ (.int .i64 ((rd_T51 t682 x78_3).f0))).setCell ⟨gb699, 1, none⟩ (.int .i64 ((rd_T51 t682 x78_3).f1))).setCell ⟨gb699, 2, none⟩ (.int .i64 ((rd_T51 t682 x78_3).f2))).setCell ⟨gb699, 3, none⟩ (.int .i64 ((rd_T51 t682 x78_3).f3))).heap[gb699]? = some (.cells #[.int .i64 ((rd_T51 t682 x78_3).f0), .int .i64 ((rd_T51 t682 x78_3).f1), .int .i64 ((rd_T51 t682 x78_3).f2), .int .i64 ((rd_T51 t682 x78_3).f3)] 51 (0, 0))) := ⟨GS.bqZ BK699.out⟩
              have n5_ : Aside0 (Below w.heap.size w ((((w49.setCell ⟨gb699, 0, none⟩ (.int .i64 ((rd_T51 t682 x78_3).f0))).setCell ⟨gb699, 1, none⟩ (.int .i64 ((rd_T51 t682 x78_3).f1))).setCell ⟨gb699, 2, none⟩ (.int .i64 ((rd_T51 t682 x78_3).f2))).setCell ⟨gb699, 3, none⟩ (.int .i64 ((rd_T51 t682 x78_3).f3)))) := ⟨GS.lB HB.out⟩
              (try clear HO_7)
              (try clear HO_9)
              (try clear HO_76)
              (try clear BK671)
              (try clear BK699)
              (try clear HB)
              generalize ((((w49.setCell ⟨gb699, 0, none⟩ (.int .i64 ((rd_T51 t682 x78_3).f0))).setCell ⟨gb699, 1, none⟩ (.int .i64 ((rd_T51 t682 x78_3).f1))).setCell ⟨gb699, 2, none⟩ (.int .i64 ((rd_T51 t682 x78_3).f2))).setCell ⟨gb699, 3, none⟩ (.int .i64 ((rd_T51 t682 x78_3).f3))) = w52 at n0_ n1_ n2_ n3_ n4_ n5_ ⊢
              have HO_7 := n0_
              have HO_9 := n1_
              have HO_76 := n2_
              have BK671 := n3_
              have BK699 := n4_
              have HB := n5_
              clear n0_ n1_ n2_ n3_ n4_ n5_
              have n0_ := Aside0.mk (Kd.R_drew HO_7.out)
              have n1_ := Aside0.mk (Kd.R_drew HO_9.out)
              have n2_ := Aside0.mk (Kd.R_drew HO_76.out)
              have n3_ := Aside0.mk (bqD BK671.out)
              have n4_ := Aside0.mk (bqD BK699.out)
              have n5_ := Aside0.mk (lqD HB.out)
              clear HO_7
              clear HO_9
              clear HO_76
              clear BK671
              clear BK699
              clear HB
              have HO_7 := n0_
              have HO_9 := n1_
              have HO_76 := n2_
              have BK671 := n3_
              have BK699 := n4_
              have HB := n5_
              clear n0_ n1_ n2_ n3_ n4_ n5_
              have p704 : 0 ≤ (x78_3 : Int) := of_decide_eq_true (by first | (with_reducible assumption) | assumption)
              have q704 : x78_3 < (l1.length : Int) := of_decide_eq_true (by first | (with_reducible assumption) | assumption)
              obtain ⟨ad704, e704, hx704_0, hx704_1, hx704_2, hx704_3, hx704_4⟩ := at_T35 HR1.out x78_3 p704 q704
              have hw704_4 := hx704_4
              have hw704_3 := hx704_3
              have hw704_2 := hx704_2
              have hw704_1 := hx704_1
              have hw704_0 := hx704_0
              cases e704
              replace hx704_0 := (HB.out.cell (World.block_lt_of_cell? w _ hx704_0)).trans hx704_0
              replace hx704_1 := (HB.out.cell (World.block_lt_of_cell? w _ hx704_1)).trans hx704_1
              replace hx704_2 := (HB.out.cell (World.block_lt_of_cell? w _ hx704_2)).trans hx704_2
              replace hx704_3 := (HB.out.cell (World.block_lt_of_cell? w _ hx704_3)).trans hx704_3
              replace hx704_4 := (HB.out.cell (World.block_lt_of_cell? w _ hx704_4)).trans hx704_4
              replace p704 := eq_true p704
              replace q704 := eq_true q704
              refine start_ (n := 14) (S := fun w' => w'.cell? ⟨gb671, 0, none⟩ = some (.int .i64 a0_0) ∧ w'.cell? ⟨gb671, 1, none⟩ = some (.slice A0_1 l0_1.length c0_1) ∧ w'.cell? ⟨gb699, 0, none⟩ = some (.int .i64 ((rd_T51 t682 x78_3).f0)) ∧ w'.cell? ⟨gb699, 1, none⟩ = some (.int .i64 ((rd_T51 t682 x78_3).f1)) ∧ w'.cell? ⟨gb699, 2, none⟩ = some (.int .i64 ((rd_T51 t682 x78_3).f2)) ∧ w'.cell? ⟨gb699, 3, none⟩ = some (.int .i64 ((rd_T51 t682 x78_3).f3)) ∧ w'.cell? (ad704.add ((x78_3).toNat * 5)) = some (.int .i64 ((rd_T35 l1 x78_3).f0)) ∧ w'.cell? ⟨(ad704.add ((x78_3).toNat * 5)).block, (ad704.add ((x78_3).toNat * 5)).off + 1, none⟩ = some (.int .i64 ((rd_T35 l1 x78_3).f1)) ∧ w'.cell? ⟨(ad704.add ((x78_3).toNat * 5)).block, (ad704.add ((x78_3).toNat * 5)).off + 2, none⟩ = some (.int .i64 ((rd_T35 l1 x78_3).f2)) ∧ w'.cell? ⟨(ad704.add ((x78_3).toNat * 5)).block, (ad704.add ((x78_3).toNat * 5)).off + 3, none⟩ = some (.int .i64 ((rd_T35 l1 x78_3).f3)) ∧ w'.cell? ⟨(ad704.add ((x78_3).toNat * 5)).block, (ad704.add ((x78_3).toNat * 5)).off + 4, none⟩ = some (.int .i64 ((rd_T35 l1 x78_3).f4))) (ds := []) #[false, false, false, false, false, false, false, false, false, false, false, false, false, false] (by kernel_rfl) rfl rfl ⟨(bqC BK671.out 0).trans rfl, (bqC BK671.out 1).trans rfl, (bqC BK699.out 0).trans rfl, (bqC BK699.out 1).trans rfl, (bqC BK699.out 2).trans rfl, (bqC BK699.out 3).trans rfl, ((HB.out.cell (World.block_lt_of_cell? w _ hw704_0)).trans hw704_0), ((HB.out.cell (World.block_lt_of_cell? w _ hw704_1)).trans hw704_1), ((HB.out.cell (World.block_lt_of_cell? w _ hw704_2)).trans hw704_2), ((HB.out.cell (World.block_lt_of_cell? w _ hw704_3)).trans hw704_3), ((HB.out.cell (World.block_lt_of_cell? w _ hw704_4)).trans hw704_4)⟩ (fun hHeld => ?_); refine with_tabW spilelaw51_LiabilityReached.tab12 spilelaw51_LiabilityReached.bits12 (fun HT_ HW_ => ?_)
              generalize w52.drew = w53 at HO_7 HO_9 HO_76 BK671 BK699 HB hx704_0 hx704_1 hx704_2 hx704_3 hx704_4 hHeld ⊢
              refine pure_ (i := 2) (N := some 86) (v := ?_) (a' := ?_) #[false, false, true, false, false, false, false, false, false, false, false, false, false, false] rfl rfl (any_of HT_.out (by kernel_rfl)) (fun _ _ _ h => h) (Or.inl ⟨by rfl, ?_⟩) ?_ ?_
              rotate_left
              ·intro w'
               go_simp
               with_reducible rfl
              rotate_left
              ·simp only [Act.put, List.setIfInBounds_toArray, List.set_cons_zero, List.set_cons_succ, i64_w, i32_w]
               rfl
              refine pure_ (i := 3) (N := some 87) (v := ?_) (a' := ?_) #[false, false, true, true, false, false, false, false, false, false, false, false, false, false] rfl rfl (any_of HT_.out (by kernel_rfl)) (fun _ _ _ h => h) (Or.inl ⟨by rfl, ?_⟩) ?_ ?_
              rotate_left
              ·intro w'
               go_simp
               with_reducible rfl
              rotate_left
              ·simp only [Act.put, List.setIfInBounds_toArray, List.set_cons_zero, List.set_cons_succ, i64_w, i32_w]
               rfl
              refine pure_ (i := 4) (N := some 88) (v := ?_) (a' := ?_) #[false, false, true, true, true, false, false, false, false, false, false, false, false, false] rfl rfl (any_of HT_.out (by kernel_rfl)) (fun _ _ _ h => h) (Or.inl ⟨by rfl, ?_⟩) ?_ ?_
              rotate_left
              ·intro w'
               go_simp
               with_reducible rfl
              rotate_left
              ·simp only [Act.put, List.setIfInBounds_toArray, List.set_cons_zero, List.set_cons_succ, i64_w, i32_w]
               rfl
              refine pure_ (i := 7) (N := some 91) (v := ?_) (a' := ?_) #[false, false, true, true, true, false, false, true, false, false, false, false, false, false] rfl rfl (any_of HT_.out (by kernel_rfl)) (fun _ _ _ h => h) (Or.inl ⟨by rfl, ?_⟩) ?_ ?_
              rotate_left
              ·intro w'
               go_simp
               with_reducible rfl
              rotate_left
              ·simp only [Act.put, List.setIfInBounds_toArray, List.set_cons_zero, List.set_cons_succ, i64_w, i32_w]
               rfl
              refine take_ (i := 0) (N := some 84) (v := ?_) (a' := ?_) #[true, false, true, true, true, false, false, true, false, false, false, false, false, false] rfl rfl (take_ofW HT_.out HW_.out (by kernel_rfl)) (fun _ _ _ h => h) (Or.inl ⟨by rfl, ?_⟩) hHeld ?_ ?_
              rotate_left
              ·rintro w' ⟨s0, s1, s2, s3, s4, s5, s6, s7, s8, s9, s10⟩
               go_simp
               with_reducible rfl
              rotate_left
              ·simp only [Act.put, List.setIfInBounds_toArray, List.set_cons_zero, List.set_cons_succ, i64_w, i32_w]
               rfl
              refine take_ (i := 5) (N := some 89) (v := ?_) (a' := ?_) #[true, false, true, true, true, true, false, true, false, false, false, false, false, false] rfl rfl (take_ofW HT_.out HW_.out (by kernel_rfl)) (fun _ _ _ h => h) (Or.inl ⟨by rfl, ?_⟩) hHeld ?_ ?_
              rotate_left
              ·rintro w' ⟨s0, s1, s2, s3, s4, s5, s6, s7, s8, s9, s10⟩
               go_simp
               with_reducible rfl
              rotate_left
              ·simp only [Act.put, List.setIfInBounds_toArray, List.set_cons_zero, List.set_cons_succ, i64_w, i32_w]
               rfl
              refine take_ (i := 6) (N := some 90) (v := ?_) (a' := ?_) #[true, false, true, true, true, true, true, true, false, false, false, false, false, false] rfl rfl (take_ofW HT_.out HW_.out (by kernel_rfl)) (fun _ _ _ h => h) (Or.inl ⟨by rfl, ?_⟩) hHeld ?_ ?_
              rotate_left
              ·rintro w' ⟨s0, s1, s2, s3, s4, s5, s6, s7, s8, s9, s10⟩
               go_simp
               with_reducible rfl
              rotate_left
              ·simp only [Act.put, List.setIfInBounds_toArray, List.set_cons_zero, List.set_cons_succ, i64_w, i32_w]
               rfl
              refine one_ (i := 1) (N := some 85) #[true, true, true, true, true, true, true, true, false, false, false, false, false, false] rfl rfl (one_of HT_.out (by kernel_rfl)) (by decide) (fun K hK => ?_)
              refine goes_ Try.func12 (by kernel_rfl) rfl #[.agg #[.int .i64 a0_0, .slice A0_1 l0_1.length c0_1]] (by rfl) rfl rfl (by (try simp only [List.map_toArray, List.map_cons, List.map_nil]); first | done | rfl | (simp only [List.length_drop, List.length_take]; rfl)) ?_
              with_reducible refine (spilelaw51_ct.calls a0_0 _ _ l0_1 t700 t701 _ ?side1 ?side2 A45.out).mono ?_
              (case side1 => exact GS.rC (Kd.C_below HR0_1.out HB.out))
              (case side2 => exact HC0_1.out)
              rintro e w54 ⟨v702, rfl, ho0, hb⟩
              refine ⟨_, rfl, ?_⟩
              have n0_ := Aside0.mk (Kd.R_below (GS.rR HO_7.out) hb)
              have n1_ := Aside0.mk (Kd.R_below (GS.rR HO_9.out) hb)
              have n2_ := Aside0.mk (Kd.R_below (GS.rR HO_76.out) hb)
              have n3_ := Aside0.mk (Kd.R_lower ho0 (lqZ (GS.lB HB.out)))
              have n4_ := Aside0.mk (bqB (GS.bqX BK671.out) hb)
              have n5_ := Aside0.mk (bqB (GS.bqX BK699.out) hb)
              have n6_ := Aside0.mk (lqT (GS.lB HB.out) hb)
              clear HO_7
              clear HO_9
              clear HO_76
              clear BK671
              clear BK699
              clear HB
              have HO_7 := n0_
              have HO_9 := n1_
              have HO_76 := n2_
              have HO703 := n3_
              have BK671 := n4_
              have BK699 := n5_
              have HB := n6_
              clear n0_ n1_ n2_ n3_ n4_ n5_ n6_
              (try clear hb)
              (try clear hb2)
              (try clear hk)
              (try clear hi)
              (try clear ho0)
              obtain ⟨Ao55, co55, eo55⟩ := Kd.R_slice HO703.out
              (first | subst eo55 | (injection eo55 with f1_ f2_ f3_; have f4_ := f1_.symm; have f5_ := f3_.symm; clear f1_ f2_ f3_; subst f4_; subst f5_))
              refine hK.out _ _ ⟨(bqC BK671.out 0).trans rfl, (bqC BK671.out 1).trans rfl, (bqC BK699.out 0).trans rfl, (bqC BK699.out 1).trans rfl, (bqC BK699.out 2).trans rfl, (bqC BK699.out 3).trans rfl, ((HB.out.cell (World.block_lt_of_cell? w _ hw704_0)).trans hw704_0), ((HB.out.cell (World.block_lt_of_cell? w _ hw704_1)).trans hw704_1), ((HB.out.cell (World.block_lt_of_cell? w _ hw704_2)).trans hw704_2), ((HB.out.cell (World.block_lt_of_cell? w _ hw704_3)).trans hw704_3), ((HB.out.cell (World.block_lt_of_cell? w _ hw704_4)).trans hw704_4)⟩ (fun hHeld => ?_)
              clear hK K
              refine norm_ (a' := ?_) ?_ ?_
              rotate_left
              ·show Act.put _ (some 85) _ = _
               simp only [Act.put, List.setIfInBounds_toArray, List.set_cons_zero, List.set_cons_succ, i64_w, i32_w]
               rfl
              refine one_ (i := 8) (N := some 92) #[true, true, true, true, true, true, true, true, true, false, false, false, false, false] rfl rfl (one_of HT_.out (by kernel_rfl)) (by decide) (fun K hK => ?_)
              refine goes_ Try.func25 (by kernel_rfl) rfl #[.agg #[.int .i64 t700, .slice Ao55 t701.length co55], .agg #[.int .i64 ((rd_T35 l1 x78_3).f0), .int .i64 ((rd_T35 l1 x78_3).f1), .int .i64 ((rd_T35 l1 x78_3).f2), .int .i64 ((rd_T35 l1 x78_3).f3), .int .i64 ((rd_T35 l1 x78_3).f4)], .agg #[.int .i64 ((rd_T51 t682 x78_3).f0), .int .i64 ((rd_T51 t682 x78_3).f1), .int .i64 ((rd_T51 t682 x78_3).f2), .int .i64 ((rd_T51 t682 x78_3).f3)], .int .i64 a2] (by rfl) rfl rfl (by (try simp only [List.map_toArray, List.map_cons, List.map_nil]); first | done | rfl | (simp only [List.length_drop, List.length_take]; rfl)) ?_
              with_reducible refine (liability_Causes.calls k3 t700 _ _ t701 ((rd_T35 l1 x78_3).f0) ((rd_T35 l1 x78_3).f1) ((rd_T35 l1 x78_3).f2) ((rd_T35 l1 x78_3).f3) ((rd_T35 l1 x78_3).f4) ((rd_T51 t682 x78_3).f0) ((rd_T51 t682 x78_3).f1) ((rd_T51 t682 x78_3).f2) ((rd_T51 t682 x78_3).f3) a2 t705 t706 _ ?side1 ?side2 A47.out).mono ?_
              (case side1 => repeat (first | exact (Kd.R_reads' HO703.out).2.2 | (with_reducible refine Kd.C_alloc ?_ _) | (with_reducible refine Kd.C_drewN ?_ _) | (with_reducible refine Kd.C_drew ?_)))
              (case side2 => exact (Kd.R_reads' HO703.out).2.1)
              rintro e w56 ⟨rfl, hb⟩
              refine ⟨_, rfl, ?_⟩
              have n0_ := Aside0.mk (Kd.R_below (GS.rR HO_7.out) hb)
              have n1_ := Aside0.mk (Kd.R_below (GS.rR HO_9.out) hb)
              have n2_ := Aside0.mk (Kd.R_below (GS.rR HO_76.out) hb)
              have n3_ := Aside0.mk (Kd.R_below (GS.rR HO703.out) hb)
              have n4_ := Aside0.mk (bqB (GS.bqX BK671.out) hb)
              have n5_ := Aside0.mk (bqB (GS.bqX BK699.out) hb)
              have n6_ := Aside0.mk (lqT (GS.lB HB.out) hb)
              clear HO_7
              clear HO_9
              clear HO_76
              clear HO703
              clear BK671
              clear BK699
              clear HB
              have HO_7 := n0_
              have HO_9 := n1_
              have HO_76 := n2_
              have HO703 := n3_
              have BK671 := n4_
              have BK699 := n5_
              have HB := n6_
              clear n0_ n1_ n2_ n3_ n4_ n5_ n6_
              (try clear hb)
              (try clear hb2)
              (try clear hk)
              (try clear hi)
              refine hK.out _ _ ⟨(bqC BK671.out 0).trans rfl, (bqC BK671.out 1).trans rfl, (bqC BK699.out 0).trans rfl, (bqC BK699.out 1).trans rfl, (bqC BK699.out 2).trans rfl, (bqC BK699.out 3).trans rfl, ((HB.out.cell (World.block_lt_of_cell? w _ hw704_0)).trans hw704_0), ((HB.out.cell (World.block_lt_of_cell? w _ hw704_1)).trans hw704_1), ((HB.out.cell (World.block_lt_of_cell? w _ hw704_2)).trans hw704_2), ((HB.out.cell (World.block_lt_of_cell? w _ hw704_3)).trans hw704_3), ((HB.out.cell (World.block_lt_of_cell? w _ hw704_4)).trans hw704_4)⟩ (fun hHeld => ?_)
              clear hK K
              refine norm_ (a' := ?_) ?_ ?_
              rotate_left
              ·show Act.put _ (some 92) _ = _
               simp only [Act.put, List.setIfInBounds_toArray, List.set_cons_zero, List.set_cons_succ, i64_w, i32_w]
               rfl
              refine pure_ (i := 9) (N := some 83) (v := ?_) (a' := ?_) #[true, true, true, true, true, true, true, true, true, true, false, false, false, false] rfl rfl (any_of HT_.out (by kernel_rfl)) (fun _ _ _ h => h) (Or.inl ⟨by rfl, ?_⟩) ?_ ?_
              rotate_left
              ·intro w'
               go_simp
               with_reducible rfl
              rotate_left
              ·simp only [Act.put, List.setIfInBounds_toArray, List.set_cons_zero, List.set_cons_succ, i64_w, i32_w]
               rfl
              refine pure_ (i := 10) (N := some 93) (v := ?_) (a' := ?_) #[true, true, true, true, true, true, true, true, true, true, true, false, false, false] rfl rfl (any_of HT_.out (by kernel_rfl)) (fun _ _ _ h => h) (Or.inl ⟨by rfl, ?_⟩) ?_ ?_
              rotate_left
              ·intro w'
               go_simp
               with_reducible rfl
              rotate_left
              ·simp only [Act.put, List.setIfInBounds_toArray, List.set_cons_zero, List.set_cons_succ, i64_w, i32_w]
               rfl
              refine pure_ (i := 11) (N := some 94) (v := ?_) (a' := ?_) #[true, true, true, true, true, true, true, true, true, true, true, true, false, false] rfl rfl (any_of HT_.out (by kernel_rfl)) (fun _ _ _ h => h) (Or.inl ⟨by rfl, ?_⟩) ?_ ?_
              rotate_left
              ·intro w'
               go_simp
               with_reducible rfl
              rotate_left
              ·simp only [Act.put, List.setIfInBounds_toArray, List.set_cons_zero, List.set_cons_succ, i64_w, i32_w]
               rfl
              refine pure_ (i := 12) (N := some 14) (v := ?_) (a' := ?_) #[true, true, true, true, true, true, true, true, true, true, true, true, true, false] rfl rfl (any_of HT_.out (by kernel_rfl)) (fun _ _ _ h => h) (Or.inl ⟨by rfl, ?_⟩) ?_ ?_
              rotate_left
              ·intro w'
               go_simp
               with_reducible rfl
              rotate_left
              ·simp only [Act.put, List.setIfInBounds_toArray, List.set_cons_zero, List.set_cons_succ, i64_w, i32_w]
               rfl
              refine pure_ (i := 13) (N := some 15) (v := ?_) (a' := ?_) #[true, true, true, true, true, true, true, true, true, true, true, true, true, true] rfl rfl (any_of HT_.out (by kernel_rfl)) (fun _ _ _ h => h) (Or.inl ⟨by rfl, ?_⟩) ?_ ?_
              rotate_left
              ·intro w'
               go_simp
               with_reducible rfl
              rotate_left
              ·simp only [Act.put, List.setIfInBounds_toArray, List.set_cons_zero, List.set_cons_succ, i64_w, i32_w]
               rfl
              refine done_ (done_of HT_.out (by kernel_rfl)) ?_
              go_upto_region 13 with (fail)
              go_cut [114] (fun v114 wc => ∃ (kq : Nat) (x114_47 : Bool), v114 = .bool x114_47 ∧ Aside0 (spilelaw51_LiabilityReached.j3 kq l1 a2 t682 t693 t696 t682 (t682.length : Int) x78_3 x114_47 a0_0 l0_1 = some r) ∧ Aside0 (kq ≤ k3) ∧ Aside0 (Kd.R k51 51 wc w.heap.size (fun k_ => k_ ≠ gb699) (.slice (some ad698) t682.length co41) t682) ∧ Aside0 (Kd.R (Kd.int .i64) 3 wc w.heap.size (fun _ => True) v694 t693) ∧ Aside0 (Kd.R k51 51 wc w.heap.size (fun k_ => k_ ≠ gb699) (.slice (some ad698) t682.length co41) t682) ∧ Aside0 (wc.heap[gb671]? = some (.cells #[.int .i64 a0_0, (.slice A0_1 l0_1.length c0_1)] 24 (0, 0))) ∧ Aside0 (wc.heap[gb699]? = some (.cells #[.int .i64 ((rd_T51 t682 x78_3).f0), .int .i64 ((rd_T51 t682 x78_3).f1), .int .i64 ((rd_T51 t682 x78_3).f2), .int .i64 ((rd_T51 t682 x78_3).f3)] 51 (0, 0))) ∧ Aside0 (Below w.heap.size w wc))
              case first =>
               have H := HC48.out
               clear HC48
               by_cases c57 : t706 = 0
               ·rw [if_pos c57] at H
                have c57b0 : (t706 == 0) = true := beq_iff_eq.mpr c57
                try simp only [beq_self_eq_true, Bool.not_true, Bool.false_or, Bool.true_and] at c57b0
                have c57b1 : (t706 != 0) = false := bne_eq_false_iff_eq.mpr c57
                clear c57
                (first | rw [c57b0] | (simp only [i64_w, i32_w]; rw [c57b0]) | skip)
                by_cases c58 : x78_3 < (t693.length : Int)
                ·rw [if_pos c58] at H
                 have c58b0 : decide (x78_3 < (t693.length : Int)) = true := decide_eq_true c58
                 clear c58
                 by_cases c59 : t705 = (rd t693 x78_3)
                 ·rw [if_pos c59] at H
                  have c59b0 : (t705 == (rd t693 x78_3)) = true := beq_iff_eq.mpr c59
                  try simp only [beq_self_eq_true, Bool.not_true, Bool.false_or, Bool.true_and] at c59b0
                  have c59b1 : (t705 != (rd t693 x78_3)) = false := bne_eq_false_iff_eq.mpr c59
                  clear c59
                  replace H := Option.bind_eq_some_iff.mp H
                  obtain ⟨t709, A600, H⟩ := H
                  replace H : (spilelaw51_LiabilityReached.j3 k3 l1 a2 t682 t693 t696 t682 (t682.length : Int) x78_3 (!t709) a0_0 l0_1) = some r := H
                  have A60 := Aside0.mk A600
                  clear A600
                  have H' := Aside0.mk H
                  clear H
                  try go_wp2
                  have n0_ := Aside0.mk (Kd.R_drew HO_7.out)
                  have n1_ := Aside0.mk (Kd.R_drew HO_9.out)
                  have n2_ := Aside0.mk (Kd.R_drew HO_76.out)
                  have n3_ := Aside0.mk (Kd.R_drew HO703.out)
                  have n4_ := Aside0.mk (bqD BK671.out)
                  have n5_ := Aside0.mk (bqD BK699.out)
                  have n6_ := Aside0.mk (lqD HB.out)
                  clear HO_7
                  clear HO_9
                  clear HO_76
                  clear HO703
                  clear BK671
                  clear BK699
                  clear HB
                  have HO_7 := n0_
                  have HO_9 := n1_
                  have HO_76 := n2_
                  have HO703 := n3_
                  have BK671 := n4_
                  have BK699 := n5_
                  have HB := n6_
                  clear n0_ n1_ n2_ n3_ n4_ n5_ n6_
                  obtain ⟨Ao62, co62, eo62⟩ := Kd.R_slice HO_9.out
                  (first | subst eo62 | (injection eo62 with f1_ f2_ f3_; have f4_ := f1_.symm; have f5_ := f3_.symm; clear f1_ f2_ f3_; subst f4_; subst f5_))
                  have p707 : 0 ≤ (x78_3 : Int) := of_decide_eq_true (by first | (with_reducible assumption) | assumption)
                  have q707 : x78_3 < (t693.length : Int) := of_decide_eq_true (by first | (with_reducible assumption) | assumption)
                  obtain ⟨ad707, e707, hx707_0⟩ := Kd.at_int (Kd.R_reads' HO_9.out).2.2 x78_3 p707 q707
                  cases e707
                  replace p707 := eq_true p707
                  replace q707 := eq_true q707
                  have p708 : 0 ≤ (x78_3 : Int) := of_decide_eq_true (by first | (with_reducible assumption) | assumption)
                  have q708 : x78_3 < (l1.length : Int) := of_decide_eq_true (by first | (with_reducible assumption) | assumption)
                  obtain ⟨ad708, e708, hx708_0, hx708_1, hx708_2, hx708_3, hx708_4⟩ := at_T35 HR1.out x78_3 p708 q708
                  have hw708_4 := hx708_4
                  have hw708_3 := hx708_3
                  have hw708_2 := hx708_2
                  have hw708_1 := hx708_1
                  have hw708_0 := hx708_0
                  obtain rfl : ad704 = ad708 := (by injection e708)
                  replace hx708_0 := (HB.out.cell (World.block_lt_of_cell? w _ hx708_0)).trans hx708_0
                  replace hx708_1 := (HB.out.cell (World.block_lt_of_cell? w _ hx708_1)).trans hx708_1
                  replace hx708_2 := (HB.out.cell (World.block_lt_of_cell? w _ hx708_2)).trans hx708_2
                  replace hx708_3 := (HB.out.cell (World.block_lt_of_cell? w _ hx708_3)).trans hx708_3
                  replace hx708_4 := (HB.out.cell (World.block_lt_of_cell? w _ hx708_4)).trans hx708_4
                  replace p708 := eq_true p708
                  replace q708 := eq_true q708
                  refine start_ (n := 20) (S := fun w' => w'.cell? ⟨gb699, 0, none⟩ = some (.int .i64 ((rd_T51 t682 x78_3).f0)) ∧ w'.cell? ⟨gb699, 1, none⟩ = some (.int .i64 ((rd_T51 t682 x78_3).f1)) ∧ w'.cell? ⟨gb699, 2, none⟩ = some (.int .i64 ((rd_T51 t682 x78_3).f2)) ∧ w'.cell? ⟨gb699, 3, none⟩ = some (.int .i64 ((rd_T51 t682 x78_3).f3)) ∧ w'.cell? (ad707.add (x78_3).toNat) = some (.int .i64 (rd t693 x78_3)) ∧ w'.cell? (ad704.add ((x78_3).toNat * 5)) = some (.int .i64 ((rd_T35 l1 x78_3).f0)) ∧ w'.cell? ⟨(ad704.add ((x78_3).toNat * 5)).block, (ad704.add ((x78_3).toNat * 5)).off + 1, none⟩ = some (.int .i64 ((rd_T35 l1 x78_3).f1)) ∧ w'.cell? ⟨(ad704.add ((x78_3).toNat * 5)).block, (ad704.add ((x78_3).toNat * 5)).off + 2, none⟩ = some (.int .i64 ((rd_T35 l1 x78_3).f2)) ∧ w'.cell? ⟨(ad704.add ((x78_3).toNat * 5)).block, (ad704.add ((x78_3).toNat * 5)).off + 3, none⟩ = some (.int .i64 ((rd_T35 l1 x78_3).f3)) ∧ w'.cell? ⟨(ad704.add ((x78_3).toNat * 5)).block, (ad704.add ((x78_3).toNat * 5)).off + 4, none⟩ = some (.int .i64 ((rd_T35 l1 x78_3).f4))) (ds := []) #[false, false, false, false, false, false, false, false, false, false, false, false, false, false, false, false, false, false, false, false] (by kernel_rfl) rfl rfl ⟨(bqC BK699.out 0).trans rfl, (bqC BK699.out 1).trans rfl, (bqC BK699.out 2).trans rfl, (bqC BK699.out 3).trans rfl, hx707_0, ((HB.out.cell (World.block_lt_of_cell? w _ hw708_0)).trans hw708_0), ((HB.out.cell (World.block_lt_of_cell? w _ hw708_1)).trans hw708_1), ((HB.out.cell (World.block_lt_of_cell? w _ hw708_2)).trans hw708_2), ((HB.out.cell (World.block_lt_of_cell? w _ hw708_3)).trans hw708_3), ((HB.out.cell (World.block_lt_of_cell? w _ hw708_4)).trans hw708_4)⟩ (fun hHeld => ?_); refine with_tabW spilelaw51_LiabilityReached.tab13 spilelaw51_LiabilityReached.bits13 (fun HT_ HW_ => ?_)
                  generalize w56.drew = w61 at HO_7 HO_9 HO_76 HO703 BK671 BK699 HB hx707_0 hx708_0 hx708_1 hx708_2 hx708_3 hx708_4 hHeld ⊢
                  refine pure_ (i := 0) (N := some 95) (v := ?_) (a' := ?_) #[true, false, false, false, false, false, false, false, false, false, false, false, false, false, false, false, false, false, false, false] rfl rfl (any_of HT_.out (by kernel_rfl)) (fun _ _ _ h => h) (Or.inl ⟨by rfl, ?_⟩) ?_ ?_
                  rotate_left
                  ·intro w'
                   go_simp
                   with_reducible rfl
                  rotate_left
                  ·simp only [Act.put, List.setIfInBounds_toArray, List.set_cons_zero, List.set_cons_succ, i64_w, i32_w]
                   rfl
                  refine pure_ (i := 1) (N := some 96) (v := ?_) (a' := ?_) #[true, true, false, false, false, false, false, false, false, false, false, false, false, false, false, false, false, false, false, false] rfl rfl (any_of HT_.out (by kernel_rfl)) (fun _ _ _ h => h) (Or.inl ⟨by rfl, ?_⟩) ?_ ?_
                  rotate_left
                  ·intro w'
                   go_simp
                   with_reducible rfl
                  rotate_left
                  ·simp only [Act.put, List.setIfInBounds_toArray, List.set_cons_zero, List.set_cons_succ, i64_w, i32_w]
                   rfl
                  refine pure_ (i := 2) (N := some 97) (v := ?_) (a' := ?_) #[true, true, true, false, false, false, false, false, false, false, false, false, false, false, false, false, false, false, false, false] rfl rfl (any_of HT_.out (by kernel_rfl)) (fun _ _ _ h => h) (Or.inl ⟨by rfl, ?_⟩) ?_ ?_
                  rotate_left
                  ·intro w'
                   go_simp
                   with_reducible rfl
                  rotate_left
                  ·simp only [Act.put, List.setIfInBounds_toArray, List.set_cons_zero, List.set_cons_succ, i64_w, i32_w]
                   rfl
                  refine pure_ (i := 3) (N := some 98) (v := ?_) (a' := ?_) #[true, true, true, true, false, false, false, false, false, false, false, false, false, false, false, false, false, false, false, false] rfl rfl (any_of HT_.out (by kernel_rfl)) (fun _ _ _ h => h) (Or.inl ⟨by rfl, ?_⟩) ?_ ?_
                  rotate_left
                  ·intro w'
                   go_simp
                   with_reducible rfl
                  rotate_left
                  ·simp only [Act.put, List.setIfInBounds_toArray, List.set_cons_zero, List.set_cons_succ, i64_w, i32_w]
                   rfl
                  refine pure_ (i := 4) (N := some 99) (v := ?_) (a' := ?_) #[true, true, true, true, true, false, false, false, false, false, false, false, false, false, false, false, false, false, false, false] rfl rfl (any_of HT_.out (by kernel_rfl)) (fun _ _ _ h => h) (Or.inl ⟨by rfl, ?_⟩) ?_ ?_
                  rotate_left
                  ·intro w'
                   go_simp
                   with_reducible rfl
                  rotate_left
                  ·simp only [Act.put, List.setIfInBounds_toArray, List.set_cons_zero, List.set_cons_succ, i64_w, i32_w]
                   rfl
                  refine pure_ (i := 5) (N := some 100) (v := ?_) (a' := ?_) #[true, true, true, true, true, true, false, false, false, false, false, false, false, false, false, false, false, false, false, false] rfl rfl (any_of HT_.out (by kernel_rfl)) (fun _ _ _ h => h) (Or.inl ⟨by rfl, ?_⟩) ?_ ?_
                  rotate_left
                  ·intro w'
                   go_simp
                   with_reducible rfl
                  rotate_left
                  ·simp only [Act.put, List.setIfInBounds_toArray, List.set_cons_zero, List.set_cons_succ, i64_w, i32_w]
                   rfl
                  refine pure_ (i := 6) (N := some 101) (v := ?_) (a' := ?_) #[true, true, true, true, true, true, true, false, false, false, false, false, false, false, false, false, false, false, false, false] rfl rfl (any_of HT_.out (by kernel_rfl)) (fun _ _ _ h => h) (Or.inl ⟨by rfl, ?_⟩) ?_ ?_
                  rotate_left
                  ·intro w'
                   go_simp
                   with_reducible rfl
                  rotate_left
                  ·simp only [Act.put, List.setIfInBounds_toArray, List.set_cons_zero, List.set_cons_succ, i64_w, i32_w]
                   rfl
                  refine take_ (i := 7) (N := some 102) (v := ?_) (a' := ?_) #[true, true, true, true, true, true, true, true, false, false, false, false, false, false, false, false, false, false, false, false] rfl rfl (take_ofW HT_.out HW_.out (by kernel_rfl)) (fun _ _ _ h => h) (Or.inl ⟨by rfl, ?_⟩) hHeld ?_ ?_
                  rotate_left
                  ·rintro w' ⟨s0, s1, s2, s3, s4, s5, s6, s7, s8, s9⟩
                   go_simp
                   with_reducible rfl
                  rotate_left
                  ·simp only [Act.put, List.setIfInBounds_toArray, List.set_cons_zero, List.set_cons_succ, i64_w, i32_w]
                   rfl
                  refine pure_ (i := 8) (N := some 103) (v := ?_) (a' := ?_) #[true, true, true, true, true, true, true, true, true, false, false, false, false, false, false, false, false, false, false, false] rfl rfl (any_of HT_.out (by kernel_rfl)) (fun _ _ _ h => h) (Or.inl ⟨by rfl, ?_⟩) ?_ ?_
                  rotate_left
                  ·intro w'
                   go_simp
                   with_reducible rfl
                  rotate_left
                  ·simp only [Act.put, List.setIfInBounds_toArray, List.set_cons_zero, List.set_cons_succ, i64_w, i32_w]
                   rfl
                  refine pure_ (i := 9) (N := some 104) (v := ?_) (a' := ?_) #[true, true, true, true, true, true, true, true, true, true, false, false, false, false, false, false, false, false, false, false] rfl rfl (any_of HT_.out (by kernel_rfl)) (fun _ _ _ h => h) (Or.inl ⟨by rfl, ?_⟩) ?_ ?_
                  rotate_left
                  ·intro w'
                   go_simp
                   with_reducible rfl
                  rotate_left
                  ·simp only [Act.put, List.setIfInBounds_toArray, List.set_cons_zero, List.set_cons_succ, i64_w, i32_w]
                   rfl
                  refine pure_ (i := 10) (N := some 105) (v := ?_) (a' := ?_) #[true, true, true, true, true, true, true, true, true, true, true, false, false, false, false, false, false, false, false, false] rfl rfl (any_of HT_.out (by kernel_rfl)) (fun _ _ _ h => h) (Or.inl ⟨by rfl, ?_⟩) ?_ ?_
                  rotate_left
                  ·intro w'
                   go_simp
                   with_reducible rfl
                  rotate_left
                  ·simp only [Act.put, List.setIfInBounds_toArray, List.set_cons_zero, List.set_cons_succ, i64_w, i32_w]
                   rfl
                  refine pure_ (i := 11) (N := some 106) (v := ?_) (a' := ?_) #[true, true, true, true, true, true, true, true, true, true, true, true, false, false, false, false, false, false, false, false] rfl rfl (any_of HT_.out (by kernel_rfl)) (fun _ _ _ h => h) (Or.inl ⟨by rfl, ?_⟩) ?_ ?_
                  rotate_left
                  ·intro w'
                   go_simp
                   with_reducible rfl
                  rotate_left
                  ·simp only [Act.put, List.setIfInBounds_toArray, List.set_cons_zero, List.set_cons_succ, i64_w, i32_w]
                   rfl
                  refine pure_ (i := 12) (N := some 107) (v := ?_) (a' := ?_) #[true, true, true, true, true, true, true, true, true, true, true, true, true, false, false, false, false, false, false, false] rfl rfl (any_of HT_.out (by kernel_rfl)) (fun _ _ _ h => h) (Or.inl ⟨by rfl, ?_⟩) ?_ ?_
                  rotate_left
                  ·intro w'
                   go_simp
                   with_reducible rfl
                  rotate_left
                  ·simp only [Act.put, List.setIfInBounds_toArray, List.set_cons_zero, List.set_cons_succ, i64_w, i32_w]
                   rfl
                  refine pure_ (i := 13) (N := some 108) (v := ?_) (a' := ?_) #[true, true, true, true, true, true, true, true, true, true, true, true, true, true, false, false, false, false, false, false] rfl rfl (any_of HT_.out (by kernel_rfl)) (fun _ _ _ h => h) (Or.inl ⟨by rfl, ?_⟩) ?_ ?_
                  rotate_left
                  ·intro w'
                   go_simp
                   with_reducible rfl
                  rotate_left
                  ·simp only [Act.put, List.setIfInBounds_toArray, List.set_cons_zero, List.set_cons_succ, i64_w, i32_w]
                   rfl
                  refine pure_ (i := 16) (N := some 111) (v := ?_) (a' := ?_) #[true, true, true, true, true, true, true, true, true, true, true, true, true, true, false, false, true, false, false, false] rfl rfl (any_of HT_.out (by kernel_rfl)) (fun _ _ _ h => h) (Or.inl ⟨by rfl, ?_⟩) ?_ ?_
                  rotate_left
                  ·intro w'
                   go_simp
                   with_reducible rfl
                  rotate_left
                  ·simp only [Act.put, List.setIfInBounds_toArray, List.set_cons_zero, List.set_cons_succ, i64_w, i32_w]
                   rfl
                  refine take_ (i := 14) (N := some 109) (v := ?_) (a' := ?_) #[true, true, true, true, true, true, true, true, true, true, true, true, true, true, true, false, true, false, false, false] rfl rfl (take_ofW HT_.out HW_.out (by kernel_rfl)) (fun _ _ _ h => h) (Or.inl ⟨by rfl, ?_⟩) hHeld ?_ ?_
                  rotate_left
                  ·rintro w' ⟨s0, s1, s2, s3, s4, s5, s6, s7, s8, s9⟩
                   go_simp
                   with_reducible rfl
                  rotate_left
                  ·simp only [Act.put, List.setIfInBounds_toArray, List.set_cons_zero, List.set_cons_succ, i64_w, i32_w]
                   rfl
                  refine take_ (i := 15) (N := some 110) (v := ?_) (a' := ?_) #[true, true, true, true, true, true, true, true, true, true, true, true, true, true, true, true, true, false, false, false] rfl rfl (take_ofW HT_.out HW_.out (by kernel_rfl)) (fun _ _ _ h => h) (Or.inl ⟨by rfl, ?_⟩) hHeld ?_ ?_
                  rotate_left
                  ·rintro w' ⟨s0, s1, s2, s3, s4, s5, s6, s7, s8, s9⟩
                   go_simp
                   with_reducible rfl
                  rotate_left
                  ·simp only [Act.put, List.setIfInBounds_toArray, List.set_cons_zero, List.set_cons_succ, i64_w, i32_w]
                   rfl
                  refine one_ (i := 17) (N := some 112) #[true, true, true, true, true, true, true, true, true, true, true, true, true, true, true, true, true, true, false, false] rfl rfl (one_of HT_.out (by kernel_rfl)) (by decide) (fun K hK => ?_)
                  refine goes_ Try.func26 (by kernel_rfl) rfl #[.agg #[.int .i64 ((rd_T35 l1 x78_3).f0), .int .i64 ((rd_T35 l1 x78_3).f1), .int .i64 ((rd_T35 l1 x78_3).f2), .int .i64 ((rd_T35 l1 x78_3).f3), .int .i64 ((rd_T35 l1 x78_3).f4)], .agg #[.int .i64 ((rd_T51 t682 x78_3).f0), .int .i64 ((rd_T51 t682 x78_3).f1), .int .i64 ((rd_T51 t682 x78_3).f2), .int .i64 ((rd_T51 t682 x78_3).f3)], .int .i64 a2] (by rfl) rfl rfl (by (try simp only [List.map_toArray, List.map_cons, List.map_nil]); first | done | rfl | (simp only [List.length_drop, List.length_take]; rfl)) ?_
                  with_reducible refine (liability_Fits.calls k3 ((rd_T35 l1 x78_3).f0) ((rd_T35 l1 x78_3).f1) ((rd_T35 l1 x78_3).f2) ((rd_T35 l1 x78_3).f3) ((rd_T35 l1 x78_3).f4) ((rd_T51 t682 x78_3).f0) ((rd_T51 t682 x78_3).f1) ((rd_T51 t682 x78_3).f2) ((rd_T51 t682 x78_3).f3) a2 t709 _ A60.out).mono ?_
                  rintro e w63 ⟨rfl, hb⟩
                  have HS4_ := (hb.cell (World.block_lt_of_cell? _ _ (hHeld.2.2.2.2.1))).trans (hHeld.2.2.2.2.1)
                  refine ⟨_, rfl, ?_⟩
                  have n0_ := Aside0.mk (Kd.R_below (GS.rR HO_7.out) hb)
                  have n1_ := Aside0.mk (Kd.R_below (GS.rR HO_9.out) hb)
                  have n2_ := Aside0.mk (Kd.R_below (GS.rR HO_76.out) hb)
                  have n3_ := Aside0.mk (Kd.R_below (GS.rR HO703.out) hb)
                  have n4_ := Aside0.mk (bqB (GS.bqX BK671.out) hb)
                  have n5_ := Aside0.mk (bqB (GS.bqX BK699.out) hb)
                  have n6_ := Aside0.mk (lqT (GS.lB HB.out) hb)
                  clear HO_7
                  clear HO_9
                  clear HO_76
                  clear HO703
                  clear BK671
                  clear BK699
                  clear HB
                  have HO_7 := n0_
                  have HO_9 := n1_
                  have HO_76 := n2_
                  have HO703 := n3_
                  have BK671 := n4_
                  have BK699 := n5_
                  have HB := n6_
                  clear n0_ n1_ n2_ n3_ n4_ n5_ n6_
                  (try clear hb)
                  (try clear hb2)
                  (try clear hk)
                  (try clear hi)
                  refine hK.out _ _ ⟨(bqC BK699.out 0).trans rfl, (bqC BK699.out 1).trans rfl, (bqC BK699.out 2).trans rfl, (bqC BK699.out 3).trans rfl, HS4_, ((HB.out.cell (World.block_lt_of_cell? w _ hw708_0)).trans hw708_0), ((HB.out.cell (World.block_lt_of_cell? w _ hw708_1)).trans hw708_1), ((HB.out.cell (World.block_lt_of_cell? w _ hw708_2)).trans hw708_2), ((HB.out.cell (World.block_lt_of_cell? w _ hw708_3)).trans hw708_3), ((HB.out.cell (World.block_lt_of_cell? w _ hw708_4)).trans hw708_4)⟩ (fun hHeld => ?_)
                  clear hK K
                  refine norm_ (a' := ?_) ?_ ?_
                  rotate_left
                  ·show Act.put _ (some 112) _ = _
                   simp only [Act.put, List.setIfInBounds_toArray, List.set_cons_zero, List.set_cons_succ, i64_w, i32_w]
                   rfl
                  refine pure_ (i := 18) (N := some 113) (v := ?_) (a' := ?_) #[true, true, true, true, true, true, true, true, true, true, true, true, true, true, true, true, true, true, true, false] rfl rfl (any_of HT_.out (by kernel_rfl)) (fun _ _ _ h => h) (Or.inl ⟨by rfl, ?_⟩) ?_ ?_
                  rotate_left
                  ·intro w'
                   go_simp
                   with_reducible rfl
                  rotate_left
                  ·simp only [Act.put, List.setIfInBounds_toArray, List.set_cons_zero, List.set_cons_succ, i64_w, i32_w]
                   rfl
                  refine pure_ (i := 19) (N := some 114) (v := ?_) (a' := ?_) #[true, true, true, true, true, true, true, true, true, true, true, true, true, true, true, true, true, true, true, true] rfl rfl (any_of HT_.out (by kernel_rfl)) (fun _ _ _ h => h) (Or.inl ⟨by rfl, ?_⟩) ?_ ?_
                  rotate_left
                  ·intro w'
                   go_simp
                   with_reducible rfl
                  rotate_left
                  ·simp only [Act.put, List.setIfInBounds_toArray, List.set_cons_zero, List.set_cons_succ, i64_w, i32_w]
                   rfl
                  refine done_ (done_of HT_.out (by kernel_rfl)) ?_
                  try go_wp2
                  go_meet
                  case rel => exact ⟨_, (!t709), (by first | rfl | (simp; done) | (simp [*]; done)), H', ⟨by have := HJ3.out; have := HJ22.out; have := HK3.out; first | omega | exact Nat.le_refl _⟩, ⟨by (with_reducible repeat (first | apply Kd.R_alloc | apply Kd.R_drewN | apply Kd.R_drew)); exact HO_7.out⟩, ⟨by (with_reducible repeat (first | apply Kd.R_alloc | apply Kd.R_drewN | apply Kd.R_drew)); exact HO_9.out⟩, ⟨by (with_reducible repeat (first | apply Kd.R_alloc | apply Kd.R_drewN | apply Kd.R_drew)); exact HO_76.out⟩, ⟨GS.bqX BK671.out⟩, ⟨GS.bqX BK699.out⟩, ⟨GS.lB HB.out⟩⟩
                 ·rw [if_neg c59] at H
                  exact absurd H (by simp)
                ·rw [if_neg c58] at H
                 exact absurd H (by simp)
               ·rw [if_neg c57] at H
                exact absurd H (by simp)
              case rest =>
               clear HC48
               try clear c1
               try clear c2
               try clear p2
               try clear c3
               try clear c4
               try clear c5
               try clear c6
               try clear p6
               try clear q6
               try clear hx6
               try clear c7
               try clear p7
               try clear q7
               try clear hx7
               try clear c9
               try clear c11
               try clear c12
               try clear c13
               try clear c19
               try clear c22
               try clear c22b0
               try clear c22b1
               try clear c25
               try clear c26
               try clear c36
               try clear c36b0
               try clear c36b1
               try clear c37
               try clear c37b0
               try clear c37b1
               try clear c37b2
               try clear c40
               try clear c42
               try clear c42b0
               try clear c43
               try clear c43b0
               try clear c44
               try clear c44b0
               try clear c46
               try clear c46b0
               try clear c50
               try clear c57
               try clear c57b0
               try clear c57b1
               try clear c58
               try clear c58b0
               try clear c59
               try clear c59b0
               try clear c59b1
               try clear hcz10_0
               try clear hcz10_1
               try clear hcz24_0
               try clear hcz24_1
               try clear hcz30_0
               try clear hcz30_1
               try clear hcz51_0
               try clear hcz51_1
               try clear hcz51_2
               try clear hcz51_3
               try clear hfz10_0
               try clear hfz10_1
               try clear hfz24_0
               try clear hfz24_1
               try clear hfz30_0
               try clear hfz30_1
               try clear hfz51_0
               try clear hfz51_1
               try clear hfz51_2
               try clear hfz51_3
               try clear hx698_0
               try clear hx698_1
               try clear hx698_2
               try clear hx698_3
               try clear hx704_0
               try clear hx704_1
               try clear hx704_2
               try clear hx704_3
               try clear hx704_4
               try clear hx707_0
               try clear hx708_0
               try clear hx708_1
               try clear hx708_2
               try clear hx708_3
               try clear hx708_4
               try clear p2
               try clear p698
               try clear p704
               try clear p707
               try clear p708
               try clear q698
               try clear q704
               try clear q707
               try clear q708
               obtain ⟨kq, x114_47, rfl, HA, HJ47, HO_7, HO_9, HO_76, BK671, BK699, HB⟩ := hcut
               cases kq with
               | zero => exact absurd HA.out (by simp [spilelaw51_LiabilityReached.j3])
               | succ kj47 =>
                have H := HA.out
                clear HA
                simp only [spilelaw51_LiabilityReached.j3] at H
                by_cases c64 : x114_47 = true
                ·subst c64
                 have H1 : (none) = some r := by rw [if_pos rfl] at H; exact H
                 clear H
                 have H := H1
                 clear H1
                 exact absurd H (by simp)
                ·replace c64 := Bool.eq_false_iff.mpr c64
                 subst c64
                 have H1 : (spilelaw51_LiabilityReached.l0 kj47 l1 a2 t682 t693 t696 t682 (t682.length : Int) (wrap64 (x78_3 + 1)) a0_0 l0_1) = some r := by rw [if_neg (show ¬ (false = true) by decide)] at H; exact H
                 clear H
                 have H := H1
                 clear H1
                 have H' := Aside0.mk H
                 clear H
                 go_wp2
                 go_roundg kj47
                 case measure => have := HJ3.out; have := HJ22.out; have := HK3.out; have := HJ47.out; omega
                 case rel => exact ⟨(wrap64 (x78_3 + 1)), (by first | rfl | (simp; done) | (simp [*]; done)), H', ⟨by have := HJ3.out; have := HJ22.out; have := HK3.out; have := HJ47.out; omega⟩, ⟨by (with_reducible repeat (first | apply Kd.R_alloc | apply Kd.R_drewN | apply Kd.R_drew)); exact Kd.R_mono HO_7.out (fun _ hk => trivial)⟩, ⟨by (with_reducible repeat (first | apply Kd.R_alloc | apply Kd.R_drewN | apply Kd.R_drew)); exact HO_9.out⟩, ⟨by (with_reducible repeat (first | apply Kd.R_alloc | apply Kd.R_drewN | apply Kd.R_drew)); exact Kd.R_mono HO_76.out (fun _ hk => trivial)⟩, ⟨GS.bqX BK671.out⟩, ⟨GS.lB HB.out⟩⟩
             ·rw [if_neg c46] at H
              exact absurd H (by simp)
            ·rw [if_neg c44] at H
             exact absurd H (by simp)
           ·rw [if_neg c43] at H
            exact absurd H (by simp)
          ·rw [if_neg c42] at H
           have c42b0 : decide (x78_3 < (t682.length : Int)) = false := decide_eq_false c42
           clear c42
           replace H := Option.bind_eq_some_iff.mp H
           obtain ⟨⟨t710, t711⟩, A650, H⟩ := H
           replace H : ((clone13.f l1).bind fun t714 => ((liability_Sum.f k3 t710 t711 t714 t682 a2).bind fun bt717 => (if bt717.2 = 0 then (some (bt717.1 == t696)) else (none)))) = some r := H
           have A65 := Aside0.mk A650
           clear A650
           replace H := Option.bind_eq_some_iff.mp H
           obtain ⟨t714, A660, H⟩ := H
           replace H : ((liability_Sum.f k3 t710 t711 t714 t682 a2).bind fun bt717 => (if bt717.2 = 0 then (some (bt717.1 == t696)) else (none))) = some r := H
           have A66 := Aside0.mk A660
           clear A660
           replace H := Option.bind_eq_some_iff.mp H
           obtain ⟨⟨t717, t718⟩, A670, H⟩ := H
           replace H : (if t718 = 0 then (some (t717 == t696)) else (none)) = some r := H
           have A67 := Aside0.mk A670
           clear A670
           by_cases c68 : t718 = 0
           ·rw [if_pos c68] at H
            have c68b0 : (t718 == 0) = true := beq_iff_eq.mpr c68
            try simp only [beq_self_eq_true, Bool.not_true, Bool.false_or, Bool.true_and] at c68b0
            have c68b1 : (t718 != 0) = false := bne_eq_false_iff_eq.mpr c68
            clear c68
            obtain rfl := Option.some.inj H
            obtain ⟨hcz69_0, hcz69_1, hfz69_0, hfz69_1⟩ := GS.c2 BK671.out
            go_wp2_with (first | ((with_reducible refine gqC (f := 12) rfl ?_); refine GS.gL (some 118) Try.func12 #[.agg #[.int .i64 a0_0, .slice A0_1 l0_1.length c0_1]] ?_; (with_reducible refine (spilelaw51_ct.calls a0_0 _ _ l0_1 t710 t711 _ ?side1 ?side2 A65.out).mono ?_); (case side1 => exact GS.rC (Kd.C_below HR0_1.out HB.out)); (case side2 => exact HC0_1.out); rintro e w70 ⟨v712, rfl, ho0, hb⟩; refine ⟨_, rfl, ?_⟩; have n0_ := Aside0.mk (Kd.R_below (GS.rR HO_7.out) hb); have n1_ := Aside0.mk (Kd.R_below (GS.rR HO_9.out) hb); have n2_ := Aside0.mk (Kd.R_below (GS.rR HO_76.out) hb); have n3_ := Aside0.mk (Kd.R_lower ho0 (lqZ (GS.lB HB.out))); have n4_ := Aside0.mk (bqB (GS.bqX BK671.out) hb); have n5_ := Aside0.mk (lqT (GS.lB HB.out) hb); clear HO_7; clear HO_9; clear HO_76; clear BK671; clear HB; have HO_7 := n0_; have HO_9 := n1_; have HO_76 := n2_; have HO713 := n3_; have BK671 := n4_; have HB := n5_; clear n0_ n1_ n2_ n3_ n4_ n5_; (try clear hb); (try clear hb2); (try clear hk); (try clear hi); (try clear ho0)) | ((with_reducible refine gqC (f := 13) rfl ?_); refine GS.gL (some 120) Try.func13 #[.slice A1 l1.length c1] ?_; (with_reducible refine (clone13.calls _ _ l1 t714 _ ?side1 ?side2 A66.out).mono ?_); (case side1 => exact GS.rC (Kd.C_below HR1.out HB.out)); (case side2 => exact HC1.out); rintro e w71 ⟨v715, rfl, ho0, hb⟩; refine ⟨_, rfl, ?_⟩; have n0_ := Aside0.mk (Kd.R_below (GS.rR HO_7.out) hb); have n1_ := Aside0.mk (Kd.R_below (GS.rR HO_9.out) hb); have n2_ := Aside0.mk (Kd.R_below (GS.rR HO_76.out) hb); have n3_ := Aside0.mk (Kd.R_below (GS.rR HO713.out) hb); have n4_ := Aside0.mk (Kd.R_lower ho0 (lqZ (GS.lB HB.out))); have n5_ := Aside0.mk (bqB (GS.bqX BK671.out) hb); have n6_ := Aside0.mk (lqT (GS.lB HB.out) hb); clear HO_7; clear HO_9; clear HO_76; clear HO713; clear BK671; clear HB; have HO_7 := n0_; have HO_9 := n1_; have HO_76 := n2_; have HO713 := n3_; have HO716 := n4_; have BK671 := n5_; have HB := n6_; clear n0_ n1_ n2_ n3_ n4_ n5_ n6_; (try clear hb); (try clear hb2); (try clear hk); (try clear hi); (try clear ho0); obtain ⟨Ao72, co72, eo72⟩ := Kd.R_slice HO713.out; subst eo72; obtain ⟨Ao73, co73, eo73⟩ := Kd.R_slice HO716.out; subst eo73) | ((with_reducible refine gqC (f := 21) rfl ?_); refine GS.gL (some 123) Try.func21 #[.agg #[.int .i64 t710, .slice Ao72 t711.length co72], .slice Ao73 t714.length co73, .slice Ao41 t682.length co41, .int .i64 a2] ?_; (with_reducible refine (liability_Sum.calls k3 t710 _ _ t711 _ _ t714 _ _ t682 a2 t717 t718 _ ?side1 ?side2 ?side3 ?side4 ?side5 ?side6 A67.out).mono ?_); (case side1 => repeat (first | exact (Kd.R_reads' HO713.out).2.2 | (with_reducible refine Kd.C_alloc ?_ _) | (with_reducible refine Kd.C_drewN ?_ _) | (with_reducible refine Kd.C_drew ?_))); (case side2 => exact (Kd.R_reads' HO713.out).2.1); (case side3 => repeat (first | exact (Kd.R_reads' HO716.out).2.2 | (with_reducible refine Kd.C_alloc ?_ _) | (with_reducible refine Kd.C_drewN ?_ _) | (with_reducible refine Kd.C_drew ?_))); (case side4 => exact (Kd.R_reads' HO716.out).2.1); (case side5 => repeat (first | exact (Kd.R_reads' HO_7.out).2.2 | (with_reducible refine Kd.C_alloc ?_ _) | (with_reducible refine Kd.C_drewN ?_ _) | (with_reducible refine Kd.C_drew ?_))); (case side6 => exact (Kd.R_reads' HO_7.out).2.1); rintro e w74 ⟨rfl, hb⟩; refine ⟨_, rfl, ?_⟩; have n0_ := Aside0.mk (Kd.R_below (GS.rR HO_7.out) hb); have n1_ := Aside0.mk (Kd.R_below (GS.rR HO_9.out) hb); have n2_ := Aside0.mk (Kd.R_below (GS.rR HO_76.out) hb); have n3_ := Aside0.mk (Kd.R_below (GS.rR HO713.out) hb); have n4_ := Aside0.mk (Kd.R_below (GS.rR HO716.out) hb); have n5_ := Aside0.mk (bqB (GS.bqX BK671.out) hb); have n6_ := Aside0.mk (lqT (GS.lB HB.out) hb); clear HO_7; clear HO_9; clear HO_76; clear HO713; clear HO716; clear BK671; clear HB; have HO_7 := n0_; have HO_9 := n1_; have HO_76 := n2_; have HO713 := n3_; have HO716 := n4_; have BK671 := n5_; have HB := n6_; clear n0_ n1_ n2_ n3_ n4_ n5_ n6_; (try clear hb); (try clear hb2); (try clear hk); (try clear hi)))
            go_ret
            exact ⟨by first | rfl | (simp [errW_none, errW_some] <;> rfl) | (simp [*, errW_none, errW_some] <;> rfl), GS.lB HB.out⟩
           ·rw [if_neg c68] at H
            exact absurd H (by simp)
    ·rw [if_neg c22] at H
     have c22b0 : (t685 == 0) = false := beq_eq_false_iff_ne.mpr c22
     try simp only [beq_self_eq_true, Bool.not_true, Bool.false_or, Bool.true_and] at c22b0
     have c22b1 : (t685 != 0) = true := bne_iff_ne.mpr c22
     by_cases c75 : (t682.length : Int) = 0
     ·rw [if_pos c75] at H
      have c75b0 : ((t682.length : Int) == 0) = true := beq_iff_eq.mpr c75
      try simp only [beq_self_eq_true, Bool.not_true, Bool.false_or, Bool.true_and] at c75b0
      have c75b1 : ((t682.length : Int) != 0) = false := bne_eq_false_iff_eq.mpr c75
      clear c75
      by_cases c76 : t685 = t697
      ·rw [if_pos c76] at H
       have c76b0 : (t685 == t697) = true := beq_iff_eq.mpr c76
       try simp only [beq_self_eq_true, Bool.not_true, Bool.false_or, Bool.true_and] at c76b0
       have c76b1 : (t685 != t697) = false := bne_eq_false_iff_eq.mpr c76
       clear c76
       obtain rfl := Option.some.inj H
       obtain ⟨hcz77_0, hcz77_1, hfz77_0, hfz77_1⟩ := GS.c2 BK671.out
       go_wp2_with (first | ((with_reducible refine gqC (f := 12) rfl ?_); refine GS.gL (some 29) Try.func12 #[.agg #[.int .i64 a0_0, .slice A0_1 l0_1.length c0_1]] ?_; (with_reducible refine (spilelaw51_ct.calls a0_0 _ _ l0_1 t675 t676 _ ?side1 ?side2 A16.out).mono ?_); (case side1 => exact GS.rC (Kd.C_below HR0_1.out HB.out)); (case side2 => exact HC0_1.out); rintro e w78 ⟨v677, rfl, ho0, hb⟩; refine ⟨_, rfl, ?_⟩; have n0_ := Aside0.mk (Kd.R_lower ho0 (lqZ (GS.lB HB.out))); have n1_ := Aside0.mk (bqB (GS.bqX BK671.out) hb); have n2_ := Aside0.mk (lqT (GS.lB HB.out) hb); clear BK671; clear HB; have HO678 := n0_; have BK671 := n1_; have HB := n2_; clear n0_ n1_ n2_; (try clear hb); (try clear hb2); (try clear hk); (try clear hi); (try clear ho0)) | ((with_reducible refine gqC (f := 13) rfl ?_); refine GS.gL (some 31) Try.func13 #[.slice A1 l1.length c1] ?_; (with_reducible refine (clone13.calls _ _ l1 t679 _ ?side1 ?side2 A17.out).mono ?_); (case side1 => exact GS.rC (Kd.C_below HR1.out HB.out)); (case side2 => exact HC1.out); rintro e w79 ⟨v680, rfl, ho0, hb⟩; refine ⟨_, rfl, ?_⟩; have n0_ := Aside0.mk (Kd.R_below (GS.rR HO678.out) hb); have n1_ := Aside0.mk (Kd.R_lower ho0 (lqZ (GS.lB HB.out))); have n2_ := Aside0.mk (bqB (GS.bqX BK671.out) hb); have n3_ := Aside0.mk (lqT (GS.lB HB.out) hb); clear HO678; clear BK671; clear HB; have HO678 := n0_; have HO681 := n1_; have BK671 := n2_; have HB := n3_; clear n0_ n1_ n2_ n3_; (try clear hb); (try clear hb2); (try clear hk); (try clear hi); (try clear ho0); obtain ⟨Ao80, co80, eo80⟩ := Kd.R_slice HO678.out; subst eo80; obtain ⟨Ao81, co81, eo81⟩ := Kd.R_slice HO681.out; subst eo81) | ((with_reducible refine gqC (f := 19) rfl ?_); refine GS.gL (some 33) Try.func19 #[.agg #[.int .i64 t675, .slice Ao80 t676.length co80], .slice Ao81 t679.length co81, .int .i64 a2] ?_; (with_reducible refine (liability_Witness.calls kj3 t675 _ _ t676 _ _ t679 a2 t682 t685 _ ?side1 ?side2 ?side3 ?side4 A18.out).mono ?_); (case side1 => repeat (first | exact (Kd.R_reads' HO678.out).2.2 | (with_reducible refine Kd.C_alloc ?_ _) | (with_reducible refine Kd.C_drewN ?_ _) | (with_reducible refine Kd.C_drew ?_))); (case side2 => exact (Kd.R_reads' HO678.out).2.1); (case side3 => repeat (first | exact (Kd.R_reads' HO681.out).2.2 | (with_reducible refine Kd.C_alloc ?_ _) | (with_reducible refine Kd.C_drewN ?_ _) | (with_reducible refine Kd.C_drew ?_))); (case side4 => exact (Kd.R_reads' HO681.out).2.1); rintro e w82 ⟨v683, rfl, ho0, hb⟩; refine ⟨_, rfl, ?_⟩; have n0_ := Aside0.mk (Kd.R_below (GS.rR HO678.out) hb); have n1_ := Aside0.mk (Kd.R_below (GS.rR HO681.out) hb); have n2_ := Aside0.mk (Kd.R_lower ho0 (lqZ (GS.lB HB.out))); have n3_ := Aside0.mk (bqB (GS.bqX BK671.out) hb); have n4_ := Aside0.mk (lqT (GS.lB HB.out) hb); clear HO678; clear HO681; clear BK671; clear HB; have HO678 := n0_; have HO681 := n1_; have HO684 := n2_; have BK671 := n3_; have HB := n4_; clear n0_ n1_ n2_ n3_ n4_; (try clear hb); (try clear hb2); (try clear hk); (try clear hi); (try clear ho0); obtain ⟨hcz83_0, hcz83_1, hfz83_0, hfz83_1⟩ := GS.c2 BK671.out) | ((with_reducible refine gqC (f := 12) rfl ?_); refine GS.gL (some 38) Try.func12 #[.agg #[.int .i64 a0_0, .slice A0_1 l0_1.length c0_1]] ?_; (with_reducible refine (spilelaw51_ct.calls a0_0 _ _ l0_1 t686 t687 _ ?side1 ?side2 A19.out).mono ?_); (case side1 => exact GS.rC (Kd.C_below HR0_1.out HB.out)); (case side2 => exact HC0_1.out); rintro e w84 ⟨v688, rfl, ho0, hb⟩; refine ⟨_, rfl, ?_⟩; have n0_ := Aside0.mk (Kd.R_elder' (GS.rR HO678.out) (Kd.R_base ho0) hb); have n1_ := Aside0.mk (Kd.R_below (GS.rR HO681.out) hb); have n2_ := Aside0.mk (Kd.R_below (GS.rR HO684.out) hb); have n3_ := Aside0.mk (Kd.R_lower (Kd.R_new' ho0 (Kd.R_lt (GS.rR HO678.out))) (lqZ (GS.lB HB.out))); have n4_ := Aside0.mk (bqB (GS.bqX BK671.out) hb); have n5_ := Aside0.mk (lqT (GS.lB HB.out) hb); clear HO678; clear HO681; clear HO684; clear BK671; clear HB; have HO678 := n0_; have HO681 := n1_; have HO684 := n2_; have HO689 := n3_; have BK671 := n4_; have HB := n5_; clear n0_ n1_ n2_ n3_ n4_ n5_; (try clear hb); (try clear hb2); (try clear hk); (try clear hi); (try clear ho0)) | ((with_reducible refine gqC (f := 13) rfl ?_); refine GS.gL (some 40) Try.func13 #[.slice A1 l1.length c1] ?_; (with_reducible refine (clone13.calls _ _ l1 t690 _ ?side1 ?side2 A20.out).mono ?_); (case side1 => exact GS.rC (Kd.C_below HR1.out HB.out)); (case side2 => exact HC1.out); rintro e w85 ⟨v691, rfl, ho0, hb⟩; refine ⟨_, rfl, ?_⟩; have n0_ := Aside0.mk (Kd.R_below (GS.rR HO678.out) hb); have n1_ := Aside0.mk (Kd.R_elder' (GS.rR HO681.out) (Kd.R_base ho0) hb); have n2_ := Aside0.mk (Kd.R_below (GS.rR HO684.out) hb); have n3_ := Aside0.mk (Kd.R_below (GS.rR HO689.out) hb); have n4_ := Aside0.mk (Kd.R_lower (Kd.R_new' ho0 (Kd.R_lt (GS.rR HO681.out))) (lqZ (GS.lB HB.out))); have n5_ := Aside0.mk (bqB (GS.bqX BK671.out) hb); have n6_ := Aside0.mk (lqT (GS.lB HB.out) hb); clear HO678; clear HO681; clear HO684; clear HO689; clear BK671; clear HB; have HO678 := n0_; have HO681 := n1_; have HO684 := n2_; have HO689 := n3_; have HO692 := n4_; have BK671 := n5_; have HB := n6_; clear n0_ n1_ n2_ n3_ n4_ n5_ n6_; (try clear hb); (try clear hb2); (try clear hk); (try clear hi); (try clear ho0); obtain ⟨Ao86, co86, eo86⟩ := Kd.R_slice HO689.out; subst eo86; obtain ⟨Ao87, co87, eo87⟩ := Kd.R_slice HO692.out; subst eo87) | ((with_reducible refine gqC (f := 11) rfl ?_); refine GS.gL (some 42) Try.func11 #[.agg #[.int .i64 t686, .slice Ao86 t687.length co86], .slice Ao87 t690.length co87, .int .i64 a2] ?_; (with_reducible refine (liability_Greatest.calls kj3 t686 _ _ t687 _ _ t690 a2 t693 t696 t697 _ ?side1 ?side2 ?side3 ?side4 A21.out).mono ?_); (case side1 => repeat (first | exact (Kd.R_reads' HO689.out).2.2 | (with_reducible refine Kd.C_alloc ?_ _) | (with_reducible refine Kd.C_drewN ?_ _) | (with_reducible refine Kd.C_drew ?_))); (case side2 => exact (Kd.R_reads' HO689.out).2.1); (case side3 => repeat (first | exact (Kd.R_reads' HO692.out).2.2 | (with_reducible refine Kd.C_alloc ?_ _) | (with_reducible refine Kd.C_drewN ?_ _) | (with_reducible refine Kd.C_drew ?_))); (case side4 => exact (Kd.R_reads' HO692.out).2.1); rintro e w88 ⟨v694, rfl, ho0, hb⟩; refine ⟨_, rfl, ?_⟩; have n0_ := Aside0.mk (Kd.R_below (GS.rR HO678.out) hb); have n1_ := Aside0.mk (Kd.R_below (GS.rR HO681.out) hb); have n2_ := Aside0.mk (Kd.R_below (GS.rR HO684.out) hb); have n3_ := Aside0.mk (Kd.R_below (GS.rR HO689.out) hb); have n4_ := Aside0.mk (Kd.R_below (GS.rR HO692.out) hb); have n5_ := Aside0.mk (Kd.R_lower ho0 (lqZ (GS.lB HB.out))); have n6_ := Aside0.mk (bqB (GS.bqX BK671.out) hb); have n7_ := Aside0.mk (lqT (GS.lB HB.out) hb); clear HO678; clear HO681; clear HO684; clear HO689; clear HO692; clear BK671; clear HB; have HO678 := n0_; have HO681 := n1_; have HO684 := n2_; have HO689 := n3_; have HO692 := n4_; have HO695 := n5_; have BK671 := n6_; have HB := n7_; clear n0_ n1_ n2_ n3_ n4_ n5_ n6_ n7_; (try clear hb); (try clear hb2); (try clear hk); (try clear hi); (try clear ho0); obtain ⟨Ao89, co89, eo89⟩ := Kd.R_slice HO684.out; subst eo89))
       go_ret
       exact ⟨by first | rfl | (simp [errW_none, errW_some] <;> rfl) | (simp [*, errW_none, errW_some] <;> rfl), GS.lB HB.out⟩
      ·rw [if_neg c76] at H
       have c76b0 : (t685 == t697) = false := beq_eq_false_iff_ne.mpr c76
       try simp only [beq_self_eq_true, Bool.not_true, Bool.false_or, Bool.true_and] at c76b0
       have c76b1 : (t685 != t697) = true := bne_iff_ne.mpr c76
       obtain rfl := Option.some.inj H
       obtain ⟨hcz90_0, hcz90_1, hfz90_0, hfz90_1⟩ := GS.c2 BK671.out
       go_wp2_with (first | ((with_reducible refine gqC (f := 12) rfl ?_); refine GS.gL (some 29) Try.func12 #[.agg #[.int .i64 a0_0, .slice A0_1 l0_1.length c0_1]] ?_; (with_reducible refine (spilelaw51_ct.calls a0_0 _ _ l0_1 t675 t676 _ ?side1 ?side2 A16.out).mono ?_); (case side1 => exact GS.rC (Kd.C_below HR0_1.out HB.out)); (case side2 => exact HC0_1.out); rintro e w91 ⟨v677, rfl, ho0, hb⟩; refine ⟨_, rfl, ?_⟩; have n0_ := Aside0.mk (Kd.R_lower ho0 (lqZ (GS.lB HB.out))); have n1_ := Aside0.mk (bqB (GS.bqX BK671.out) hb); have n2_ := Aside0.mk (lqT (GS.lB HB.out) hb); clear BK671; clear HB; have HO678 := n0_; have BK671 := n1_; have HB := n2_; clear n0_ n1_ n2_; (try clear hb); (try clear hb2); (try clear hk); (try clear hi); (try clear ho0)) | ((with_reducible refine gqC (f := 13) rfl ?_); refine GS.gL (some 31) Try.func13 #[.slice A1 l1.length c1] ?_; (with_reducible refine (clone13.calls _ _ l1 t679 _ ?side1 ?side2 A17.out).mono ?_); (case side1 => exact GS.rC (Kd.C_below HR1.out HB.out)); (case side2 => exact HC1.out); rintro e w92 ⟨v680, rfl, ho0, hb⟩; refine ⟨_, rfl, ?_⟩; have n0_ := Aside0.mk (Kd.R_below (GS.rR HO678.out) hb); have n1_ := Aside0.mk (Kd.R_lower ho0 (lqZ (GS.lB HB.out))); have n2_ := Aside0.mk (bqB (GS.bqX BK671.out) hb); have n3_ := Aside0.mk (lqT (GS.lB HB.out) hb); clear HO678; clear BK671; clear HB; have HO678 := n0_; have HO681 := n1_; have BK671 := n2_; have HB := n3_; clear n0_ n1_ n2_ n3_; (try clear hb); (try clear hb2); (try clear hk); (try clear hi); (try clear ho0); obtain ⟨Ao93, co93, eo93⟩ := Kd.R_slice HO678.out; subst eo93; obtain ⟨Ao94, co94, eo94⟩ := Kd.R_slice HO681.out; subst eo94) | ((with_reducible refine gqC (f := 19) rfl ?_); refine GS.gL (some 33) Try.func19 #[.agg #[.int .i64 t675, .slice Ao93 t676.length co93], .slice Ao94 t679.length co94, .int .i64 a2] ?_; (with_reducible refine (liability_Witness.calls kj3 t675 _ _ t676 _ _ t679 a2 t682 t685 _ ?side1 ?side2 ?side3 ?side4 A18.out).mono ?_); (case side1 => repeat (first | exact (Kd.R_reads' HO678.out).2.2 | (with_reducible refine Kd.C_alloc ?_ _) | (with_reducible refine Kd.C_drewN ?_ _) | (with_reducible refine Kd.C_drew ?_))); (case side2 => exact (Kd.R_reads' HO678.out).2.1); (case side3 => repeat (first | exact (Kd.R_reads' HO681.out).2.2 | (with_reducible refine Kd.C_alloc ?_ _) | (with_reducible refine Kd.C_drewN ?_ _) | (with_reducible refine Kd.C_drew ?_))); (case side4 => exact (Kd.R_reads' HO681.out).2.1); rintro e w95 ⟨v683, rfl, ho0, hb⟩; refine ⟨_, rfl, ?_⟩; have n0_ := Aside0.mk (Kd.R_below (GS.rR HO678.out) hb); have n1_ := Aside0.mk (Kd.R_below (GS.rR HO681.out) hb); have n2_ := Aside0.mk (Kd.R_lower ho0 (lqZ (GS.lB HB.out))); have n3_ := Aside0.mk (bqB (GS.bqX BK671.out) hb); have n4_ := Aside0.mk (lqT (GS.lB HB.out) hb); clear HO678; clear HO681; clear BK671; clear HB; have HO678 := n0_; have HO681 := n1_; have HO684 := n2_; have BK671 := n3_; have HB := n4_; clear n0_ n1_ n2_ n3_ n4_; (try clear hb); (try clear hb2); (try clear hk); (try clear hi); (try clear ho0); obtain ⟨hcz96_0, hcz96_1, hfz96_0, hfz96_1⟩ := GS.c2 BK671.out) | ((with_reducible refine gqC (f := 12) rfl ?_); refine GS.gL (some 38) Try.func12 #[.agg #[.int .i64 a0_0, .slice A0_1 l0_1.length c0_1]] ?_; (with_reducible refine (spilelaw51_ct.calls a0_0 _ _ l0_1 t686 t687 _ ?side1 ?side2 A19.out).mono ?_); (case side1 => exact GS.rC (Kd.C_below HR0_1.out HB.out)); (case side2 => exact HC0_1.out); rintro e w97 ⟨v688, rfl, ho0, hb⟩; refine ⟨_, rfl, ?_⟩; have n0_ := Aside0.mk (Kd.R_elder' (GS.rR HO678.out) (Kd.R_base ho0) hb); have n1_ := Aside0.mk (Kd.R_below (GS.rR HO681.out) hb); have n2_ := Aside0.mk (Kd.R_below (GS.rR HO684.out) hb); have n3_ := Aside0.mk (Kd.R_lower (Kd.R_new' ho0 (Kd.R_lt (GS.rR HO678.out))) (lqZ (GS.lB HB.out))); have n4_ := Aside0.mk (bqB (GS.bqX BK671.out) hb); have n5_ := Aside0.mk (lqT (GS.lB HB.out) hb); clear HO678; clear HO681; clear HO684; clear BK671; clear HB; have HO678 := n0_; have HO681 := n1_; have HO684 := n2_; have HO689 := n3_; have BK671 := n4_; have HB := n5_; clear n0_ n1_ n2_ n3_ n4_ n5_; (try clear hb); (try clear hb2); (try clear hk); (try clear hi); (try clear ho0)) | ((with_reducible refine gqC (f := 13) rfl ?_); refine GS.gL (some 40) Try.func13 #[.slice A1 l1.length c1] ?_; (with_reducible refine (clone13.calls _ _ l1 t690 _ ?side1 ?side2 A20.out).mono ?_); (case side1 => exact GS.rC (Kd.C_below HR1.out HB.out)); (case side2 => exact HC1.out); rintro e w98 ⟨v691, rfl, ho0, hb⟩; refine ⟨_, rfl, ?_⟩; have n0_ := Aside0.mk (Kd.R_below (GS.rR HO678.out) hb); have n1_ := Aside0.mk (Kd.R_elder' (GS.rR HO681.out) (Kd.R_base ho0) hb); have n2_ := Aside0.mk (Kd.R_below (GS.rR HO684.out) hb); have n3_ := Aside0.mk (Kd.R_below (GS.rR HO689.out) hb); have n4_ := Aside0.mk (Kd.R_lower (Kd.R_new' ho0 (Kd.R_lt (GS.rR HO681.out))) (lqZ (GS.lB HB.out))); have n5_ := Aside0.mk (bqB (GS.bqX BK671.out) hb); have n6_ := Aside0.mk (lqT (GS.lB HB.out) hb); clear HO678; clear HO681; clear HO684; clear HO689; clear BK671; clear HB; have HO678 := n0_; have HO681 := n1_; have HO684 := n2_; have HO689 := n3_; have HO692 := n4_; have BK671 := n5_; have HB := n6_; clear n0_ n1_ n2_ n3_ n4_ n5_ n6_; (try clear hb); (try clear hb2); (try clear hk); (try clear hi); (try clear ho0); obtain ⟨Ao99, co99, eo99⟩ := Kd.R_slice HO689.out; subst eo99; obtain ⟨Ao100, co100, eo100⟩ := Kd.R_slice HO692.out; subst eo100) | ((with_reducible refine gqC (f := 11) rfl ?_); refine GS.gL (some 42) Try.func11 #[.agg #[.int .i64 t686, .slice Ao99 t687.length co99], .slice Ao100 t690.length co100, .int .i64 a2] ?_; (with_reducible refine (liability_Greatest.calls kj3 t686 _ _ t687 _ _ t690 a2 t693 t696 t697 _ ?side1 ?side2 ?side3 ?side4 A21.out).mono ?_); (case side1 => repeat (first | exact (Kd.R_reads' HO689.out).2.2 | (with_reducible refine Kd.C_alloc ?_ _) | (with_reducible refine Kd.C_drewN ?_ _) | (with_reducible refine Kd.C_drew ?_))); (case side2 => exact (Kd.R_reads' HO689.out).2.1); (case side3 => repeat (first | exact (Kd.R_reads' HO692.out).2.2 | (with_reducible refine Kd.C_alloc ?_ _) | (with_reducible refine Kd.C_drewN ?_ _) | (with_reducible refine Kd.C_drew ?_))); (case side4 => exact (Kd.R_reads' HO692.out).2.1); rintro e w101 ⟨v694, rfl, ho0, hb⟩; refine ⟨_, rfl, ?_⟩; have n0_ := Aside0.mk (Kd.R_below (GS.rR HO678.out) hb); have n1_ := Aside0.mk (Kd.R_below (GS.rR HO681.out) hb); have n2_ := Aside0.mk (Kd.R_below (GS.rR HO684.out) hb); have n3_ := Aside0.mk (Kd.R_below (GS.rR HO689.out) hb); have n4_ := Aside0.mk (Kd.R_below (GS.rR HO692.out) hb); have n5_ := Aside0.mk (Kd.R_lower ho0 (lqZ (GS.lB HB.out))); have n6_ := Aside0.mk (bqB (GS.bqX BK671.out) hb); have n7_ := Aside0.mk (lqT (GS.lB HB.out) hb); clear HO678; clear HO681; clear HO684; clear HO689; clear HO692; clear BK671; clear HB; have HO678 := n0_; have HO681 := n1_; have HO684 := n2_; have HO689 := n3_; have HO692 := n4_; have HO695 := n5_; have BK671 := n6_; have HB := n7_; clear n0_ n1_ n2_ n3_ n4_ n5_ n6_ n7_; (try clear hb); (try clear hb2); (try clear hk); (try clear hi); (try clear ho0); obtain ⟨Ao102, co102, eo102⟩ := Kd.R_slice HO684.out; subst eo102))
       go_ret
       exact ⟨by first | rfl | (simp [errW_none, errW_some] <;> rfl) | (simp [*, errW_none, errW_some] <;> rfl), GS.lB HB.out⟩
     ·rw [if_neg c75] at H
      exact absurd H (by simp)

end Go.Proofs.Ythboaobgipodiaa.K
