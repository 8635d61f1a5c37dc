-- PRINTED by print.py (a twelfth state) out of the translation. Not trusted: Lean checks it.
import Derived.Test.YthboaobgipodiaaK0
import Derived.Test.YthboaobgipodiaaGShort
import Derived.Test.YthboaobgipodiaaK7
import Derived.Test.YthboaobgipodiaaK16
import Derived.Test.YthboaobgipodiaaK17
import Derived.Test.YthboaobgipodiaaK18
import Derived.Test.YthboaobgipodiaaGClone
namespace Go.Proofs.Ythboaobgipodiaa.K
open Go.RowKit Go.Proofs.YthboaobgipodiaaW.PrintWords Go.Proofs.YthboaobgipodiaaW.PrintLast Go.Proofs.YthboaobgipodiaaW.PrintMore
attribute [local go_sem] max2_int min2_int max_two min_two max_three min_three max_four min_four   -- for this text's walks alone
set_option linter.unusedVariables false
set_option linter.unusedSimpArgs false

/-! ### spilelaw51_LiabilitySuffices: function 5 -/
mutual
def spilelaw51_LiabilitySuffices.j0 : Nat → List (S35) → List (S51) → Int → Bool → Int → List (S60) → Option (Bool)
 | 0, _, _, _, _, _, _ => none
 | k + 1, x1, x2, x3, x30, x634000, x634001 => if x30 = true then ((spilelaw51_awake.f k).bind fun t636 => (some t636)) else ((spilelaw51_ct.f x634000 x634001).bind fun bt637 => ((clone13.f x1).bind fun t641 => ((clone22.f x2).bind fun t644 => ((liability_Sum.f k bt637.1 bt637.2 t641 t644 x3).bind fun bt647 => (if bt647.2 = 0 then ((spilelaw51_ct.f x634000 x634001).bind fun bt649 => ((clone13.f x1).bind fun t653 => ((liability_Greatest.f k bt649.1 bt649.2 t653 x3).bind fun bt656 => (if bt656.2.2 = 0 then (if bt647.1 > bt656.2.1 then (none) else (if (bt656.1.length : Int) = (x1.length : Int) then (spilelaw51_LiabilitySuffices.j1 k x1 x2 x3 bt656.1 ((x2.length : Int) != (x1.length : Int)) x634000 x634001) else (none))) else (none))))) else (some (bt647.1 == 0)))))))
def spilelaw51_LiabilitySuffices.j1 : Nat → List (S35) → List (S51) → Int → List Int → Bool → Int → List (S60) → Option (Bool)
 | 0, _, _, _, _, _, _, _ => none
 | k + 1, x1, x2, x3, x11, x77, x634000, x634001 => if x77 = true then (none) else (spilelaw51_LiabilitySuffices.l0 k x1 x3 x11 x2 (x2.length : Int) 0 x634000 x634001)
def spilelaw51_LiabilitySuffices.l0 : Nat → List (S35) → Int → List Int → List (S51) → Int → Int → Int → List (S60) → Option (Bool)
 | 0, _, _, _, _, _, _, _, _ => none
 | k + 1, x1, x3, x11, x78, x79, x80, x634000, x634001 => if x80 < x79 then (if 0 ≤ x80 then (if x80 < (x78.length : Int) then ((spilelaw51_ct.f x634000 x634001).bind fun bt663 => (if x80 < (x1.length : Int) then ((liability_Causes.f k bt663.1 bt663.2 ((rd_T35 x1 x80).f0) ((rd_T35 x1 x80).f1) ((rd_T35 x1 x80).f2) ((rd_T35 x1 x80).f3) ((rd_T35 x1 x80).f4) ((rd_T51 x78 x80).f0) ((rd_T51 x78 x80).f1) ((rd_T51 x78 x80).f2) ((rd_T51 x78 x80).f3) x3).bind fun bt668 => (if bt668.2 = 0 then (if bt668.1 < 0 then (none) else (if x80 < (x11.length : Int) then (spilelaw51_LiabilitySuffices.j3 k x1 x3 x11 x78 x79 x80 (decide (bt668.1 > (rd x11 x80))) x634000 x634001) else (none))) else (none))) else (none))) else (none)) else (none)) else (some true)
def spilelaw51_LiabilitySuffices.j3 : Nat → List (S35) → Int → List Int → List (S51) → Int → Int → Bool → Int → List (S60) → Option (Bool)
 | 0, _, _, _, _, _, _, _, _, _ => none
 | k + 1, x1, x3, x11, x78, x79, x80, x110, x634000, x634001 => if x110 = true then (none) else (spilelaw51_LiabilitySuffices.l0 k x1 x3 x11 x78 x79 (wrap64 (x80 + 1)) x634000 x634001)
end
def spilelaw51_LiabilitySuffices.f (k : Nat) (a0_0 : Int) (l0_1 : List (S60)) (l1 : List (S35)) (l2 : List (S51)) (a3 : Int) : Option (Bool) := (spilelaw51_awake.f k).bind fun t634 => (if t634 = true then ((spilelaw51_few.f a0_0 l0_1 l1).bind fun t635 => (if t635 = true then (spilelaw51_LiabilitySuffices.j0 k l1 l2 a3 (decide ((l2.length : Int) > 12)) a0_0 l0_1) else (spilelaw51_LiabilitySuffices.j0 k l1 l2 a3 true a0_0 l0_1))) else (spilelaw51_LiabilitySuffices.j0 k l1 l2 a3 true a0_0 l0_1))
theorem spilelaw51_LiabilitySuffices.mono_l : ∀ k, (∀ y0 y1 y2 y3 y4 y5, LeO (spilelaw51_LiabilitySuffices.j0 k y0 y1 y2 y3 y4 y5) (spilelaw51_LiabilitySuffices.j0 (k + 1) y0 y1 y2 y3 y4 y5)) ∧ (∀ y0 y1 y2 y3 y4 y5 y6, LeO (spilelaw51_LiabilitySuffices.j1 k y0 y1 y2 y3 y4 y5 y6) (spilelaw51_LiabilitySuffices.j1 (k + 1) y0 y1 y2 y3 y4 y5 y6)) ∧ (∀ y0 y1 y2 y3 y4 y5 y6 y7, LeO (spilelaw51_LiabilitySuffices.l0 k y0 y1 y2 y3 y4 y5 y6 y7) (spilelaw51_LiabilitySuffices.l0 (k + 1) y0 y1 y2 y3 y4 y5 y6 y7)) ∧ (∀ y0 y1 y2 y3 y4 y5 y6 y7 y8, LeO (spilelaw51_LiabilitySuffices.j3 k y0 y1 y2 y3 y4 y5 y6 y7 y8) (spilelaw51_LiabilitySuffices.j3 (k + 1) y0 y1 y2 y3 y4 y5 y6 y7 y8))
 | 0 => ⟨fun _ _ _ _ _ _ r h => by simp [spilelaw51_LiabilitySuffices.j0] at h, fun _ _ _ _ _ _ _ r h => by simp [spilelaw51_LiabilitySuffices.j1] at h, fun _ _ _ _ _ _ _ _ r h => by simp [spilelaw51_LiabilitySuffices.l0] at h, fun _ _ _ _ _ _ _ _ _ r h => by simp [spilelaw51_LiabilitySuffices.j3] at h⟩
 | k + 1 => by
  obtain ⟨ih0, ih1, ih2, ih3⟩ := spilelaw51_LiabilitySuffices.mono_l k
  refine ⟨?_, ?_, ?_, ?_⟩
  ·intro y0 y1 y2 y3 y4 y5
   unfold spilelaw51_LiabilitySuffices.j0
   repeat' first
   | (with_reducible exact ih0 _ _ _ _ _ _)
   | (with_reducible exact ih1 _ _ _ _ _ _ _)
   | (with_reducible exact ih2 _ _ _ _ _ _ _ _)
   | (with_reducible exact ih3 _ _ _ _ _ _ _ _ _)
   | (with_reducible exact liability_Causes.mono _ _ _ _ _ _ _ _ _ _ _ _ _)
   | (with_reducible exact liability_Greatest.mono _ _ _ _ _)
   | (with_reducible exact liability_Sum.mono _ _ _ _ _ _)
   | (with_reducible exact spilelaw51_awake.mono _)
   | (with_reducible exact LeO.refl _)
   | (with_reducible exact LeO.none _)
   | (with_reducible refine LeO.ite ?_ ?_)
   | (with_reducible refine LeO.bind ?_ (fun _ => ?_))
   | exact ih0 _ _ _ _ _ _
   | exact ih1 _ _ _ _ _ _ _
   | exact ih2 _ _ _ _ _ _ _ _
   | exact ih3 _ _ _ _ _ _ _ _ _
   | exact liability_Causes.mono _ _ _ _ _ _ _ _ _ _ _ _ _
   | exact liability_Greatest.mono _ _ _ _ _
   | exact liability_Sum.mono _ _ _ _ _ _
   | exact spilelaw51_awake.mono _
   | exact LeO.none _
   | refine LeO.ite ?_ ?_
   | refine LeO.bind ?_ (fun _ => ?_)
  ·intro y0 y1 y2 y3 y4 y5 y6
   unfold spilelaw51_LiabilitySuffices.j1
   repeat' first
   | (with_reducible exact ih0 _ _ _ _ _ _)
   | (with_reducible exact ih1 _ _ _ _ _ _ _)
   | (with_reducible exact ih2 _ _ _ _ _ _ _ _)
   | (with_reducible exact ih3 _ _ _ _ _ _ _ _ _)
   | (with_reducible exact liability_Causes.mono _ _ _ _ _ _ _ _ _ _ _ _ _)
   | (with_reducible exact liability_Greatest.mono _ _ _ _ _)
   | (with_reducible exact liability_Sum.mono _ _ _ _ _ _)
   | (with_reducible exact spilelaw51_awake.mono _)
   | (with_reducible exact LeO.refl _)
   | (with_reducible exact LeO.none _)
   | (with_reducible refine LeO.ite ?_ ?_)
   | (with_reducible refine LeO.bind ?_ (fun _ => ?_))
   | exact ih0 _ _ _ _ _ _
   | exact ih1 _ _ _ _ _ _ _
   | exact ih2 _ _ _ _ _ _ _ _
   | exact ih3 _ _ _ _ _ _ _ _ _
   | exact liability_Causes.mono _ _ _ _ _ _ _ _ _ _ _ _ _
   | exact liability_Greatest.mono _ _ _ _ _
   | exact liability_Sum.mono _ _ _ _ _ _
   | exact spilelaw51_awake.mono _
   | exact LeO.none _
   | refine LeO.ite ?_ ?_
   | refine LeO.bind ?_ (fun _ => ?_)
  ·intro y0 y1 y2 y3 y4 y5 y6 y7
   unfold spilelaw51_LiabilitySuffices.l0
   repeat' first
   | (with_reducible exact ih0 _ _ _ _ _ _)
   | (with_reducible exact ih1 _ _ _ _ _ _ _)
   | (with_reducible exact ih2 _ _ _ _ _ _ _ _)
   | (with_reducible exact ih3 _ _ _ _ _ _ _ _ _)
   | (with_reducible exact liability_Causes.mono _ _ _ _ _ _ _ _ _ _ _ _ _)
   | (with_reducible exact liability_Greatest.mono _ _ _ _ _)
   | (with_reducible exact liability_Sum.mono _ _ _ _ _ _)
   | (with_reducible exact spilelaw51_awake.mono _)
   | (with_reducible exact LeO.refl _)
   | (with_reducible exact LeO.none _)
   | (with_reducible refine LeO.ite ?_ ?_)
   | (with_reducible refine LeO.bind ?_ (fun _ => ?_))
   | exact ih0 _ _ _ _ _ _
   | exact ih1 _ _ _ _ _ _ _
   | exact ih2 _ _ _ _ _ _ _ _
   | exact ih3 _ _ _ _ _ _ _ _ _
   | exact liability_Causes.mono _ _ _ _ _ _ _ _ _ _ _ _ _
   | exact liability_Greatest.mono _ _ _ _ _
   | exact liability_Sum.mono _ _ _ _ _ _
   | exact spilelaw51_awake.mono _
   | exact LeO.none _
   | refine LeO.ite ?_ ?_
   | refine LeO.bind ?_ (fun _ => ?_)
  ·intro y0 y1 y2 y3 y4 y5 y6 y7 y8
   unfold spilelaw51_LiabilitySuffices.j3
   repeat' first
   | (with_reducible exact ih0 _ _ _ _ _ _)
   | (with_reducible exact ih1 _ _ _ _ _ _ _)
   | (with_reducible exact ih2 _ _ _ _ _ _ _ _)
   | (with_reducible exact ih3 _ _ _ _ _ _ _ _ _)
   | (with_reducible exact liability_Causes.mono _ _ _ _ _ _ _ _ _ _ _ _ _)
   | (with_reducible exact liability_Greatest.mono _ _ _ _ _)
   | (with_reducible exact liability_Sum.mono _ _ _ _ _ _)
   | (with_reducible exact spilelaw51_awake.mono _)
   | (with_reducible exact LeO.refl _)
   | (with_reducible exact LeO.none _)
   | (with_reducible refine LeO.ite ?_ ?_)
   | (with_reducible refine LeO.bind ?_ (fun _ => ?_))
   | exact ih0 _ _ _ _ _ _
   | exact ih1 _ _ _ _ _ _ _
   | exact ih2 _ _ _ _ _ _ _ _
   | exact ih3 _ _ _ _ _ _ _ _ _
   | exact liability_Causes.mono _ _ _ _ _ _ _ _ _ _ _ _ _
   | exact liability_Greatest.mono _ _ _ _ _
   | exact liability_Sum.mono _ _ _ _ _ _
   | exact spilelaw51_awake.mono _
   | exact LeO.none _
   | refine LeO.ite ?_ ?_
   | refine LeO.bind ?_ (fun _ => ?_)
theorem spilelaw51_LiabilitySuffices.mono : ∀ a0 a1 a2 a3 a4 k, LeO (spilelaw51_LiabilitySuffices.f k a0 a1 a2 a3 a4) (spilelaw51_LiabilitySuffices.f (k + 1) a0 a1 a2 a3 a4) := by
 intro a0 a1 a2 a3 a4 k
 obtain ⟨ih0, ih1, ih2, ih3⟩ := spilelaw51_LiabilitySuffices.mono_l k
 unfold spilelaw51_LiabilitySuffices.f
 repeat' first
   | (with_reducible exact ih0 _ _ _ _ _ _)
   | (with_reducible exact ih1 _ _ _ _ _ _ _)
   | (with_reducible exact ih2 _ _ _ _ _ _ _ _)
   | (with_reducible exact ih3 _ _ _ _ _ _ _ _ _)
   | (with_reducible exact liability_Causes.mono _ _ _ _ _ _ _ _ _ _ _ _ _)
   | (with_reducible exact liability_Greatest.mono _ _ _ _ _)
   | (with_reducible exact liability_Sum.mono _ _ _ _ _ _)
   | (with_reducible exact spilelaw51_awake.mono _)
   | (with_reducible exact LeO.refl _)
   | (with_reducible exact LeO.none _)
   | (with_reducible refine LeO.ite ?_ ?_)
   | (with_reducible refine LeO.bind ?_ (fun _ => ?_))
   | exact ih0 _ _ _ _ _ _
   | exact ih1 _ _ _ _ _ _ _
   | exact ih2 _ _ _ _ _ _ _ _
   | exact ih3 _ _ _ _ _ _ _ _ _
   | exact liability_Causes.mono _ _ _ _ _ _ _ _ _ _ _ _ _
   | exact liability_Greatest.mono _ _ _ _ _
   | exact liability_Sum.mono _ _ _ _ _ _
   | exact spilelaw51_awake.mono _
   | exact LeO.none _
   | refine LeO.ite ?_ ?_
   | refine LeO.bind ?_ (fun _ => ?_)
def spilelaw51_LiabilitySuffices.T12 : Bool × List (List Nat × List Nat) := (true, [([], []), ([0], [0]), ([], []), ([], []), ([2, 3], [2, 3]), ([4], [4]), ([], []), ([], []), ([1, 5, 6, 7, 1], [1, 5, 6, 7]), ([8], [8]), ([9], [9]), ([9], [9]), ([10, 8, 0, 1, 2, 3, 4, 5, 6, 7, 8, 9, 10], [10]), ([11, 12, 0, 1, 2, 3, 4, 5, 6, 7, 8, 9, 10, 11, 12], [11])])
def spilelaw51_LiabilitySuffices.B12 : List Nat := [0, 1, 0, 0, 12, 28, 0, 0, 255, 511, 1023, 1023, 2047, 8191]
theorem spilelaw51_LiabilitySuffices.tab12 : rtab .any (opsOf Try.f5 12) = spilelaw51_LiabilitySuffices.T12 := by kernel_rfl
theorem spilelaw51_LiabilitySuffices.bits12 : waitsOk spilelaw51_LiabilitySuffices.T12.2 spilelaw51_LiabilitySuffices.B12 = true := by kernel_rfl
set_option maxHeartbeats 8000000 in
set_option maxRecDepth 100000 in
theorem spilelaw51_LiabilitySuffices.calls (k : Nat) (a0_0 : Int) (A0_1 : Option Addr) (c0_1 : Nat) (l0_1 : List (S60)) (A1 : Option Addr) (c1 : Nat) (l1 : List (S35)) (A2 : Option Addr) (c2 : Nat) (l2 : List (S51)) (a3 : Int) (r : Bool) (w : World) (hr0_1 : Kd.C k60 w A0_1 l0_1.length l0_1) (hc0_1 : l0_1.length ≤ c0_1) (hr1 : Kd.C k35 w A1 l1.length l1) (hc1 : l1.length ≤ c1) (hr2 : Kd.C k51 w A2 l2.length l2) (hc2 : l2.length ≤ c2) (h : spilelaw51_LiabilitySuffices.f k a0_0 l0_1 l1 l2 a3 = some r) :
  Calls Try.prog 5 #[.agg #[.int .i64 a0_0, .slice A0_1 l0_1.length c0_1], .slice A1 l1.length c1, .slice A2 l2.length c2, .int .i64 a3] w fun e w' => e = .returned (.bool r) ∧ Below w.heap.size w w' := by
 have hu24 := Try.underlying24
 have hu51 := Try.underlying51
 have hu35 := Try.underlying35
 have HR0_1 := Aside0.mk hr0_1
 have HC0_1 := Aside0.mk hc0_1
 clear hr0_1 hc0_1
 have HR1 := Aside0.mk hr1
 have HC1 := Aside0.mk hc1
 clear hr1 hc1
 have HR2 := Aside0.mk hr2
 have HC2 := Aside0.mk hc2
 clear hr2 hc2
 have HB := Aside0.mk (Below.refl w.heap.size w)
 have H : ((spilelaw51_awake.f k).bind fun t634 => (if t634 = true then ((spilelaw51_few.f a0_0 l0_1 l1).bind fun t635 => (if t635 = true then (spilelaw51_LiabilitySuffices.j0 k l1 l2 a3 (decide ((l2.length : Int) > 12)) a0_0 l0_1) else (spilelaw51_LiabilitySuffices.j0 k l1 l2 a3 true a0_0 l0_1))) else (spilelaw51_LiabilitySuffices.j0 k l1 l2 a3 true a0_0 l0_1))) = some r := h
 clear h
 have HC5 := Aside0.mk H
 clear H
 go_enter Try.func5, Try.ntmps5
 go_upto_region 1 with (first | ((with_reducible refine gqD (N := 4) rfl ?_); (try (refine gate_guard (by rfl) ?_; dsimp only)); refine GS.bx (N := 4) (cs := #[.int .i64 a0_0, .slice A0_1 l0_1.length c0_1]) (t := 24) ?_; intro gb633 hg w6 hbox hb; have n0_ := Aside0.mk (lqT (GS.lB HB.out) hb); have n1_ := Aside0.mk (hbox); have n2_ := Aside0.mk ((by rw [hg]; exact (lqZ (GS.lB HB.out)) : w.heap.size ≤ gb633)); have n3_ := Aside0.mk ((by rw [hg]; exact (lqZ (GS.lB HB.out)) : w.heap.size ≤ gb633)); clear HB; have HB := n0_; have BK633 := n1_; have GW633 := n2_; have GE633 := n3_; clear n0_ n1_ n2_ n3_; clear hb hbox hg))
 (try simp only [Act.put, List.setIfInBounds_toArray, List.set_cons_zero, List.set_cons_succ])
 go_cut [30] (fun v30 wc => ∃ (kq : Nat) (x30_4 : Bool), v30 = .bool x30_4 ∧ Aside0 (spilelaw51_LiabilitySuffices.j0 kq l1 l2 a3 x30_4 a0_0 l0_1 = some r) ∧ Aside0 (kq ≤ k) ∧ Aside0 (wc.heap[gb633]? = some (.cells #[.int .i64 a0_0, (.slice A0_1 l0_1.length c0_1)] 24 (0, 0))) ∧ Aside0 (Below w.heap.size w wc))
 case first =>
  have H := HC5.out
  clear HC5
  replace H := Option.bind_eq_some_iff.mp H
  obtain ⟨t634, A70, H⟩ := H
  replace H : (if t634 = true then ((spilelaw51_few.f a0_0 l0_1 l1).bind fun t635 => (if t635 = true then (spilelaw51_LiabilitySuffices.j0 k l1 l2 a3 (decide ((l2.length : Int) > 12)) a0_0 l0_1) else (spilelaw51_LiabilitySuffices.j0 k l1 l2 a3 true a0_0 l0_1))) else (spilelaw51_LiabilitySuffices.j0 k l1 l2 a3 true a0_0 l0_1)) = some r := H
  have A7 := Aside0.mk A70
  clear A70
  by_cases c8 : t634 = true
  ·subst c8
   have H1 : ((spilelaw51_few.f a0_0 l0_1 l1).bind fun t635 => (if t635 = true then (spilelaw51_LiabilitySuffices.j0 k l1 l2 a3 (decide ((l2.length : Int) > 12)) a0_0 l0_1) else (spilelaw51_LiabilitySuffices.j0 k l1 l2 a3 true a0_0 l0_1))) = some r := by rw [if_pos rfl] at H; exact H
   clear H
   have H := H1
   clear H1
   replace H := Option.bind_eq_some_iff.mp H
   obtain ⟨t635, A90, H⟩ := H
   replace H : (if t635 = true then (spilelaw51_LiabilitySuffices.j0 k l1 l2 a3 (decide ((l2.length : Int) > 12)) a0_0 l0_1) else (spilelaw51_LiabilitySuffices.j0 k l1 l2 a3 true a0_0 l0_1)) = some r := H
   have A9 := Aside0.mk A90
   clear A90
   by_cases c10 : t635 = true
   ·subst c10
    have H1 : (spilelaw51_LiabilitySuffices.j0 k l1 l2 a3 (decide ((l2.length : Int) > 12)) a0_0 l0_1) = some r := by rw [if_pos rfl] at H; exact H
    clear H
    have H := H1
    clear H1
    have H' := Aside0.mk H
    clear H
    go_wp2_with (first | ((with_reducible refine gqC (f := 9) rfl ?_); refine GS.gL (some 18) Try.func9 #[] ?_; (with_reducible refine (spilelaw51_awake.calls k  true _ A7.out).mono ?_); rintro e w11 ⟨rfl, hb⟩; refine ⟨_, rfl, ?_⟩; have n0_ := Aside0.mk (bqB (GS.bqX BK633.out) hb); have n1_ := Aside0.mk (lqT (GS.lB HB.out) hb); clear BK633; clear HB; have BK633 := n0_; have HB := n1_; clear n0_ n1_; (try clear hb); (try clear hb2); (try clear hk); (try clear hi); obtain ⟨hcz12_0, hcz12_1, hfz12_0, hfz12_1⟩ := GS.c2 BK633.out) | (go_at_call 10; (with_reducible refine (spilelaw51_few.calls a0_0 _ _ l0_1 _ _ l1 true _ ?side1 ?side2 ?side3 ?side4 A9.out).mono ?_); (case side1 => exact GS.rC (Kd.C_below HR0_1.out HB.out)); (case side2 => exact HC0_1.out); (case side3 => exact GS.rC (Kd.C_below HR1.out HB.out)); (case side4 => exact HC1.out); rintro e w13 ⟨rfl, hb⟩; have n0_ := Aside0.mk (bqB (GS.bqX BK633.out) hb); have n1_ := Aside0.mk (lqT (GS.lB HB.out) hb); clear BK633; clear HB; have BK633 := n0_; have HB := n1_; clear n0_ n1_; (try clear hb); (try clear hb2); (try clear hk); (try clear hi)))
    go_meet
    case rel => exact ⟨_, (decide ((l2.length : Int) > 12)), (by first | rfl | (simp; done) | (simp [*]; done)), H', ⟨by first | omega | exact Nat.le_refl _⟩, ⟨GS.bqX BK633.out⟩, ⟨GS.lB HB.out⟩⟩
   ·replace c10 := Bool.eq_false_iff.mpr c10
    subst c10
    have H1 : (spilelaw51_LiabilitySuffices.j0 k l1 l2 a3 true a0_0 l0_1) = some r := by rw [if_neg (show ¬ (false = true) by decide)] at H; exact H
    clear H
    have H := H1
    clear H1
    have H' := Aside0.mk H
    clear H
    go_wp2_with (first | ((with_reducible refine gqC (f := 9) rfl ?_); refine GS.gL (some 18) Try.func9 #[] ?_; (with_reducible refine (spilelaw51_awake.calls k  true _ A7.out).mono ?_); rintro e w14 ⟨rfl, hb⟩; refine ⟨_, rfl, ?_⟩; have n0_ := Aside0.mk (bqB (GS.bqX BK633.out) hb); have n1_ := Aside0.mk (lqT (GS.lB HB.out) hb); clear BK633; clear HB; have BK633 := n0_; have HB := n1_; clear n0_ n1_; (try clear hb); (try clear hb2); (try clear hk); (try clear hi); obtain ⟨hcz15_0, hcz15_1, hfz15_0, hfz15_1⟩ := GS.c2 BK633.out) | (go_at_call 10; (with_reducible refine (spilelaw51_few.calls a0_0 _ _ l0_1 _ _ l1 false _ ?side1 ?side2 ?side3 ?side4 A9.out).mono ?_); (case side1 => exact GS.rC (Kd.C_below HR0_1.out HB.out)); (case side2 => exact HC0_1.out); (case side3 => exact GS.rC (Kd.C_below HR1.out HB.out)); (case side4 => exact HC1.out); rintro e w16 ⟨rfl, hb⟩; have n0_ := Aside0.mk (bqB (GS.bqX BK633.out) hb); have n1_ := Aside0.mk (lqT (GS.lB HB.out) hb); clear BK633; clear HB; have BK633 := n0_; have HB := n1_; clear n0_ n1_; (try clear hb); (try clear hb2); (try clear hk); (try clear hi)))
    go_meet
    case rel => exact ⟨_, (true), (by first | rfl | (simp; done) | (simp [*]; done)), H', ⟨by first | omega | exact Nat.le_refl _⟩, ⟨GS.bqX BK633.out⟩, ⟨GS.lB HB.out⟩⟩
  ·replace c8 := Bool.eq_false_iff.mpr c8
   subst c8
   have H1 : (spilelaw51_LiabilitySuffices.j0 k l1 l2 a3 true a0_0 l0_1) = some r := by rw [if_neg (show ¬ (false = true) by decide)] at H; exact H
   clear H
   have H := H1
   clear H1
   have H' := Aside0.mk H
   clear H
   go_wp2_with (first | ((with_reducible refine gqC (f := 9) rfl ?_); refine GS.gL (some 18) Try.func9 #[] ?_; (with_reducible refine (spilelaw51_awake.calls k  false _ A7.out).mono ?_); rintro e w17 ⟨rfl, hb⟩; refine ⟨_, rfl, ?_⟩; have n0_ := Aside0.mk (bqB (GS.bqX BK633.out) hb); have n1_ := Aside0.mk (lqT (GS.lB HB.out) hb); clear BK633; clear HB; have BK633 := n0_; have HB := n1_; clear n0_ n1_; (try clear hb); (try clear hb2); (try clear hk); (try clear hi)))
   go_meet
   case rel => exact ⟨_, (true), (by first | rfl | (simp; done) | (simp [*]; done)), H', ⟨by first | omega | exact Nat.le_refl _⟩, ⟨GS.bqX BK633.out⟩, ⟨GS.lB HB.out⟩⟩
 case rest =>
  clear HC5
  try clear c1
  try clear c2
  try clear p2
  try clear c5
  try clear c8
  try clear c9
  try clear c10
  try clear hcz12_0
  try clear hcz12_1
  try clear hcz15_0
  try clear hcz15_1
  try clear hfz12_0
  try clear hfz12_1
  try clear hfz15_0
  try clear hfz15_1
  obtain ⟨kq, x30_4, rfl, HA, HJ4, BK633, HB⟩ := hcut
  cases kq with
  | zero => exact absurd HA.out (by simp [spilelaw51_LiabilitySuffices.j0])
  | succ kj4 =>
   have H := HA.out
   clear HA
   simp only [spilelaw51_LiabilitySuffices.j0] at H
   by_cases c18 : x30_4 = true
   ·subst c18
    have H1 : ((spilelaw51_awake.f kj4).bind fun t636 => (some t636)) = some r := by rw [if_pos rfl] at H; exact H
    clear H
    have H := H1
    clear H1
    replace H := Option.bind_eq_some_iff.mp H
    obtain ⟨t636, A190, H⟩ := H
    replace H : (some t636) = some r := H
    have A19 := Aside0.mk A190
    clear A190
    obtain rfl := Option.some.inj H
    go_wp2_with (first | ((with_reducible refine gqC (f := 9) rfl ?_); refine GS.gL (some 31) Try.func9 #[] ?_; (with_reducible refine (spilelaw51_awake.calls kj4  t636 _ A19.out).mono ?_); rintro e w20 ⟨rfl, hb⟩; refine ⟨_, rfl, ?_⟩; have n0_ := Aside0.mk (bqB (GS.bqX BK633.out) hb); have n1_ := Aside0.mk (lqT (GS.lB HB.out) hb); clear BK633; clear HB; have BK633 := n0_; have HB := n1_; clear n0_ n1_; (try clear hb); (try clear hb2); (try clear hk); (try clear hi)))
    go_ret
    exact ⟨by first | rfl | (simp [errW_none, errW_some] <;> rfl) | (simp [*, errW_none, errW_some] <;> rfl), GS.lB HB.out⟩
   ·replace c18 := Bool.eq_false_iff.mpr c18
    subst c18
    have H1 : ((spilelaw51_ct.f a0_0 l0_1).bind fun bt637 => ((clone13.f l1).bind fun t641 => ((clone22.f l2).bind fun t644 => ((liability_Sum.f kj4 bt637.1 bt637.2 t641 t644 a3).bind fun bt647 => (if bt647.2 = 0 then ((spilelaw51_ct.f a0_0 l0_1).bind fun bt649 => ((clone13.f l1).bind fun t653 => ((liability_Greatest.f kj4 bt649.1 bt649.2 t653 a3).bind fun bt656 => (if bt656.2.2 = 0 then (if bt647.1 > bt656.2.1 then (none) else (if (bt656.1.length : Int) = (l1.length : Int) then (spilelaw51_LiabilitySuffices.j1 kj4 l1 l2 a3 bt656.1 ((l2.length : Int) != (l1.length : Int)) a0_0 l0_1) else (none))) else (none))))) else (some (bt647.1 == 0))))))) = some r := by rw [if_neg (show ¬ (false = true) by decide)] at H; exact H
    clear H
    have H := H1
    clear H1
    replace H := Option.bind_eq_some_iff.mp H
    obtain ⟨⟨t637, t638⟩, A210, H⟩ := H
    replace H : ((clone13.f l1).bind fun t641 => ((clone22.f l2).bind fun t644 => ((liability_Sum.f kj4 t637 t638 t641 t644 a3).bind fun bt647 => (if bt647.2 = 0 then ((spilelaw51_ct.f a0_0 l0_1).bind fun bt649 => ((clone13.f l1).bind fun t653 => ((liability_Greatest.f kj4 bt649.1 bt649.2 t653 a3).bind fun bt656 => (if bt656.2.2 = 0 then (if bt647.1 > bt656.2.1 then (none) else (if (bt656.1.length : Int) = (l1.length : Int) then (spilelaw51_LiabilitySuffices.j1 kj4 l1 l2 a3 bt656.1 ((l2.length : Int) != (l1.length : Int)) a0_0 l0_1) else (none))) else (none))))) else (some (bt647.1 == 0)))))) = some r := H
    have A21 := Aside0.mk A210
    clear A210
    replace H := Option.bind_eq_some_iff.mp H
    obtain ⟨t641, A220, H⟩ := H
    replace H : ((clone22.f l2).bind fun t644 => ((liability_Sum.f kj4 t637 t638 t641 t644 a3).bind fun bt647 => (if bt647.2 = 0 then ((spilelaw51_ct.f a0_0 l0_1).bind fun bt649 => ((clone13.f l1).bind fun t653 => ((liability_Greatest.f kj4 bt649.1 bt649.2 t653 a3).bind fun bt656 => (if bt656.2.2 = 0 then (if bt647.1 > bt656.2.1 then (none) else (if (bt656.1.length : Int) = (l1.length : Int) then (spilelaw51_LiabilitySuffices.j1 kj4 l1 l2 a3 bt656.1 ((l2.length : Int) != (l1.length : Int)) a0_0 l0_1) else (none))) else (none))))) else (some (bt647.1 == 0))))) = some r := H
    have A22 := Aside0.mk A220
    clear A220
    replace H := Option.bind_eq_some_iff.mp H
    obtain ⟨t644, A230, H⟩ := H
    replace H : ((liability_Sum.f kj4 t637 t638 t641 t644 a3).bind fun bt647 => (if bt647.2 = 0 then ((spilelaw51_ct.f a0_0 l0_1).bind fun bt649 => ((clone13.f l1).bind fun t653 => ((liability_Greatest.f kj4 bt649.1 bt649.2 t653 a3).bind fun bt656 => (if bt656.2.2 = 0 then (if bt647.1 > bt656.2.1 then (none) else (if (bt656.1.length : Int) = (l1.length : Int) then (spilelaw51_LiabilitySuffices.j1 kj4 l1 l2 a3 bt656.1 ((l2.length : Int) != (l1.length : Int)) a0_0 l0_1) else (none))) else (none))))) else (some (bt647.1 == 0)))) = some r := H
    have A23 := Aside0.mk A230
    clear A230
    replace H := Option.bind_eq_some_iff.mp H
    obtain ⟨⟨t647, t648⟩, A240, H⟩ := H
    replace H : (if t648 = 0 then ((spilelaw51_ct.f a0_0 l0_1).bind fun bt649 => ((clone13.f l1).bind fun t653 => ((liability_Greatest.f kj4 bt649.1 bt649.2 t653 a3).bind fun bt656 => (if bt656.2.2 = 0 then (if t647 > bt656.2.1 then (none) else (if (bt656.1.length : Int) = (l1.length : Int) then (spilelaw51_LiabilitySuffices.j1 kj4 l1 l2 a3 bt656.1 ((l2.length : Int) != (l1.length : Int)) a0_0 l0_1) else (none))) else (none))))) else (some (t647 == 0))) = some r := H
    have A24 := Aside0.mk A240
    clear A240
    by_cases c25 : t648 = 0
    ·rw [if_pos c25] at H
     have c25b0 : (t648 == 0) = true := beq_iff_eq.mpr c25
     try simp only [beq_self_eq_true, Bool.not_true, Bool.false_or, Bool.true_and] at c25b0
     have c25b1 : (t648 != 0) = false := bne_eq_false_iff_eq.mpr c25
     clear c25
     replace H := Option.bind_eq_some_iff.mp H
     obtain ⟨⟨t649, t650⟩, A260, H⟩ := H
     replace H : ((clone13.f l1).bind fun t653 => ((liability_Greatest.f kj4 t649 t650 t653 a3).bind fun bt656 => (if bt656.2.2 = 0 then (if t647 > bt656.2.1 then (none) else (if (bt656.1.length : Int) = (l1.length : Int) then (spilelaw51_LiabilitySuffices.j1 kj4 l1 l2 a3 bt656.1 ((l2.length : Int) != (l1.length : Int)) a0_0 l0_1) else (none))) else (none)))) = some r := H
     have A26 := Aside0.mk A260
     clear A260
     replace H := Option.bind_eq_some_iff.mp H
     obtain ⟨t653, A270, H⟩ := H
     replace H : ((liability_Greatest.f kj4 t649 t650 t653 a3).bind fun bt656 => (if bt656.2.2 = 0 then (if t647 > bt656.2.1 then (none) else (if (bt656.1.length : Int) = (l1.length : Int) then (spilelaw51_LiabilitySuffices.j1 kj4 l1 l2 a3 bt656.1 ((l2.length : Int) != (l1.length : Int)) a0_0 l0_1) else (none))) else (none))) = some r := H
     have A27 := Aside0.mk A270
     clear A270
     replace H := Option.bind_eq_some_iff.mp H
     obtain ⟨⟨t656, t659, t660⟩, A280, H⟩ := H
     replace H : (if t660 = 0 then (if t647 > t659 then (none) else (if (t656.length : Int) = (l1.length : Int) then (spilelaw51_LiabilitySuffices.j1 kj4 l1 l2 a3 t656 ((l2.length : Int) != (l1.length : Int)) a0_0 l0_1) else (none))) else (none)) = some r := H
     have A28 := Aside0.mk A280
     clear A280
     have HC29 := Aside0.mk H
     clear H
     obtain ⟨hcz30_0, hcz30_1, hfz30_0, hfz30_1⟩ := GS.c2 BK633.out
     go_upto_region 7 with (first | ((with_reducible refine gqC (f := 12) rfl ?_); refine GS.gL (some 34) Try.func12 #[.agg #[.int .i64 a0_0, .slice A0_1 l0_1.length c0_1]] ?_; (with_reducible refine (spilelaw51_ct.calls a0_0 _ _ l0_1 t637 t638 _ ?side1 ?side2 A21.out).mono ?_); (case side1 => exact GS.rC (Kd.C_below HR0_1.out HB.out)); (case side2 => exact HC0_1.out); rintro e w31 ⟨v639, rfl, ho0, hb⟩; refine ⟨_, rfl, ?_⟩; have n0_ := Aside0.mk (Kd.R_lower ho0 (lqZ (GS.lB HB.out))); have n1_ := Aside0.mk (bqB (GS.bqX BK633.out) hb); have n2_ := Aside0.mk (lqT (GS.lB HB.out) hb); clear BK633; clear HB; have HO640 := n0_; have BK633 := n1_; have HB := n2_; clear n0_ n1_ n2_; (try clear hb); (try clear hb2); (try clear hk); (try clear hi); (try clear ho0)) | ((with_reducible refine gqC (f := 13) rfl ?_); refine GS.gL (some 36) Try.func13 #[.slice A1 l1.length c1] ?_; (with_reducible refine (clone13.calls _ _ l1 t641 _ ?side1 ?side2 A22.out).mono ?_); (case side1 => exact GS.rC (Kd.C_below HR1.out HB.out)); (case side2 => exact HC1.out); rintro e w32 ⟨v642, rfl, ho0, hb⟩; refine ⟨_, rfl, ?_⟩; have n0_ := Aside0.mk (Kd.R_below (GS.rR HO640.out) hb); have n1_ := Aside0.mk (Kd.R_lower ho0 (lqZ (GS.lB HB.out))); have n2_ := Aside0.mk (bqB (GS.bqX BK633.out) hb); have n3_ := Aside0.mk (lqT (GS.lB HB.out) hb); clear HO640; clear BK633; clear HB; have HO640 := n0_; have HO643 := n1_; have BK633 := n2_; have HB := n3_; clear n0_ n1_ n2_ n3_; (try clear hb); (try clear hb2); (try clear hk); (try clear hi); (try clear ho0)) | ((with_reducible refine gqC (f := 22) rfl ?_); refine GS.gL (some 38) Try.func22 #[.slice A2 l2.length c2] ?_; (with_reducible refine (clone22.calls _ _ l2 t644 _ ?side1 ?side2 A23.out).mono ?_); (case side1 => exact GS.rC (Kd.C_below HR2.out HB.out)); (case side2 => exact HC2.out); rintro e w33 ⟨v645, rfl, ho0, hb⟩; refine ⟨_, rfl, ?_⟩; have n0_ := Aside0.mk (Kd.R_below (GS.rR HO640.out) hb); have n1_ := Aside0.mk (Kd.R_below (GS.rR HO643.out) hb); have n2_ := Aside0.mk (Kd.R_lower ho0 (lqZ (GS.lB HB.out))); have n3_ := Aside0.mk (bqB (GS.bqX BK633.out) hb); have n4_ := Aside0.mk (lqT (GS.lB HB.out) hb); clear HO640; clear HO643; clear BK633; clear HB; have HO640 := n0_; have HO643 := n1_; have HO646 := n2_; have BK633 := n3_; have HB := n4_; clear n0_ n1_ n2_ n3_ n4_; (try clear hb); (try clear hb2); (try clear hk); (try clear hi); (try clear ho0); obtain ⟨Ao34, co34, eo34⟩ := Kd.R_slice HO640.out; subst eo34; obtain ⟨Ao35, co35, eo35⟩ := Kd.R_slice HO643.out; subst eo35; obtain ⟨Ao36, co36, eo36⟩ := Kd.R_slice HO646.out; subst eo36) | ((with_reducible refine gqC (f := 21) rfl ?_); refine GS.gL (some 40) Try.func21 #[.agg #[.int .i64 t637, .slice Ao34 t638.length co34], .slice Ao35 t641.length co35, .slice Ao36 t644.length co36, .int .i64 a3] ?_; (with_reducible refine (liability_Sum.calls kj4 t637 _ _ t638 _ _ t641 _ _ t644 a3 t647 t648 _ ?side1 ?side2 ?side3 ?side4 ?side5 ?side6 A24.out).mono ?_); (case side1 => repeat (first | exact (Kd.R_reads' HO640.out).2.2 | (with_reducible refine Kd.C_alloc ?_ _) | (with_reducible refine Kd.C_drewN ?_ _) | (with_reducible refine Kd.C_drew ?_))); (case side2 => exact (Kd.R_reads' HO640.out).2.1); (case side3 => repeat (first | exact (Kd.R_reads' HO643.out).2.2 | (with_reducible refine Kd.C_alloc ?_ _) | (with_reducible refine Kd.C_drewN ?_ _) | (with_reducible refine Kd.C_drew ?_))); (case side4 => exact (Kd.R_reads' HO643.out).2.1); (case side5 => repeat (first | exact (Kd.R_reads' HO646.out).2.2 | (with_reducible refine Kd.C_alloc ?_ _) | (with_reducible refine Kd.C_drewN ?_ _) | (with_reducible refine Kd.C_drew ?_))); (case side6 => exact (Kd.R_reads' HO646.out).2.1); rintro e w37 ⟨rfl, hb⟩; refine ⟨_, rfl, ?_⟩; have n0_ := Aside0.mk (Kd.R_below (GS.rR HO640.out) hb); have n1_ := Aside0.mk (Kd.R_below (GS.rR HO643.out) hb); have n2_ := Aside0.mk (Kd.R_below (GS.rR HO646.out) hb); have n3_ := Aside0.mk (bqB (GS.bqX BK633.out) hb); have n4_ := Aside0.mk (lqT (GS.lB HB.out) hb); clear HO640; clear HO643; clear HO646; clear BK633; clear HB; have HO640 := n0_; have HO643 := n1_; have HO646 := n2_; have BK633 := n3_; have HB := n4_; clear n0_ n1_ n2_ n3_ n4_; (try clear hb); (try clear hb2); (try clear hk); (try clear hi); obtain ⟨hcz38_0, hcz38_1, hfz38_0, hfz38_1⟩ := GS.c2 BK633.out) | ((with_reducible refine gqC (f := 12) rfl ?_); refine GS.gL (some 49) Try.func12 #[.agg #[.int .i64 a0_0, .slice A0_1 l0_1.length c0_1]] ?_; (with_reducible refine (spilelaw51_ct.calls a0_0 _ _ l0_1 t649 t650 _ ?side1 ?side2 A26.out).mono ?_); (case side1 => exact GS.rC (Kd.C_below HR0_1.out HB.out)); (case side2 => exact HC0_1.out); rintro e w39 ⟨v651, rfl, ho0, hb⟩; refine ⟨_, rfl, ?_⟩; have n0_ := Aside0.mk (Kd.R_elder' (GS.rR HO640.out) (Kd.R_base ho0) hb); have n1_ := Aside0.mk (Kd.R_below (GS.rR HO643.out) hb); have n2_ := Aside0.mk (Kd.R_below (GS.rR HO646.out) hb); have n3_ := Aside0.mk (Kd.R_lower (Kd.R_new' ho0 (Kd.R_lt (GS.rR HO640.out))) (lqZ (GS.lB HB.out))); have n4_ := Aside0.mk (bqB (GS.bqX BK633.out) hb); have n5_ := Aside0.mk (lqT (GS.lB HB.out) hb); clear HO640; clear HO643; clear HO646; clear BK633; clear HB; have HO640 := n0_; have HO643 := n1_; have HO646 := n2_; have HO652 := n3_; have BK633 := n4_; have HB := n5_; clear n0_ n1_ n2_ n3_ n4_ n5_; (try clear hb); (try clear hb2); (try clear hk); (try clear hi); (try clear ho0)) | ((with_reducible refine gqC (f := 13) rfl ?_); refine GS.gL (some 51) Try.func13 #[.slice A1 l1.length c1] ?_; (with_reducible refine (clone13.calls _ _ l1 t653 _ ?side1 ?side2 A27.out).mono ?_); (case side1 => exact GS.rC (Kd.C_below HR1.out HB.out)); (case side2 => exact HC1.out); rintro e w40 ⟨v654, rfl, ho0, hb⟩; refine ⟨_, rfl, ?_⟩; have n0_ := Aside0.mk (Kd.R_below (GS.rR HO640.out) hb); have n1_ := Aside0.mk (Kd.R_elder' (GS.rR HO643.out) (Kd.R_base ho0) hb); have n2_ := Aside0.mk (Kd.R_below (GS.rR HO646.out) hb); have n3_ := Aside0.mk (Kd.R_below (GS.rR HO652.out) hb); have n4_ := Aside0.mk (Kd.R_lower (Kd.R_new' ho0 (Kd.R_lt (GS.rR HO643.out))) (lqZ (GS.lB HB.out))); have n5_ := Aside0.mk (bqB (GS.bqX BK633.out) hb); have n6_ := Aside0.mk (lqT (GS.lB HB.out) hb); clear HO640; clear HO643; clear HO646; clear HO652; clear BK633; clear HB; have HO640 := n0_; have HO643 := n1_; have HO646 := n2_; have HO652 := n3_; have HO655 := n4_; have BK633 := n5_; have HB := n6_; clear n0_ n1_ n2_ n3_ n4_ n5_ n6_; (try clear hb); (try clear hb2); (try clear hk); (try clear hi); (try clear ho0); obtain ⟨Ao41, co41, eo41⟩ := Kd.R_slice HO652.out; subst eo41; obtain ⟨Ao42, co42, eo42⟩ := Kd.R_slice HO655.out; subst eo42) | ((with_reducible refine gqC (f := 11) rfl ?_); refine GS.gL (some 53) Try.func11 #[.agg #[.int .i64 t649, .slice Ao41 t650.length co41], .slice Ao42 t653.length co42, .int .i64 a3] ?_; (with_reducible refine (liability_Greatest.calls kj4 t649 _ _ t650 _ _ t653 a3 t656 t659 t660 _ ?side1 ?side2 ?side3 ?side4 A28.out).mono ?_); (case side1 => repeat (first | exact (Kd.R_reads' HO652.out).2.2 | (with_reducible refine Kd.C_alloc ?_ _) | (with_reducible refine Kd.C_drewN ?_ _) | (with_reducible refine Kd.C_drew ?_))); (case side2 => exact (Kd.R_reads' HO652.out).2.1); (case side3 => repeat (first | exact (Kd.R_reads' HO655.out).2.2 | (with_reducible refine Kd.C_alloc ?_ _) | (with_reducible refine Kd.C_drewN ?_ _) | (with_reducible refine Kd.C_drew ?_))); (case side4 => exact (Kd.R_reads' HO655.out).2.1); rintro e w43 ⟨v657, rfl, ho0, hb⟩; refine ⟨_, rfl, ?_⟩; have n0_ := Aside0.mk (Kd.R_below (GS.rR HO640.out) hb); have n1_ := Aside0.mk (Kd.R_below (GS.rR HO643.out) hb); have n2_ := Aside0.mk (Kd.R_below (GS.rR HO646.out) hb); have n3_ := Aside0.mk (Kd.R_below (GS.rR HO652.out) hb); have n4_ := Aside0.mk (Kd.R_below (GS.rR HO655.out) hb); have n5_ := Aside0.mk (Kd.R_lower ho0 (lqZ (GS.lB HB.out))); have n6_ := Aside0.mk (bqB (GS.bqX BK633.out) hb); have n7_ := Aside0.mk (lqT (GS.lB HB.out) hb); clear HO640; clear HO643; clear HO646; clear HO652; clear HO655; clear BK633; clear HB; have HO640 := n0_; have HO643 := n1_; have HO646 := n2_; have HO652 := n3_; have HO655 := n4_; have HO658 := n5_; have BK633 := n6_; have HB := n7_; clear n0_ n1_ n2_ n3_ n4_ n5_ n6_ n7_; (try clear hb); (try clear hb2); (try clear hk); (try clear hi); (try clear ho0)))
     (try simp only [Act.put, List.setIfInBounds_toArray, List.set_cons_zero, List.set_cons_succ])
     go_cut [77] (fun v77 wc => ∃ (kq : Nat) (x77_28 : Bool), v77 = .bool x77_28 ∧ Aside0 (spilelaw51_LiabilitySuffices.j1 kq l1 l2 a3 t656 x77_28 a0_0 l0_1 = some r) ∧ Aside0 (kq ≤ kj4) ∧ Aside0 (Kd.R (Kd.int .i64) 3 wc w.heap.size (fun _ => True) v657 t656) ∧ Aside0 (wc.heap[gb633]? = some (.cells #[.int .i64 a0_0, (.slice A0_1 l0_1.length c0_1)] 24 (0, 0))) ∧ Aside0 (Below w.heap.size w wc))
     case first =>
      have H := HC29.out
      clear HC29
      by_cases c44 : t660 = 0
      ·rw [if_pos c44] at H
       have c44b0 : (t660 == 0) = true := beq_iff_eq.mpr c44
       try simp only [beq_self_eq_true, Bool.not_true, Bool.false_or, Bool.true_and] at c44b0
       have c44b1 : (t660 != 0) = false := bne_eq_false_iff_eq.mpr c44
       clear c44
       (first | rw [c44b0] | (simp only [i64_w, i32_w]; rw [c44b0]) | skip)
       by_cases c45 : t647 > t659
       ·rw [if_pos c45] at H
        exact absurd H (by simp)
       ·rw [if_neg c45] at H
        have c45b0 : decide (t659 < t647) = false := decide_eq_false c45
        clear c45
        by_cases c46 : (t656.length : Int) = (l1.length : Int)
        ·rw [if_pos c46] at H
         have c46b0 : ((t656.length : Int) == (l1.length : Int)) = true := beq_iff_eq.mpr c46
         try simp only [beq_self_eq_true, Bool.not_true, Bool.false_or, Bool.true_and] at c46b0
         have c46b1 : ((t656.length : Int) != (l1.length : Int)) = false := bne_eq_false_iff_eq.mpr c46
         have c46b2 : (t656.length == l1.length) = true := by first | simpa using c46 | (simp at c46 ⊢; omega)
         clear c46
         have H' := Aside0.mk H
         clear H
         obtain ⟨Ao47, co47, eo47⟩ := Kd.R_slice HO658.out
         subst eo47
         go_wp2
         go_meet
         case rel => exact ⟨_, (((l2.length : Int) != (l1.length : Int))), (by first | rfl | (simp; done) | (simp [*]; done)), H', ⟨by have := HJ4.out; first | omega | exact Nat.le_refl _⟩, ⟨by (with_reducible repeat (first | apply Kd.R_alloc | apply Kd.R_drewN | apply Kd.R_drew)); exact HO658.out⟩, ⟨GS.bqX BK633.out⟩, ⟨GS.lB HB.out⟩⟩
        ·rw [if_neg c46] at H
         exact absurd H (by simp)
      ·rw [if_neg c44] at H
       exact absurd H (by simp)
     case rest =>
      clear HC29
      try clear c1
      try clear c2
      try clear p2
      try clear c4
      try clear c5
      try clear c8
      try clear c9
      try clear c10
      try clear c11
      try clear c12
      try clear c13
      try clear c18
      try clear c21
      try clear c22
      try clear c25
      try clear c25b0
      try clear c25b1
      try clear c44
      try clear c44b0
      try clear c44b1
      try clear c45
      try clear c45b0
      try clear c46
      try clear c46b0
      try clear c46b1
      try clear c46b2
      try clear hcz12_0
      try clear hcz12_1
      try clear hcz15_0
      try clear hcz15_1
      try clear hcz30_0
      try clear hcz30_1
      try clear hcz38_0
      try clear hcz38_1
      try clear hfz12_0
      try clear hfz12_1
      try clear hfz15_0
      try clear hfz15_1
      try clear hfz30_0
      try clear hfz30_1
      try clear hfz38_0
      try clear hfz38_1
      try clear p2
      obtain ⟨kq, x77_28, rfl, HA, HJ28, HO_11, BK633, HB⟩ := hcut
      cases kq with
      | zero => exact absurd HA.out (by simp [spilelaw51_LiabilitySuffices.j1])
      | succ kj28 =>
       have H := HA.out
       clear HA
       simp only [spilelaw51_LiabilitySuffices.j1] at H
       by_cases c48 : x77_28 = true
       ·subst c48
        have H1 : (none) = some r := by rw [if_pos rfl] at H; exact H
        clear H
        have H := H1
        clear H1
        exact absurd H (by simp)
       ·replace c48 := Bool.eq_false_iff.mpr c48
        subst c48
        have H1 : (spilelaw51_LiabilitySuffices.l0 kj28 l1 a3 t656 l2 (l2.length : Int) 0 a0_0 l0_1) = some r := by rw [if_neg (show ¬ (false = true) by decide)] at H; exact H
        clear H
        have H := H1
        clear H1
        have H' := Aside0.mk H
        clear H
        go_wp2
        go_loopg [80] kj28 (fun kq v80 w' => ∃ (x80_3 : Int), v80 = .int .i64 x80_3 ∧ Aside0 (spilelaw51_LiabilitySuffices.l0 kq l1 a3 t656 l2 (l2.length : Int) x80_3 a0_0 l0_1 = some r) ∧ Aside0 (kq ≤ kj28) ∧ Aside0 (Kd.R (Kd.int .i64) 3 w' w.heap.size (fun _ => True) v657 t656) ∧ Aside0 (w'.heap[gb633]? = some (.cells #[.int .i64 a0_0, (.slice A0_1 l0_1.length c0_1)] 24 (0, 0))) ∧ Aside0 (Below w.heap.size w w'))
        case atStart => exact ⟨(0), (by first | rfl | (simp; done) | (simp [*]; done)), H', ⟨Nat.le_refl _⟩, ⟨by (with_reducible repeat (first | apply Kd.R_alloc | apply Kd.R_drewN | apply Kd.R_drew)); exact HO_11.out⟩, ⟨GS.bqX BK633.out⟩, ⟨GS.lB HB.out⟩⟩
        case round =>
         clear H'
         try clear c1
         try clear c2
         try clear p2
         try clear c4
         try clear c5
         try clear c8
         try clear c9
         try clear c10
         try clear c11
         try clear c12
         try clear c13
         try clear c18
         try clear c21
         try clear c22
         try clear c25
         try clear c25b0
         try clear c25b1
         try clear c44
         try clear c44b0
         try clear c44b1
         try clear c45
         try clear c45b0
         try clear c46
         try clear c46b0
         try clear c46b1
         try clear c46b2
         try clear c48
         try clear hcz12_0
         try clear hcz12_1
         try clear hcz15_0
         try clear hcz15_1
         try clear hcz30_0
         try clear hcz30_1
         try clear hcz38_0
         try clear hcz38_1
         try clear hfz12_0
         try clear hfz12_1
         try clear hfz15_0
         try clear hfz15_1
         try clear hfz30_0
         try clear hfz30_1
         try clear hfz38_0
         try clear hfz38_1
         try clear p2
         obtain ⟨x80_3, rfl, HA, HK3, HO_11, BK633, HB⟩ := hrel
         cases gk with
         | zero => exact absurd HA.out (by simp [spilelaw51_LiabilitySuffices.l0])
         | succ k3 =>
          have H := HA.out
          clear HA
          simp only [spilelaw51_LiabilitySuffices.l0] at H
          by_cases c49 : x80_3 < (l2.length : Int)
          ·rw [if_pos c49] at H
           have c49b0 : decide (x80_3 < (l2.length : Int)) = true := decide_eq_true c49
           clear c49
           by_cases c50 : 0 ≤ x80_3
           ·rw [if_pos c50] at H
            have c50b0 : decide (0 ≤ x80_3) = true := decide_eq_true c50
            clear c50
            by_cases c51 : x80_3 < (l2.length : Int)
            ·rw [if_pos c51] at H
             have c51b0 : decide (x80_3 < (l2.length : Int)) = true := decide_eq_true c51
             clear c51
             replace H := Option.bind_eq_some_iff.mp H
             obtain ⟨⟨t663, t664⟩, A520, H⟩ := H
             replace H : (if x80_3 < (l1.length : Int) then ((liability_Causes.f k3 t663 t664 ((rd_T35 l1 x80_3).f0) ((rd_T35 l1 x80_3).f1) ((rd_T35 l1 x80_3).f2) ((rd_T35 l1 x80_3).f3) ((rd_T35 l1 x80_3).f4) ((rd_T51 l2 x80_3).f0) ((rd_T51 l2 x80_3).f1) ((rd_T51 l2 x80_3).f2) ((rd_T51 l2 x80_3).f3) a3).bind fun bt668 => (if bt668.2 = 0 then (if bt668.1 < 0 then (none) else (if x80_3 < (t656.length : Int) then (spilelaw51_LiabilitySuffices.j3 k3 l1 a3 t656 l2 (l2.length : Int) x80_3 (decide (bt668.1 > (rd t656 x80_3))) a0_0 l0_1) else (none))) else (none))) else (none)) = some r := H
             have A52 := Aside0.mk A520
             clear A520
             by_cases c53 : x80_3 < (l1.length : Int)
             ·rw [if_pos c53] at H
              have c53b0 : decide (x80_3 < (l1.length : Int)) = true := decide_eq_true c53
              clear c53
              replace H := Option.bind_eq_some_iff.mp H
              obtain ⟨⟨t668, t669⟩, A540, H⟩ := H
              replace H : (if t669 = 0 then (if t668 < 0 then (none) else (if x80_3 < (t656.length : Int) then (spilelaw51_LiabilitySuffices.j3 k3 l1 a3 t656 l2 (l2.length : Int) x80_3 (decide (t668 > (rd t656 x80_3))) a0_0 l0_1) else (none))) else (none)) = some r := H
              have A54 := Aside0.mk A540
              clear A540
              have HC55 := Aside0.mk H
              clear H
              have p661 : 0 ≤ (x80_3 : Int) := of_decide_eq_true (by first | (with_reducible assumption) | assumption)
              have q661 : x80_3 < (l2.length : Int) := of_decide_eq_true (by first | (with_reducible assumption) | assumption)
              obtain ⟨ad661, e661, hx661_0, hx661_1, hx661_2, hx661_3⟩ := at_T51 HR2.out x80_3 p661 q661
              cases e661
              replace hx661_0 := (HB.out.cell (World.block_lt_of_cell? w _ hx661_0)).trans hx661_0
              replace hx661_1 := (HB.out.cell (World.block_lt_of_cell? w _ hx661_1)).trans hx661_1
              replace hx661_2 := (HB.out.cell (World.block_lt_of_cell? w _ hx661_2)).trans hx661_2
              replace hx661_3 := (HB.out.cell (World.block_lt_of_cell? w _ hx661_3)).trans hx661_3
              replace p661 := eq_true p661
              replace q661 := eq_true q661
              try go_wp2_with (first | ((with_reducible refine gqD (N := 15) rfl ?_); (try (refine gate_guard (by rfl) ?_; dsimp only)); refine GS.bx (N := 15) (cs := #[.int .i64 0, .int .i64 0, .int .i64 0, .int .i64 0]) (t := 51) ?_; intro gb662 hg w56 hbox hb; have n0_ := Aside0.mk (Kd.R_below (GS.rR HO_11.out) hb); have n1_ := Aside0.mk (bqB (GS.bqX BK633.out) hb); have n2_ := Aside0.mk (lqT (GS.lB HB.out) hb); have n3_ := Aside0.mk (hbox); have n4_ := Aside0.mk ((by rw [hg]; exact (lqZ (GS.lB HB.out)) : w.heap.size ≤ gb662)); have n5_ := Aside0.mk ((by rw [hg]; exact (lqZ (GS.lB HB.out)) : w.heap.size ≤ gb662)); have n6_ := Aside0.mk ((by rw [hg]; exact Nat.ne_of_lt (blk_lt (GS.bqX BK633.out)) : gb633 ≠ gb662)); have n7_ := Aside0.mk ((by rw [hg]; exact Nat.ne_of_gt (blk_lt (GS.bqX BK633.out)) : gb662 ≠ gb633)); clear HO_11; clear BK633; clear HB; have HO_11 := n0_; have BK633 := n1_; have HB := n2_; have BK662 := n3_; have GW662 := n4_; have GE662 := n5_; have NB633_662 := n6_; have NB662_633 := n7_; clear n0_ n1_ n2_ n3_ n4_ n5_ n6_ n7_; clear hb hbox hg; have hnb57 := NB662_633.out; have hnc57 := NB633_662.out; obtain ⟨hcz58_0, hcz58_1, hcz58_2, hcz58_3, hfz58_0, hfz58_1, hfz58_2, hfz58_3⟩ := GS.c4 BK662.out))
              have n0_ : Aside0 (Kd.R (Kd.int .i64) 3 ((((w56.setCell ⟨gb662, 0, none⟩ (.int .i64 ((rd_T51 l2 x80_3).f0))).setCell ⟨gb662, 1, none⟩ (.int .i64 ((rd_T51 l2 x80_3).f1))).setCell ⟨gb662, 2, none⟩ (.int .i64 ((rd_T51 l2 x80_3).f2))).setCell ⟨gb662, 3, none⟩ (.int .i64 ((rd_T51 l2 x80_3).f3))) w.heap.size (fun _ => True) v657 t656) := ⟨by (with_reducible repeat (first | apply Kd.R_alloc | apply Kd.R_drewN | apply Kd.R_drew)); exact Kd.R_mono (Kd.R_far (p := ⟨gb662, 3, none⟩) (Kd.R_far (p := ⟨gb662, 2, none⟩) (Kd.R_far (p := ⟨gb662, 1, none⟩) (Kd.R_far (p := ⟨gb662, 0, none⟩) (Kd.R_types HO_11.out BK662.out (by decide)) (fun _ hk => hk.2) (.int .i64 ((rd_T51 l2 x80_3).f0))) (fun _ hk => hk.2) (.int .i64 ((rd_T51 l2 x80_3).f1))) (fun _ hk => hk.2) (.int .i64 ((rd_T51 l2 x80_3).f2))) (fun _ hk => hk.2) (.int .i64 ((rd_T51 l2 x80_3).f3))) (fun _ hk => trivial)⟩
              have n1_ : Aside0 (((((w56.setCell ⟨gb662, 0, none⟩ (.int .i64 ((rd_T51 l2 x80_3).f0))).setCell ⟨gb662, 1, none⟩ (.int .i64 ((rd_T51 l2 x80_3).f1))).setCell ⟨gb662, 2, none⟩ (.int .i64 ((rd_T51 l2 x80_3).f2))).setCell ⟨gb662, 3, none⟩ (.int .i64 ((rd_T51 l2 x80_3).f3))).heap[gb633]? = some (.cells #[.int .i64 a0_0, .slice A0_1 l0_1.length c0_1] 24 (0, 0))) := ⟨GS.bqX BK633.out⟩
              have n2_ : Aside0 (((((w56.setCell ⟨gb662, 0, none⟩ (.int .i64 ((rd_T51 l2 x80_3).f0))).setCell ⟨gb662, 1, none⟩ (.int .i64 ((rd_T51 l2 x80_3).f1))).setCell ⟨gb662, 2, none⟩ (.int .i64 ((rd_T51 l2 x80_3).f2))).setCell ⟨gb662, 3, none⟩ (.int .i64 ((rd_T51 l2 x80_3).f3))).heap[gb662]? = some (.cells #[.int .i64 ((rd_T51 l2 x80_3).f0), .int .i64 ((rd_T51 l2 x80_3).f1), .int .i64 ((rd_T51 l2 x80_3).f2), .int .i64 ((rd_T51 l2 x80_3).f3)] 51 (0, 0))) := ⟨GS.bqZ BK662.out⟩
              have n3_ : Aside0 (Below w.heap.size w ((((w56.setCell ⟨gb662, 0, none⟩ (.int .i64 ((rd_T51 l2 x80_3).f0))).setCell ⟨gb662, 1, none⟩ (.int .i64 ((rd_T51 l2 x80_3).f1))).setCell ⟨gb662, 2, none⟩ (.int .i64 ((rd_T51 l2 x80_3).f2))).setCell ⟨gb662, 3, none⟩ (.int .i64 ((rd_T51 l2 x80_3).f3)))) := ⟨GS.lB HB.out⟩
              (try clear HO_11)
              (try clear BK633)
              (try clear BK662)
              (try clear HB)
              generalize ((((w56.setCell ⟨gb662, 0, none⟩ (.int .i64 ((rd_T51 l2 x80_3).f0))).setCell ⟨gb662, 1, none⟩ (.int .i64 ((rd_T51 l2 x80_3).f1))).setCell ⟨gb662, 2, none⟩ (.int .i64 ((rd_T51 l2 x80_3).f2))).setCell ⟨gb662, 3, none⟩ (.int .i64 ((rd_T51 l2 x80_3).f3))) = w59 at n0_ n1_ n2_ n3_ ⊢
              have HO_11 := n0_
              have BK633 := n1_
              have BK662 := n2_
              have HB := n3_
              clear n0_ n1_ n2_ n3_
              have n0_ := Aside0.mk (Kd.R_drew HO_11.out)
              have n1_ := Aside0.mk (bqD BK633.out)
              have n2_ := Aside0.mk (bqD BK662.out)
              have n3_ := Aside0.mk (lqD HB.out)
              clear HO_11
              clear BK633
              clear BK662
              clear HB
              have HO_11 := n0_
              have BK633 := n1_
              have BK662 := n2_
              have HB := n3_
              clear n0_ n1_ n2_ n3_
              have p667 : 0 ≤ (x80_3 : Int) := of_decide_eq_true (by first | (with_reducible assumption) | assumption)
              have q667 : x80_3 < (l1.length : Int) := of_decide_eq_true (by first | (with_reducible assumption) | assumption)
              obtain ⟨ad667, e667, hx667_0, hx667_1, hx667_2, hx667_3, hx667_4⟩ := at_T35 HR1.out x80_3 p667 q667
              have hw667_4 := hx667_4
              have hw667_3 := hx667_3
              have hw667_2 := hx667_2
              have hw667_1 := hx667_1
              have hw667_0 := hx667_0
              cases e667
              replace hx667_0 := (HB.out.cell (World.block_lt_of_cell? w _ hx667_0)).trans hx667_0
              replace hx667_1 := (HB.out.cell (World.block_lt_of_cell? w _ hx667_1)).trans hx667_1
              replace hx667_2 := (HB.out.cell (World.block_lt_of_cell? w _ hx667_2)).trans hx667_2
              replace hx667_3 := (HB.out.cell (World.block_lt_of_cell? w _ hx667_3)).trans hx667_3
              replace hx667_4 := (HB.out.cell (World.block_lt_of_cell? w _ hx667_4)).trans hx667_4
              replace p667 := eq_true p667
              replace q667 := eq_true q667
              refine start_ (n := 14) (S := fun w' => w'.cell? ⟨gb633, 0, none⟩ = some (.int .i64 a0_0) ∧ w'.cell? ⟨gb633, 1, none⟩ = some (.slice A0_1 l0_1.length c0_1) ∧ w'.cell? ⟨gb662, 0, none⟩ = some (.int .i64 ((rd_T51 l2 x80_3).f0)) ∧ w'.cell? ⟨gb662, 1, none⟩ = some (.int .i64 ((rd_T51 l2 x80_3).f1)) ∧ w'.cell? ⟨gb662, 2, none⟩ = some (.int .i64 ((rd_T51 l2 x80_3).f2)) ∧ w'.cell? ⟨gb662, 3, none⟩ = some (.int .i64 ((rd_T51 l2 x80_3).f3)) ∧ w'.cell? (ad667.add ((x80_3).toNat * 5)) = some (.int .i64 ((rd_T35 l1 x80_3).f0)) ∧ w'.cell? ⟨(ad667.add ((x80_3).toNat * 5)).block, (ad667.add ((x80_3).toNat * 5)).off + 1, none⟩ = some (.int .i64 ((rd_T35 l1 x80_3).f1)) ∧ w'.cell? ⟨(ad667.add ((x80_3).toNat * 5)).block, (ad667.add ((x80_3).toNat * 5)).off + 2, none⟩ = some (.int .i64 ((rd_T35 l1 x80_3).f2)) ∧ w'.cell? ⟨(ad667.add ((x80_3).toNat * 5)).block, (ad667.add ((x80_3).toNat * 5)).off + 3, none⟩ = some (.int .i64 ((rd_T35 l1 x80_3).f3)) ∧ w'.cell? ⟨(ad667.add ((x80_3).toNat * 5)).block, (ad667.add ((x80_3).toNat * 5)).off + 4, none⟩ = some (.int .i64 ((rd_T35 l1 x80_3).f4))) (ds := []) #[false, false, false, false, false, false, false, false, false, false, false, false, false, false] (by kernel_rfl) rfl rfl ⟨(bqC BK633.out 0).trans rfl, (bqC BK633.out 1).trans rfl, (bqC BK662.out 0).trans rfl, (bqC BK662.out 1).trans rfl, (bqC BK662.out 2).trans rfl, (bqC BK662.out 3).trans rfl, ((HB.out.cell (World.block_lt_of_cell? w _ hw667_0)).trans hw667_0), ((HB.out.cell (World.block_lt_of_cell? w _ hw667_1)).trans hw667_1), ((HB.out.cell (World.block_lt_of_cell? w _ hw667_2)).trans hw667_2), ((HB.out.cell (World.block_lt_of_cell? w _ hw667_3)).trans hw667_3), ((HB.out.cell (World.block_lt_of_cell? w _ hw667_4)).trans hw667_4)⟩ (fun hHeld => ?_); refine with_tabW spilelaw51_LiabilitySuffices.tab12 spilelaw51_LiabilitySuffices.bits12 (fun HT_ HW_ => ?_)
              generalize w59.drew = w60 at HO_11 BK633 BK662 HB hx667_0 hx667_1 hx667_2 hx667_3 hx667_4 hHeld ⊢
              refine pure_ (i := 2) (N := some 88) (v := ?_) (a' := ?_) #[false, false, true, false, false, false, false, false, false, false, false, false, false, false] rfl rfl (any_of HT_.out (by kernel_rfl)) (fun _ _ _ h => h) (Or.inl ⟨by rfl, ?_⟩) ?_ ?_
              rotate_left
              ·intro w'
               go_simp
               with_reducible rfl
              rotate_left
              ·simp only [Act.put, List.setIfInBounds_toArray, List.set_cons_zero, List.set_cons_succ, i64_w, i32_w]
               rfl
              refine pure_ (i := 3) (N := some 89) (v := ?_) (a' := ?_) #[false, false, true, true, false, false, false, false, false, false, false, false, false, false] rfl rfl (any_of HT_.out (by kernel_rfl)) (fun _ _ _ h => h) (Or.inl ⟨by rfl, ?_⟩) ?_ ?_
              rotate_left
              ·intro w'
               go_simp
               with_reducible rfl
              rotate_left
              ·simp only [Act.put, List.setIfInBounds_toArray, List.set_cons_zero, List.set_cons_succ, i64_w, i32_w]
               rfl
              refine pure_ (i := 4) (N := some 90) (v := ?_) (a' := ?_) #[false, false, true, true, true, false, false, false, false, false, false, false, false, false] rfl rfl (any_of HT_.out (by kernel_rfl)) (fun _ _ _ h => h) (Or.inl ⟨by rfl, ?_⟩) ?_ ?_
              rotate_left
              ·intro w'
               go_simp
               with_reducible rfl
              rotate_left
              ·simp only [Act.put, List.setIfInBounds_toArray, List.set_cons_zero, List.set_cons_succ, i64_w, i32_w]
               rfl
              refine pure_ (i := 7) (N := some 93) (v := ?_) (a' := ?_) #[false, false, true, true, true, false, false, true, false, false, false, false, false, false] rfl rfl (any_of HT_.out (by kernel_rfl)) (fun _ _ _ h => h) (Or.inl ⟨by rfl, ?_⟩) ?_ ?_
              rotate_left
              ·intro w'
               go_simp
               with_reducible rfl
              rotate_left
              ·simp only [Act.put, List.setIfInBounds_toArray, List.set_cons_zero, List.set_cons_succ, i64_w, i32_w]
               rfl
              refine take_ (i := 0) (N := some 86) (v := ?_) (a' := ?_) #[true, false, true, true, true, false, false, true, false, false, false, false, false, false] rfl rfl (take_ofW HT_.out HW_.out (by kernel_rfl)) (fun _ _ _ h => h) (Or.inl ⟨by rfl, ?_⟩) hHeld ?_ ?_
              rotate_left
              ·rintro w' ⟨s0, s1, s2, s3, s4, s5, s6, s7, s8, s9, s10⟩
               go_simp
               with_reducible rfl
              rotate_left
              ·simp only [Act.put, List.setIfInBounds_toArray, List.set_cons_zero, List.set_cons_succ, i64_w, i32_w]
               rfl
              refine take_ (i := 5) (N := some 91) (v := ?_) (a' := ?_) #[true, false, true, true, true, true, false, true, false, false, false, false, false, false] rfl rfl (take_ofW HT_.out HW_.out (by kernel_rfl)) (fun _ _ _ h => h) (Or.inl ⟨by rfl, ?_⟩) hHeld ?_ ?_
              rotate_left
              ·rintro w' ⟨s0, s1, s2, s3, s4, s5, s6, s7, s8, s9, s10⟩
               go_simp
               with_reducible rfl
              rotate_left
              ·simp only [Act.put, List.setIfInBounds_toArray, List.set_cons_zero, List.set_cons_succ, i64_w, i32_w]
               rfl
              refine take_ (i := 6) (N := some 92) (v := ?_) (a' := ?_) #[true, false, true, true, true, true, true, true, false, false, false, false, false, false] rfl rfl (take_ofW HT_.out HW_.out (by kernel_rfl)) (fun _ _ _ h => h) (Or.inl ⟨by rfl, ?_⟩) hHeld ?_ ?_
              rotate_left
              ·rintro w' ⟨s0, s1, s2, s3, s4, s5, s6, s7, s8, s9, s10⟩
               go_simp
               with_reducible rfl
              rotate_left
              ·simp only [Act.put, List.setIfInBounds_toArray, List.set_cons_zero, List.set_cons_succ, i64_w, i32_w]
               rfl
              refine one_ (i := 1) (N := some 87) #[true, true, true, true, true, true, true, true, false, false, false, false, false, false] rfl rfl (one_of HT_.out (by kernel_rfl)) (by decide) (fun K hK => ?_)
              refine goes_ Try.func12 (by kernel_rfl) rfl #[.agg #[.int .i64 a0_0, .slice A0_1 l0_1.length c0_1]] (by rfl) rfl rfl (by (try simp only [List.map_toArray, List.map_cons, List.map_nil]); first | done | rfl | (simp only [List.length_drop, List.length_take]; rfl)) ?_
              with_reducible refine (spilelaw51_ct.calls a0_0 _ _ l0_1 t663 t664 _ ?side1 ?side2 A52.out).mono ?_
              (case side1 => exact GS.rC (Kd.C_below HR0_1.out HB.out))
              (case side2 => exact HC0_1.out)
              rintro e w61 ⟨v665, rfl, ho0, hb⟩
              refine ⟨_, rfl, ?_⟩
              have n0_ := Aside0.mk (Kd.R_below (GS.rR HO_11.out) hb)
              have n1_ := Aside0.mk (Kd.R_lower ho0 (lqZ (GS.lB HB.out)))
              have n2_ := Aside0.mk (bqB (GS.bqX BK633.out) hb)
              have n3_ := Aside0.mk (bqB (GS.bqX BK662.out) hb)
              have n4_ := Aside0.mk (lqT (GS.lB HB.out) hb)
              clear HO_11
              clear BK633
              clear BK662
              clear HB
              have HO_11 := n0_
              have HO666 := n1_
              have BK633 := n2_
              have BK662 := n3_
              have HB := n4_
              clear n0_ n1_ n2_ n3_ n4_
              (try clear hb)
              (try clear hb2)
              (try clear hk)
              (try clear hi)
              (try clear ho0)
              obtain ⟨Ao62, co62, eo62⟩ := Kd.R_slice HO666.out
              (first | subst eo62 | (injection eo62 with f1_ f2_ f3_; have f4_ := f1_.symm; have f5_ := f3_.symm; clear f1_ f2_ f3_; subst f4_; subst f5_))
              refine hK.out _ _ ⟨(bqC BK633.out 0).trans rfl, (bqC BK633.out 1).trans rfl, (bqC BK662.out 0).trans rfl, (bqC BK662.out 1).trans rfl, (bqC BK662.out 2).trans rfl, (bqC BK662.out 3).trans rfl, ((HB.out.cell (World.block_lt_of_cell? w _ hw667_0)).trans hw667_0), ((HB.out.cell (World.block_lt_of_cell? w _ hw667_1)).trans hw667_1), ((HB.out.cell (World.block_lt_of_cell? w _ hw667_2)).trans hw667_2), ((HB.out.cell (World.block_lt_of_cell? w _ hw667_3)).trans hw667_3), ((HB.out.cell (World.block_lt_of_cell? w _ hw667_4)).trans hw667_4)⟩ (fun hHeld => ?_)
              clear hK K
              refine norm_ (a' := ?_) ?_ ?_
              rotate_left
              ·show Act.put _ (some 87) _ = _
               simp only [Act.put, List.setIfInBounds_toArray, List.set_cons_zero, List.set_cons_succ, i64_w, i32_w]
               rfl
              refine one_ (i := 8) (N := some 94) #[true, true, true, true, true, true, true, true, true, false, false, false, false, false] rfl rfl (one_of HT_.out (by kernel_rfl)) (by decide) (fun K hK => ?_)
              refine goes_ Try.func25 (by kernel_rfl) rfl #[.agg #[.int .i64 t663, .slice Ao62 t664.length co62], .agg #[.int .i64 ((rd_T35 l1 x80_3).f0), .int .i64 ((rd_T35 l1 x80_3).f1), .int .i64 ((rd_T35 l1 x80_3).f2), .int .i64 ((rd_T35 l1 x80_3).f3), .int .i64 ((rd_T35 l1 x80_3).f4)], .agg #[.int .i64 ((rd_T51 l2 x80_3).f0), .int .i64 ((rd_T51 l2 x80_3).f1), .int .i64 ((rd_T51 l2 x80_3).f2), .int .i64 ((rd_T51 l2 x80_3).f3)], .int .i64 a3] (by rfl) rfl rfl (by (try simp only [List.map_toArray, List.map_cons, List.map_nil]); first | done | rfl | (simp only [List.length_drop, List.length_take]; rfl)) ?_
              with_reducible refine (liability_Causes.calls k3 t663 _ _ t664 ((rd_T35 l1 x80_3).f0) ((rd_T35 l1 x80_3).f1) ((rd_T35 l1 x80_3).f2) ((rd_T35 l1 x80_3).f3) ((rd_T35 l1 x80_3).f4) ((rd_T51 l2 x80_3).f0) ((rd_T51 l2 x80_3).f1) ((rd_T51 l2 x80_3).f2) ((rd_T51 l2 x80_3).f3) a3 t668 t669 _ ?side1 ?side2 A54.out).mono ?_
              (case side1 => repeat (first | exact (Kd.R_reads' HO666.out).2.2 | (with_reducible refine Kd.C_alloc ?_ _) | (with_reducible refine Kd.C_drewN ?_ _) | (with_reducible refine Kd.C_drew ?_)))
              (case side2 => exact (Kd.R_reads' HO666.out).2.1)
              rintro e w63 ⟨rfl, hb⟩
              refine ⟨_, rfl, ?_⟩
              have n0_ := Aside0.mk (Kd.R_below (GS.rR HO_11.out) hb)
              have n1_ := Aside0.mk (Kd.R_below (GS.rR HO666.out) hb)
              have n2_ := Aside0.mk (bqB (GS.bqX BK633.out) hb)
              have n3_ := Aside0.mk (bqB (GS.bqX BK662.out) hb)
              have n4_ := Aside0.mk (lqT (GS.lB HB.out) hb)
              clear HO_11
              clear HO666
              clear BK633
              clear BK662
              clear HB
              have HO_11 := n0_
              have HO666 := n1_
              have BK633 := n2_
              have BK662 := n3_
              have HB := n4_
              clear n0_ n1_ n2_ n3_ n4_
              (try clear hb)
              (try clear hb2)
              (try clear hk)
              (try clear hi)
              refine hK.out _ _ ⟨(bqC BK633.out 0).trans rfl, (bqC BK633.out 1).trans rfl, (bqC BK662.out 0).trans rfl, (bqC BK662.out 1).trans rfl, (bqC BK662.out 2).trans rfl, (bqC BK662.out 3).trans rfl, ((HB.out.cell (World.block_lt_of_cell? w _ hw667_0)).trans hw667_0), ((HB.out.cell (World.block_lt_of_cell? w _ hw667_1)).trans hw667_1), ((HB.out.cell (World.block_lt_of_cell? w _ hw667_2)).trans hw667_2), ((HB.out.cell (World.block_lt_of_cell? w _ hw667_3)).trans hw667_3), ((HB.out.cell (World.block_lt_of_cell? w _ hw667_4)).trans hw667_4)⟩ (fun hHeld => ?_)
              clear hK K
              refine norm_ (a' := ?_) ?_ ?_
              rotate_left
              ·show Act.put _ (some 94) _ = _
               simp only [Act.put, List.setIfInBounds_toArray, List.set_cons_zero, List.set_cons_succ, i64_w, i32_w]
               rfl
              refine pure_ (i := 9) (N := some 85) (v := ?_) (a' := ?_) #[true, true, true, true, true, true, true, true, true, true, false, false, false, false] rfl rfl (any_of HT_.out (by kernel_rfl)) (fun _ _ _ h => h) (Or.inl ⟨by rfl, ?_⟩) ?_ ?_
              rotate_left
              ·intro w'
               go_simp
               with_reducible rfl
              rotate_left
              ·simp only [Act.put, List.setIfInBounds_toArray, List.set_cons_zero, List.set_cons_succ, i64_w, i32_w]
               rfl
              refine pure_ (i := 10) (N := some 95) (v := ?_) (a' := ?_) #[true, true, true, true, true, true, true, true, true, true, true, false, false, false] rfl rfl (any_of HT_.out (by kernel_rfl)) (fun _ _ _ h => h) (Or.inl ⟨by rfl, ?_⟩) ?_ ?_
              rotate_left
              ·intro w'
               go_simp
               with_reducible rfl
              rotate_left
              ·simp only [Act.put, List.setIfInBounds_toArray, List.set_cons_zero, List.set_cons_succ, i64_w, i32_w]
               rfl
              refine pure_ (i := 11) (N := some 96) (v := ?_) (a' := ?_) #[true, true, true, true, true, true, true, true, true, true, true, true, false, false] rfl rfl (any_of HT_.out (by kernel_rfl)) (fun _ _ _ h => h) (Or.inl ⟨by rfl, ?_⟩) ?_ ?_
              rotate_left
              ·intro w'
               go_simp
               with_reducible rfl
              rotate_left
              ·simp only [Act.put, List.setIfInBounds_toArray, List.set_cons_zero, List.set_cons_succ, i64_w, i32_w]
               rfl
              refine pure_ (i := 12) (N := some 16) (v := ?_) (a' := ?_) #[true, true, true, true, true, true, true, true, true, true, true, true, true, false] rfl rfl (any_of HT_.out (by kernel_rfl)) (fun _ _ _ h => h) (Or.inl ⟨by rfl, ?_⟩) ?_ ?_
              rotate_left
              ·intro w'
               go_simp
               with_reducible rfl
              rotate_left
              ·simp only [Act.put, List.setIfInBounds_toArray, List.set_cons_zero, List.set_cons_succ, i64_w, i32_w]
               rfl
              refine pure_ (i := 13) (N := some 17) (v := ?_) (a' := ?_) #[true, true, true, true, true, true, true, true, true, true, true, true, true, true] rfl rfl (any_of HT_.out (by kernel_rfl)) (fun _ _ _ h => h) (Or.inl ⟨by rfl, ?_⟩) ?_ ?_
              rotate_left
              ·intro w'
               go_simp
               with_reducible rfl
              rotate_left
              ·simp only [Act.put, List.setIfInBounds_toArray, List.set_cons_zero, List.set_cons_succ, i64_w, i32_w]
               rfl
              refine done_ (done_of HT_.out (by kernel_rfl)) ?_
              go_upto_region 13 with (fail)
              go_cut [110] (fun v110 wc => ∃ (kq : Nat) (x110_54 : Bool), v110 = .bool x110_54 ∧ Aside0 (spilelaw51_LiabilitySuffices.j3 kq l1 a3 t656 l2 (l2.length : Int) x80_3 x110_54 a0_0 l0_1 = some r) ∧ Aside0 (kq ≤ k3) ∧ Aside0 (Kd.R (Kd.int .i64) 3 wc w.heap.size (fun _ => True) v657 t656) ∧ Aside0 (wc.heap[gb633]? = some (.cells #[.int .i64 a0_0, (.slice A0_1 l0_1.length c0_1)] 24 (0, 0))) ∧ Aside0 (wc.heap[gb662]? = some (.cells #[.int .i64 ((rd_T51 l2 x80_3).f0), .int .i64 ((rd_T51 l2 x80_3).f1), .int .i64 ((rd_T51 l2 x80_3).f2), .int .i64 ((rd_T51 l2 x80_3).f3)] 51 (0, 0))) ∧ Aside0 (Below w.heap.size w wc))
              case first =>
               have H := HC55.out
               clear HC55
               by_cases c64 : t669 = 0
               ·rw [if_pos c64] at H
                have c64b0 : (t669 == 0) = true := beq_iff_eq.mpr c64
                try simp only [beq_self_eq_true, Bool.not_true, Bool.false_or, Bool.true_and] at c64b0
                have c64b1 : (t669 != 0) = false := bne_eq_false_iff_eq.mpr c64
                clear c64
                (first | rw [c64b0] | (simp only [i64_w, i32_w]; rw [c64b0]) | skip)
                by_cases c65 : t668 < 0
                ·rw [if_pos c65] at H
                 exact absurd H (by simp)
                ·rw [if_neg c65] at H
                 have c65b0 : decide (t668 < 0) = false := decide_eq_false c65
                 clear c65
                 by_cases c66 : x80_3 < (t656.length : Int)
                 ·rw [if_pos c66] at H
                  have c66b0 : decide (x80_3 < (t656.length : Int)) = true := decide_eq_true c66
                  clear c66
                  have H' := Aside0.mk H
                  clear H
                  obtain ⟨Ao67, co67, eo67⟩ := Kd.R_slice HO_11.out
                  subst eo67
                  have p670 : 0 ≤ (x80_3 : Int) := of_decide_eq_true (by first | (with_reducible assumption) | assumption)
                  have q670 : x80_3 < (t656.length : Int) := of_decide_eq_true (by first | (with_reducible assumption) | assumption)
                  obtain ⟨ad670, e670, hx670_0⟩ := Kd.at_int (Kd.R_reads' HO_11.out).2.2 x80_3 p670 q670
                  cases e670
                  replace p670 := eq_true p670
                  replace q670 := eq_true q670
                  go_wp2
                  go_meet
                  case rel => exact ⟨_, (decide (t668 > (rd t656 x80_3))), (by first | rfl | (simp; done) | (simp [*]; done)), H', ⟨by have := HJ4.out; have := HJ28.out; have := HK3.out; first | omega | exact Nat.le_refl _⟩, ⟨by (with_reducible repeat (first | apply Kd.R_alloc | apply Kd.R_drewN | apply Kd.R_drew)); exact HO_11.out⟩, ⟨GS.bqX BK633.out⟩, ⟨GS.bqX BK662.out⟩, ⟨GS.lB HB.out⟩⟩
                 ·rw [if_neg c66] at H
                  exact absurd H (by simp)
               ·rw [if_neg c64] at H
                exact absurd H (by simp)
              case rest =>
               clear HC55
               try clear c1
               try clear c2
               try clear p2
               try clear c4
               try clear c5
               try clear c6
               try clear p6
               try clear q6
               try clear hx6
               try clear c8
               try clear c9
               try clear c10
               try clear c11
               try clear c12
               try clear c13
               try clear c18
               try clear c21
               try clear c22
               try clear c25
               try clear c25b0
               try clear c25b1
               try clear c44
               try clear c44b0
               try clear c44b1
               try clear c45
               try clear c45b0
               try clear c46
               try clear c46b0
               try clear c46b1
               try clear c46b2
               try clear c48
               try clear c49
               try clear c49b0
               try clear c50
               try clear c50b0
               try clear c51
               try clear c51b0
               try clear c53
               try clear c53b0
               try clear c57
               try clear c64
               try clear c64b0
               try clear c64b1
               try clear c65
               try clear c65b0
               try clear c66
               try clear c66b0
               try clear p66
               try clear q66
               try clear hx66
               try clear p67
               try clear q67
               try clear hx67
               try clear hcz12_0
               try clear hcz12_1
               try clear hcz15_0
               try clear hcz15_1
               try clear hcz30_0
               try clear hcz30_1
               try clear hcz38_0
               try clear hcz38_1
               try clear hcz58_0
               try clear hcz58_1
               try clear hcz58_2
               try clear hcz58_3
               try clear hfz12_0
               try clear hfz12_1
               try clear hfz15_0
               try clear hfz15_1
               try clear hfz30_0
               try clear hfz30_1
               try clear hfz38_0
               try clear hfz38_1
               try clear hfz58_0
               try clear hfz58_1
               try clear hfz58_2
               try clear hfz58_3
               try clear hx661_0
               try clear hx661_1
               try clear hx661_2
               try clear hx661_3
               try clear hx667_0
               try clear hx667_1
               try clear hx667_2
               try clear hx667_3
               try clear hx667_4
               try clear hx670_0
               try clear p2
               try clear p661
               try clear p667
               try clear p670
               try clear q661
               try clear q667
               try clear q670
               obtain ⟨kq, x110_54, rfl, HA, HJ54, HO_11, BK633, BK662, HB⟩ := hcut
               cases kq with
               | zero => exact absurd HA.out (by simp [spilelaw51_LiabilitySuffices.j3])
               | succ kj54 =>
                have H := HA.out
                clear HA
                simp only [spilelaw51_LiabilitySuffices.j3] at H
                by_cases c68 : x110_54 = true
                ·subst c68
                 have H1 : (none) = some r := by rw [if_pos rfl] at H; exact H
                 clear H
                 have H := H1
                 clear H1
                 exact absurd H (by simp)
                ·replace c68 := Bool.eq_false_iff.mpr c68
                 subst c68
                 have H1 : (spilelaw51_LiabilitySuffices.l0 kj54 l1 a3 t656 l2 (l2.length : Int) (wrap64 (x80_3 + 1)) a0_0 l0_1) = some r := by rw [if_neg (show ¬ (false = true) by decide)] at H; exact H
                 clear H
                 have H := H1
                 clear H1
                 have H' := Aside0.mk H
                 clear H
                 go_wp2
                 go_roundg kj54
                 case measure => have := HJ4.out; have := HJ28.out; have := HK3.out; have := HJ54.out; omega
                 case rel => exact ⟨(wrap64 (x80_3 + 1)), (by first | rfl | (simp; done) | (simp [*]; done)), H', ⟨by have := HJ4.out; have := HJ28.out; have := HK3.out; have := HJ54.out; omega⟩, ⟨by (with_reducible repeat (first | apply Kd.R_alloc | apply Kd.R_drewN | apply Kd.R_drew)); exact HO_11.out⟩, ⟨GS.bqX BK633.out⟩, ⟨GS.lB HB.out⟩⟩
             ·rw [if_neg c53] at H
              exact absurd H (by simp)
            ·rw [if_neg c51] at H
             exact absurd H (by simp)
           ·rw [if_neg c50] at H
            exact absurd H (by simp)
          ·rw [if_neg c49] at H
           have c49b0 : decide (x80_3 < (l2.length : Int)) = false := decide_eq_false c49
           clear c49
           obtain rfl := Option.some.inj H
           go_wp2
           go_ret
           exact ⟨by first | rfl | (simp [errW_none, errW_some] <;> rfl) | (simp [*, errW_none, errW_some] <;> rfl), GS.lB HB.out⟩
    ·rw [if_neg c25] at H
     have c25b0 : (t648 == 0) = false := beq_eq_false_iff_ne.mpr c25
     try simp only [beq_self_eq_true, Bool.not_true, Bool.false_or, Bool.true_and] at c25b0
     have c25b1 : (t648 != 0) = true := bne_iff_ne.mpr c25
     obtain rfl := Option.some.inj H
     obtain ⟨hcz69_0, hcz69_1, hfz69_0, hfz69_1⟩ := GS.c2 BK633.out
     go_wp2_with (first | ((with_reducible refine gqC (f := 12) rfl ?_); refine GS.gL (some 34) Try.func12 #[.agg #[.int .i64 a0_0, .slice A0_1 l0_1.length c0_1]] ?_; (with_reducible refine (spilelaw51_ct.calls a0_0 _ _ l0_1 t637 t638 _ ?side1 ?side2 A21.out).mono ?_); (case side1 => exact GS.rC (Kd.C_below HR0_1.out HB.out)); (case side2 => exact HC0_1.out); rintro e w70 ⟨v639, rfl, ho0, hb⟩; refine ⟨_, rfl, ?_⟩; have n0_ := Aside0.mk (Kd.R_lower ho0 (lqZ (GS.lB HB.out))); have n1_ := Aside0.mk (bqB (GS.bqX BK633.out) hb); have n2_ := Aside0.mk (lqT (GS.lB HB.out) hb); clear BK633; clear HB; have HO640 := n0_; have BK633 := n1_; have HB := n2_; clear n0_ n1_ n2_; (try clear hb); (try clear hb2); (try clear hk); (try clear hi); (try clear ho0)) | ((with_reducible refine gqC (f := 13) rfl ?_); refine GS.gL (some 36) Try.func13 #[.slice A1 l1.length c1] ?_; (with_reducible refine (clone13.calls _ _ l1 t641 _ ?side1 ?side2 A22.out).mono ?_); (case side1 => exact GS.rC (Kd.C_below HR1.out HB.out)); (case side2 => exact HC1.out); rintro e w71 ⟨v642, rfl, ho0, hb⟩; refine ⟨_, rfl, ?_⟩; have n0_ := Aside0.mk (Kd.R_below (GS.rR HO640.out) hb); have n1_ := Aside0.mk (Kd.R_lower ho0 (lqZ (GS.lB HB.out))); have n2_ := Aside0.mk (bqB (GS.bqX BK633.out) hb); have n3_ := Aside0.mk (lqT (GS.lB HB.out) hb); clear HO640; clear BK633; clear HB; have HO640 := n0_; have HO643 := n1_; have BK633 := n2_; have HB := n3_; clear n0_ n1_ n2_ n3_; (try clear hb); (try clear hb2); (try clear hk); (try clear hi); (try clear ho0)) | ((with_reducible refine gqC (f := 22) rfl ?_); refine GS.gL (some 38) Try.func22 #[.slice A2 l2.length c2] ?_; (with_reducible refine (clone22.calls _ _ l2 t644 _ ?side1 ?side2 A23.out).mono ?_); (case side1 => exact GS.rC (Kd.C_below HR2.out HB.out)); (case side2 => exact HC2.out); rintro e w72 ⟨v645, rfl, ho0, hb⟩; refine ⟨_, rfl, ?_⟩; have n0_ := Aside0.mk (Kd.R_below (GS.rR HO640.out) hb); have n1_ := Aside0.mk (Kd.R_below (GS.rR HO643.out) hb); have n2_ := Aside0.mk (Kd.R_lower ho0 (lqZ (GS.lB HB.out))); have n3_ := Aside0.mk (bqB (GS.bqX BK633.out) hb); have n4_ := Aside0.mk (lqT (GS.lB HB.out) hb); clear HO640; clear HO643; clear BK633; clear HB; have HO640 := n0_; have HO643 := n1_; have HO646 := n2_; have BK633 := n3_; have HB := n4_; clear n0_ n1_ n2_ n3_ n4_; (try clear hb); (try clear hb2); (try clear hk); (try clear hi); (try clear ho0); obtain ⟨Ao73, co73, eo73⟩ := Kd.R_slice HO640.out; subst eo73; obtain ⟨Ao74, co74, eo74⟩ := Kd.R_slice HO643.out; subst eo74; obtain ⟨Ao75, co75, eo75⟩ := Kd.R_slice HO646.out; subst eo75) | ((with_reducible refine gqC (f := 21) rfl ?_); refine GS.gL (some 40) Try.func21 #[.agg #[.int .i64 t637, .slice Ao73 t638.length co73], .slice Ao74 t641.length co74, .slice Ao75 t644.length co75, .int .i64 a3] ?_; (with_reducible refine (liability_Sum.calls kj4 t637 _ _ t638 _ _ t641 _ _ t644 a3 t647 t648 _ ?side1 ?side2 ?side3 ?side4 ?side5 ?side6 A24.out).mono ?_); (case side1 => repeat (first | exact (Kd.R_reads' HO640.out).2.2 | (with_reducible refine Kd.C_alloc ?_ _) | (with_reducible refine Kd.C_drewN ?_ _) | (with_reducible refine Kd.C_drew ?_))); (case side2 => exact (Kd.R_reads' HO640.out).2.1); (case side3 => repeat (first | exact (Kd.R_reads' HO643.out).2.2 | (with_reducible refine Kd.C_alloc ?_ _) | (with_reducible refine Kd.C_drewN ?_ _) | (with_reducible refine Kd.C_drew ?_))); (case side4 => exact (Kd.R_reads' HO643.out).2.1); (case side5 => repeat (first | exact (Kd.R_reads' HO646.out).2.2 | (with_reducible refine Kd.C_alloc ?_ _) | (with_reducible refine Kd.C_drewN ?_ _) | (with_reducible refine Kd.C_drew ?_))); (case side6 => exact (Kd.R_reads' HO646.out).2.1); rintro e w76 ⟨rfl, hb⟩; refine ⟨_, rfl, ?_⟩; have n0_ := Aside0.mk (Kd.R_below (GS.rR HO640.out) hb); have n1_ := Aside0.mk (Kd.R_below (GS.rR HO643.out) hb); have n2_ := Aside0.mk (Kd.R_below (GS.rR HO646.out) hb); have n3_ := Aside0.mk (bqB (GS.bqX BK633.out) hb); have n4_ := Aside0.mk (lqT (GS.lB HB.out) hb); clear HO640; clear HO643; clear HO646; clear BK633; clear HB; have HO640 := n0_; have HO643 := n1_; have HO646 := n2_; have BK633 := n3_; have HB := n4_; clear n0_ n1_ n2_ n3_ n4_; (try clear hb); (try clear hb2); (try clear hk); (try clear hi)))
     go_ret
     exact ⟨by first | rfl | (simp [errW_none, errW_some] <;> rfl) | (simp [*, errW_none, errW_some] <;> rfl), GS.lB HB.out⟩

end Go.Proofs.Ythboaobgipodiaa.K
