-- PRINTED by print.py (a twelfth state) out of the translation. Not trusted: Lean checks it.
import Derived.Test.YtfjenooajbdcmaaK0
import Derived.Test.YtfjenooajbdcmaaGPu
import Derived.Test.YtfjenooajbdcmaaGShort
import Derived.Test.YtfjenooajbdcmaaK9
import Derived.Test.YtfjenooajbdcmaaGClone
import Derived.Test.YtfjenooajbdcmaaGOpen
import Derived.Test.YtfjenooajbdcmaaGUnbroken
namespace Go.Proofs.Ytfjenooajbdcmaa.K
open Go.RowKit Go.Proofs.YtfjenooajbdcmaaW.PrintWords Go.Proofs.YtfjenooajbdcmaaW.PrintLast Go.Proofs.YtfjenooajbdcmaaW.PrintMore
attribute [local go_sem] max2_int min2_int max_two min_two max_three min_three max_four min_four   -- for this text's walks alone
set_option linter.unusedVariables false
set_option linter.unusedSimpArgs false

/-! ### spilelaw39_SealParts: function 4 -/
def spilelaw39_SealParts.j0 : Nat → List (S34) → Int → Bool → Int → Int → Int → Option (Bool)
 | 0, _, _, _, _, _, _ => none
 | k + 1, x0, x2, x40, x361000, x361001, x361002 => if x40 = true then (some true) else ((clone34.f x0).bind fun t363 => ((seal_Unbroken.f t363 x361000 x361001 x361002).bind fun bt366 => ((clone34.f x0).bind fun t368 => ((seal_Open.f t368 x361000 x361001 x361002).bind fun bt371 => (if bt366.2 = 0 then ((clone34.f x0).bind fun t373 => ((seal_Open.f t373 x361000 x361001 x2).bind fun bt376 => ((clone34.f x0).bind fun t378 => ((seal_Open.f t378 x361000 (wrap64 (x2 + 1)) x361002).bind fun bt381 => ((clone34.f x0).bind fun t383 => ((seal_Unbroken.f t383 x361000 x361001 x2).bind fun bt386 => ((clone34.f x0).bind fun t388 => ((seal_Unbroken.f t388 x361000 x2 x361002).bind fun bt391 => (if bt371.2 = 0 then (if (wrap64 ((wrap64 ((wrap64 (bt376.2 + bt381.2)) + bt386.2)) + bt391.2)) = 0 then (if (wrap64 (bt376.1 + bt381.1)) = bt371.1 then (if bt366.1 = true then (if bt371.1 = 0 then (if bt386.1 = true then (some bt391.1) else (none)) else (none)) else (some true)) else (none)) else (none)) else (none)))))))))) else (if bt366.2 = bt371.2 then (if bt366.1 = true then (none) else (some (bt371.1 == 0))) else (none)))))))
def spilelaw39_SealParts.f (k : Nat) (l0 : List (S34)) (a1_0 : Int) (a1_1 : Int) (a1_2 : Int) (a2 : Int) : Option (Bool) := (spilelaw39_awake.f k).bind fun t361 => (if t361 = true then (if (l0.length : Int) > 20 then (spilelaw39_SealParts.j0 k l0 a2 true a1_0 a1_1 a1_2) else ((spilelaw39_short.f a1_0 a1_1 a1_2).bind fun t362 => (if t362 = true then (if a2 < a1_1 then (spilelaw39_SealParts.j0 k l0 a2 true a1_0 a1_1 a1_2) else (spilelaw39_SealParts.j0 k l0 a2 (decide (a2 ≥ a1_2)) a1_0 a1_1 a1_2)) else (spilelaw39_SealParts.j0 k l0 a2 true a1_0 a1_1 a1_2)))) else (none))
theorem spilelaw39_SealParts.mono_l : ∀ k, (∀ y0 y1 y2 y3 y4 y5, LeO (spilelaw39_SealParts.j0 k y0 y1 y2 y3 y4 y5) (spilelaw39_SealParts.j0 (k + 1) y0 y1 y2 y3 y4 y5))
 | 0 => fun _ _ _ _ _ _ r h => by simp [spilelaw39_SealParts.j0] at h
 | k + 1 => by
  have ih0 := spilelaw39_SealParts.mono_l k
  ·intro y0 y1 y2 y3 y4 y5
   unfold spilelaw39_SealParts.j0
   repeat' first
   | (with_reducible exact ih0 _ _ _ _ _ _)
   | (with_reducible exact spilelaw39_awake.mono _)
   | (with_reducible exact LeO.refl _)
   | (with_reducible exact LeO.none _)
   | (with_reducible refine LeO.ite ?_ ?_)
   | (with_reducible refine LeO.bind ?_ (fun _ => ?_))
   | exact ih0 _ _ _ _ _ _
   | exact spilelaw39_awake.mono _
   | exact LeO.none _
   | refine LeO.ite ?_ ?_
   | refine LeO.bind ?_ (fun _ => ?_)
theorem spilelaw39_SealParts.mono : ∀ a0 a1 a2 a3 a4 k, LeO (spilelaw39_SealParts.f k a0 a1 a2 a3 a4) (spilelaw39_SealParts.f (k + 1) a0 a1 a2 a3 a4) := by
 intro a0 a1 a2 a3 a4 k
 have ih0 := spilelaw39_SealParts.mono_l k
 unfold spilelaw39_SealParts.f
 repeat' first
   | (with_reducible exact ih0 _ _ _ _ _ _)
   | (with_reducible exact spilelaw39_awake.mono _)
   | (with_reducible exact LeO.refl _)
   | (with_reducible exact LeO.none _)
   | (with_reducible refine LeO.ite ?_ ?_)
   | (with_reducible refine LeO.bind ?_ (fun _ => ?_))
   | exact ih0 _ _ _ _ _ _
   | exact spilelaw39_awake.mono _
   | exact LeO.none _
   | refine LeO.ite ?_ ?_
   | refine LeO.bind ?_ (fun _ => ?_)
def spilelaw39_SealParts.T5 : Bool × List (List Nat × List Nat) := (true, [([], []), ([0], [0]), ([], []), ([2], [2]), ([], []), ([4], [4]), ([], []), ([6], [6]), ([1, 3, 5, 7, 1], [1, 3, 5, 7]), ([8], [8]), ([9], [9]), ([9], [9]), ([10, 8, 0, 1, 2, 3, 4, 5, 6, 7, 8, 9, 10], [10]), ([11, 12, 0, 1, 2, 3, 4, 5, 6, 7, 8, 9, 10, 11, 12], [11])])
def spilelaw39_SealParts.B5 : List Nat := [0, 1, 0, 4, 0, 16, 0, 64, 255, 511, 1023, 1023, 2047, 8191]
theorem spilelaw39_SealParts.tab5 : rtab .any (opsOf Try.f4 5) = spilelaw39_SealParts.T5 := by kernel_rfl
theorem spilelaw39_SealParts.bits5 : waitsOk spilelaw39_SealParts.T5.2 spilelaw39_SealParts.B5 = true := by kernel_rfl
def spilelaw39_SealParts.T6 : Bool × List (List Nat × List Nat) := (true, [([], []), ([0], [0]), ([], []), ([2], [2]), ([], []), ([4], [4]), ([], []), ([6], [6]), ([1, 3, 5, 7, 1], [1, 3, 5, 7]), ([8], [8]), ([9], [9]), ([9], [9]), ([10, 8, 0, 1, 2, 3, 4, 5, 6, 7, 8, 9, 10], [10]), ([11, 12, 0, 1, 2, 3, 4, 5, 6, 7, 8, 9, 10, 11, 12], [11])])
def spilelaw39_SealParts.B6 : List Nat := [0, 1, 0, 4, 0, 16, 0, 64, 255, 511, 1023, 1023, 2047, 8191]
theorem spilelaw39_SealParts.tab6 : rtab .any (opsOf Try.f4 6) = spilelaw39_SealParts.T6 := by kernel_rfl
theorem spilelaw39_SealParts.bits6 : waitsOk spilelaw39_SealParts.T6.2 spilelaw39_SealParts.B6 = true := by kernel_rfl
def spilelaw39_SealParts.T9 : Bool × List (List Nat × List Nat) := (true, [([], []), ([0], [0]), ([], []), ([2], [2]), ([], []), ([4], [4]), ([], []), ([1, 3, 5, 6, 1], [1, 3, 5, 6]), ([7], [7]), ([8], [8]), ([8], [8]), ([9, 7, 0, 1, 2, 3, 4, 5, 6, 7, 8, 9], [9]), ([10, 11, 0, 1, 2, 3, 4, 5, 6, 7, 8, 9, 10, 11], [10])])
def spilelaw39_SealParts.B9 : List Nat := [0, 1, 0, 4, 0, 16, 0, 127, 255, 511, 511, 1023, 4095]
theorem spilelaw39_SealParts.tab9 : rtab .any (opsOf Try.f4 9) = spilelaw39_SealParts.T9 := by kernel_rfl
theorem spilelaw39_SealParts.bits9 : waitsOk spilelaw39_SealParts.T9.2 spilelaw39_SealParts.B9 = true := by kernel_rfl
def spilelaw39_SealParts.T10 : Bool × List (List Nat × List Nat) := (true, [([], []), ([0], [0]), ([], []), ([2], [2]), ([], []), ([4], [4]), ([], []), ([6], [6]), ([1, 3, 5, 7, 1], [1, 3, 5, 7]), ([8], [8]), ([9], [9]), ([9], [9]), ([10, 8, 0, 1, 2, 3, 4, 5, 6, 7, 8, 9, 10], [10]), ([11, 12, 0, 1, 2, 3, 4, 5, 6, 7, 8, 9, 10, 11, 12], [11])])
def spilelaw39_SealParts.B10 : List Nat := [0, 1, 0, 4, 0, 16, 0, 64, 255, 511, 1023, 1023, 2047, 8191]
theorem spilelaw39_SealParts.tab10 : rtab .any (opsOf Try.f4 10) = spilelaw39_SealParts.T10 := by kernel_rfl
theorem spilelaw39_SealParts.bits10 : waitsOk spilelaw39_SealParts.T10.2 spilelaw39_SealParts.B10 = true := by kernel_rfl
def spilelaw39_SealParts.T11 : Bool × List (List Nat × List Nat) := (true, [([], []), ([0], [0]), ([], []), ([2], [2]), ([], []), ([4], [4]), ([], []), ([1, 3, 5, 6, 1], [1, 3, 5, 6]), ([7], [7]), ([8], [8]), ([8], [8]), ([9, 7, 0, 1, 2, 3, 4, 5, 6, 7, 8, 9], [9]), ([10, 11, 0, 1, 2, 3, 4, 5, 6, 7, 8, 9, 10, 11], [10])])
def spilelaw39_SealParts.B11 : List Nat := [0, 1, 0, 4, 0, 16, 0, 127, 255, 511, 511, 1023, 4095]
theorem spilelaw39_SealParts.tab11 : rtab .any (opsOf Try.f4 11) = spilelaw39_SealParts.T11 := by kernel_rfl
theorem spilelaw39_SealParts.bits11 : waitsOk spilelaw39_SealParts.T11.2 spilelaw39_SealParts.B11 = true := by kernel_rfl
def spilelaw39_SealParts.T12 : Bool × List (List Nat × List Nat) := (true, [([], []), ([0], [0]), ([], []), ([2], [2]), ([], []), ([], []), ([5], [5]), ([1, 3, 4, 6, 1], [1, 3, 4, 6]), ([7], [7]), ([8], [8]), ([8], [8]), ([9, 7, 0, 1, 2, 3, 4, 5, 6, 7, 8, 9], [9]), ([10, 11, 0, 1, 2, 3, 4, 5, 6, 7, 8, 9, 10, 11], [10])])
def spilelaw39_SealParts.B12 : List Nat := [0, 1, 0, 4, 0, 0, 32, 127, 255, 511, 511, 1023, 4095]
theorem spilelaw39_SealParts.tab12 : rtab .any (opsOf Try.f4 12) = spilelaw39_SealParts.T12 := by kernel_rfl
theorem spilelaw39_SealParts.bits12 : waitsOk spilelaw39_SealParts.T12.2 spilelaw39_SealParts.B12 = true := by kernel_rfl
set_option maxHeartbeats 8000000 in
set_option maxRecDepth 100000 in
theorem spilelaw39_SealParts.calls (k : Nat) (A0 : Option Addr) (c0 : Nat) (l0 : List (S34)) (a1_0 : Int) (a1_1 : Int) (a1_2 : Int) (a2 : Int) (r : Bool) (w : World) (hr0 : Kd.C k34 w A0 l0.length l0) (hc0 : l0.length ≤ c0) (h : spilelaw39_SealParts.f k l0 a1_0 a1_1 a1_2 a2 = some r) :
  Calls Try.prog 4 #[.slice A0 l0.length c0, .agg #[.int .i64 a1_0, .int .i64 a1_1, .int .i64 a1_2], .int .i64 a2] w fun e w' => e = .returned (.bool r) ∧ Below w.heap.size w w' := by
 have hu24 := Try.underlying24
 have HR0 := Aside0.mk hr0
 have HC0 := Aside0.mk hc0
 clear hr0 hc0
 have HB := Aside0.mk (Below.refl w.heap.size w)
 have H : ((spilelaw39_awake.f k).bind fun t361 => (if t361 = true then (if (l0.length : Int) > 20 then (spilelaw39_SealParts.j0 k l0 a2 true a1_0 a1_1 a1_2) else ((spilelaw39_short.f a1_0 a1_1 a1_2).bind fun t362 => (if t362 = true then (if a2 < a1_1 then (spilelaw39_SealParts.j0 k l0 a2 true a1_0 a1_1 a1_2) else (spilelaw39_SealParts.j0 k l0 a2 (decide (a2 ≥ a1_2)) a1_0 a1_1 a1_2)) else (spilelaw39_SealParts.j0 k l0 a2 true a1_0 a1_1 a1_2)))) else (none))) = some r := h
 clear h
 replace H := Option.bind_eq_some_iff.mp H
 obtain ⟨t361, A40, H⟩ := H
 replace H : (if t361 = true then (if (l0.length : Int) > 20 then (spilelaw39_SealParts.j0 k l0 a2 true a1_0 a1_1 a1_2) else ((spilelaw39_short.f a1_0 a1_1 a1_2).bind fun t362 => (if t362 = true then (if a2 < a1_1 then (spilelaw39_SealParts.j0 k l0 a2 true a1_0 a1_1 a1_2) else (spilelaw39_SealParts.j0 k l0 a2 (decide (a2 ≥ a1_2)) a1_0 a1_1 a1_2)) else (spilelaw39_SealParts.j0 k l0 a2 true a1_0 a1_1 a1_2)))) else (none)) = some r := H
 have A4 := Aside0.mk A40
 clear A40
 by_cases c5 : t361 = true
 ·subst c5
  have H1 : (if (l0.length : Int) > 20 then (spilelaw39_SealParts.j0 k l0 a2 true a1_0 a1_1 a1_2) else ((spilelaw39_short.f a1_0 a1_1 a1_2).bind fun t362 => (if t362 = true then (if a2 < a1_1 then (spilelaw39_SealParts.j0 k l0 a2 true a1_0 a1_1 a1_2) else (spilelaw39_SealParts.j0 k l0 a2 (decide (a2 ≥ a1_2)) a1_0 a1_1 a1_2)) else (spilelaw39_SealParts.j0 k l0 a2 true a1_0 a1_1 a1_2)))) = some r := by rw [if_pos rfl] at H; exact H
  clear H
  have H := H1
  clear H1
  have HC6 := Aside0.mk H
  clear H
  go_enter Try.func4, Try.ntmps4
  go_upto_region 3 with (first | ((with_reducible refine gqD (N := 4) rfl ?_); refine GS.bx (N := 4) (cs := #[.int .i64 a1_0, .int .i64 a1_1, .int .i64 a1_2]) (t := 24) ?_; intro gb360 hg w7 hbox hb; have n0_ := Aside0.mk (lqT (GS.lB HB.out) hb); have n1_ := Aside0.mk (hbox); have n2_ := Aside0.mk ((by rw [hg]; exact (lqZ (GS.lB HB.out)) : w.heap.size ≤ gb360)); have n3_ := Aside0.mk ((by rw [hg]; exact (lqZ (GS.lB HB.out)) : w.heap.size ≤ gb360)); clear HB; have HB := n0_; have BK360 := n1_; have GW360 := n2_; have GE360 := n3_; clear n0_ n1_ n2_ n3_; clear hb hbox hg) | ((with_reducible refine gqC (f := 10) rfl ?_); refine GS.gL (some 19) Try.func10 #[] ?_; (with_reducible refine (spilelaw39_awake.calls k  true _ A4.out).mono ?_); rintro e w8 ⟨rfl, hb⟩; refine ⟨_, rfl, ?_⟩; have n0_ := Aside0.mk (bqB (GS.bqX BK360.out) hb); have n1_ := Aside0.mk (lqT (GS.lB HB.out) hb); clear BK360; clear HB; have BK360 := n0_; have HB := n1_; clear n0_ n1_; (try clear hb); (try clear hb2); (try clear hk); (try clear hi)))
  (try simp only [Act.put, List.setIfInBounds_toArray, List.set_cons_zero, List.set_cons_succ])
  go_cut [40] (fun v40 wc => ∃ (kq : Nat) (x40_5 : Bool), v40 = .bool x40_5 ∧ Aside0 (spilelaw39_SealParts.j0 kq l0 a2 x40_5 a1_0 a1_1 a1_2 = some r) ∧ Aside0 (kq ≤ k) ∧ Aside0 (wc.heap[gb360]? = some (.cells #[.int .i64 a1_0, .int .i64 a1_1, .int .i64 a1_2] 24 (0, 0))) ∧ Aside0 (Below w.heap.size w wc))
  case first =>
   have H := HC6.out
   clear HC6
   by_cases c9 : (l0.length : Int) > 20
   ·rw [if_pos c9] at H
    have c9b0 : decide (20 < (l0.length : Int)) = true := decide_eq_true c9
    have c9b1 : decide (20 < l0.length) = true := decide_eq_true (by omega)
    clear c9
    (first | rw [c9b0] | (simp only [i64_w, i32_w]; rw [c9b0]) | skip)
    have H' := Aside0.mk H
    clear H
    go_wp2
    go_meet
    case rel => exact ⟨_, (true), (by first | rfl | (simp; done) | (simp [*]; done)), H', ⟨by first | omega | exact Nat.le_refl _⟩, ⟨GS.bqX BK360.out⟩, ⟨GS.lB HB.out⟩⟩
   ·rw [if_neg c9] at H
    have c9b0 : decide (20 < (l0.length : Int)) = false := decide_eq_false c9
    have c9b1 : decide (20 < l0.length) = false := decide_eq_false (by omega)
    clear c9
    (first | rw [c9b0] | (simp only [i64_w, i32_w]; rw [c9b0]) | skip)
    replace H := Option.bind_eq_some_iff.mp H
    obtain ⟨t362, A100, H⟩ := H
    replace H : (if t362 = true then (if a2 < a1_1 then (spilelaw39_SealParts.j0 k l0 a2 true a1_0 a1_1 a1_2) else (spilelaw39_SealParts.j0 k l0 a2 (decide (a2 ≥ a1_2)) a1_0 a1_1 a1_2)) else (spilelaw39_SealParts.j0 k l0 a2 true a1_0 a1_1 a1_2)) = some r := H
    have A10 := Aside0.mk A100
    clear A100
    by_cases c11 : t362 = true
    ·subst c11
     have H1 : (if a2 < a1_1 then (spilelaw39_SealParts.j0 k l0 a2 true a1_0 a1_1 a1_2) else (spilelaw39_SealParts.j0 k l0 a2 (decide (a2 ≥ a1_2)) a1_0 a1_1 a1_2)) = some r := by rw [if_pos rfl] at H; exact H
     clear H
     have H := H1
     clear H1
     by_cases c12 : a2 < a1_1
     ·rw [if_pos c12] at H
      have c12b0 : decide (a2 < a1_1) = true := decide_eq_true c12
      clear c12
      have H' := Aside0.mk H
      clear H
      obtain ⟨hcz13_0, hcz13_1, hcz13_2, hfz13_0, hfz13_1, hfz13_2⟩ := GS.c3 BK360.out
      go_wp2_with (first | (go_at_call 12; (with_reducible refine (spilelaw39_short.calls a1_0 a1_1 a1_2 true _ A10.out).mono ?_); rintro e w14 ⟨rfl, hb⟩; have n0_ := Aside0.mk (bqB (GS.bqX BK360.out) hb); have n1_ := Aside0.mk (lqT (GS.lB HB.out) hb); clear BK360; clear HB; have BK360 := n0_; have HB := n1_; clear n0_ n1_; (try clear hb); (try clear hb2); (try clear hk); (try clear hi); obtain ⟨hcz15_0, hcz15_1, hcz15_2, hfz15_0, hfz15_1, hfz15_2⟩ := GS.c3 BK360.out))
      go_meet
      case rel => exact ⟨_, (true), (by first | rfl | (simp; done) | (simp [*]; done)), H', ⟨by first | omega | exact Nat.le_refl _⟩, ⟨GS.bqX BK360.out⟩, ⟨GS.lB HB.out⟩⟩
     ·rw [if_neg c12] at H
      have c12b0 : decide (a2 < a1_1) = false := decide_eq_false c12
      clear c12
      have H' := Aside0.mk H
      clear H
      obtain ⟨hcz16_0, hcz16_1, hcz16_2, hfz16_0, hfz16_1, hfz16_2⟩ := GS.c3 BK360.out
      go_wp2_with (first | (go_at_call 12; (with_reducible refine (spilelaw39_short.calls a1_0 a1_1 a1_2 true _ A10.out).mono ?_); rintro e w17 ⟨rfl, hb⟩; have n0_ := Aside0.mk (bqB (GS.bqX BK360.out) hb); have n1_ := Aside0.mk (lqT (GS.lB HB.out) hb); clear BK360; clear HB; have BK360 := n0_; have HB := n1_; clear n0_ n1_; (try clear hb); (try clear hb2); (try clear hk); (try clear hi); obtain ⟨hcz18_0, hcz18_1, hcz18_2, hfz18_0, hfz18_1, hfz18_2⟩ := GS.c3 BK360.out))
      go_meet
      case rel => exact ⟨_, (decide (a2 ≥ a1_2)), (by first | rfl | (simp; done) | (simp [*]; done)), H', ⟨by first | omega | exact Nat.le_refl _⟩, ⟨GS.bqX BK360.out⟩, ⟨GS.lB HB.out⟩⟩
    ·replace c11 := Bool.eq_false_iff.mpr c11
     subst c11
     have H1 : (spilelaw39_SealParts.j0 k l0 a2 true a1_0 a1_1 a1_2) = some r := by rw [if_neg (show ¬ (false = true) by decide)] at H; exact H
     clear H
     have H := H1
     clear H1
     have H' := Aside0.mk H
     clear H
     obtain ⟨hcz19_0, hcz19_1, hcz19_2, hfz19_0, hfz19_1, hfz19_2⟩ := GS.c3 BK360.out
     go_wp2_with (first | (go_at_call 12; (with_reducible refine (spilelaw39_short.calls a1_0 a1_1 a1_2 false _ A10.out).mono ?_); rintro e w20 ⟨rfl, hb⟩; have n0_ := Aside0.mk (bqB (GS.bqX BK360.out) hb); have n1_ := Aside0.mk (lqT (GS.lB HB.out) hb); clear BK360; clear HB; have BK360 := n0_; have HB := n1_; clear n0_ n1_; (try clear hb); (try clear hb2); (try clear hk); (try clear hi)))
     go_meet
     case rel => exact ⟨_, (true), (by first | rfl | (simp; done) | (simp [*]; done)), H', ⟨by first | omega | exact Nat.le_refl _⟩, ⟨GS.bqX BK360.out⟩, ⟨GS.lB HB.out⟩⟩
  case rest =>
   clear HC6
   try clear c1
   try clear p2
   try clear c4
   try clear c5
   try clear c9
   try clear c9b0
   try clear c9b1
   try clear c10
   try clear c11
   try clear c12
   try clear c12b0
   try clear hcz13_0
   try clear hcz13_1
   try clear hcz13_2
   try clear hcz15_0
   try clear hcz15_1
   try clear hcz15_2
   try clear hcz16_0
   try clear hcz16_1
   try clear hcz16_2
   try clear hcz18_0
   try clear hcz18_1
   try clear hcz18_2
   try clear hcz19_0
   try clear hcz19_1
   try clear hcz19_2
   try clear hfz13_0
   try clear hfz13_1
   try clear hfz13_2
   try clear hfz15_0
   try clear hfz15_1
   try clear hfz15_2
   try clear hfz16_0
   try clear hfz16_1
   try clear hfz16_2
   try clear hfz18_0
   try clear hfz18_1
   try clear hfz18_2
   try clear hfz19_0
   try clear hfz19_1
   try clear hfz19_2
   obtain ⟨kq, x40_5, rfl, HA, HJ5, BK360, HB⟩ := hcut
   cases kq with
   | zero => exact absurd HA.out (by simp [spilelaw39_SealParts.j0])
   | succ kj5 =>
    have H := HA.out
    clear HA
    simp only [spilelaw39_SealParts.j0] at H
    by_cases c21 : x40_5 = true
    ·subst c21
     have H1 : (some true) = some r := by rw [if_pos rfl] at H; exact H
     clear H
     have H := H1
     clear H1
     obtain rfl := Option.some.inj H
     go_wp2
     go_ret
     exact ⟨by first | rfl | (simp [errW_none, errW_some] <;> rfl) | (simp [*, errW_none, errW_some] <;> rfl), GS.lB HB.out⟩
    ·replace c21 := Bool.eq_false_iff.mpr c21
     subst c21
     have H1 : ((clone34.f l0).bind fun t363 => ((seal_Unbroken.f t363 a1_0 a1_1 a1_2).bind fun bt366 => ((clone34.f l0).bind fun t368 => ((seal_Open.f t368 a1_0 a1_1 a1_2).bind fun bt371 => (if bt366.2 = 0 then ((clone34.f l0).bind fun t373 => ((seal_Open.f t373 a1_0 a1_1 a2).bind fun bt376 => ((clone34.f l0).bind fun t378 => ((seal_Open.f t378 a1_0 (wrap64 (a2 + 1)) a1_2).bind fun bt381 => ((clone34.f l0).bind fun t383 => ((seal_Unbroken.f t383 a1_0 a1_1 a2).bind fun bt386 => ((clone34.f l0).bind fun t388 => ((seal_Unbroken.f t388 a1_0 a2 a1_2).bind fun bt391 => (if bt371.2 = 0 then (if (wrap64 ((wrap64 ((wrap64 (bt376.2 + bt381.2)) + bt386.2)) + bt391.2)) = 0 then (if (wrap64 (bt376.1 + bt381.1)) = bt371.1 then (if bt366.1 = true then (if bt371.1 = 0 then (if bt386.1 = true then (some bt391.1) else (none)) else (none)) else (some true)) else (none)) else (none)) else (none)))))))))) else (if bt366.2 = bt371.2 then (if bt366.1 = true then (none) else (some (bt371.1 == 0))) else (none))))))) = some r := by rw [if_neg (show ¬ (false = true) by decide)] at H; exact H
     clear H
     have H := H1
     clear H1
     replace H := Option.bind_eq_some_iff.mp H
     obtain ⟨t363, A220, H⟩ := H
     replace H : ((seal_Unbroken.f t363 a1_0 a1_1 a1_2).bind fun bt366 => ((clone34.f l0).bind fun t368 => ((seal_Open.f t368 a1_0 a1_1 a1_2).bind fun bt371 => (if bt366.2 = 0 then ((clone34.f l0).bind fun t373 => ((seal_Open.f t373 a1_0 a1_1 a2).bind fun bt376 => ((clone34.f l0).bind fun t378 => ((seal_Open.f t378 a1_0 (wrap64 (a2 + 1)) a1_2).bind fun bt381 => ((clone34.f l0).bind fun t383 => ((seal_Unbroken.f t383 a1_0 a1_1 a2).bind fun bt386 => ((clone34.f l0).bind fun t388 => ((seal_Unbroken.f t388 a1_0 a2 a1_2).bind fun bt391 => (if bt371.2 = 0 then (if (wrap64 ((wrap64 ((wrap64 (bt376.2 + bt381.2)) + bt386.2)) + bt391.2)) = 0 then (if (wrap64 (bt376.1 + bt381.1)) = bt371.1 then (if bt366.1 = true then (if bt371.1 = 0 then (if bt386.1 = true then (some bt391.1) else (none)) else (none)) else (some true)) else (none)) else (none)) else (none)))))))))) else (if bt366.2 = bt371.2 then (if bt366.1 = true then (none) else (some (bt371.1 == 0))) else (none)))))) = some r := H
     have A22 := Aside0.mk A220
     clear A220
     replace H := Option.bind_eq_some_iff.mp H
     obtain ⟨⟨t366, t367⟩, A230, H⟩ := H
     replace H : ((clone34.f l0).bind fun t368 => ((seal_Open.f t368 a1_0 a1_1 a1_2).bind fun bt371 => (if t367 = 0 then ((clone34.f l0).bind fun t373 => ((seal_Open.f t373 a1_0 a1_1 a2).bind fun bt376 => ((clone34.f l0).bind fun t378 => ((seal_Open.f t378 a1_0 (wrap64 (a2 + 1)) a1_2).bind fun bt381 => ((clone34.f l0).bind fun t383 => ((seal_Unbroken.f t383 a1_0 a1_1 a2).bind fun bt386 => ((clone34.f l0).bind fun t388 => ((seal_Unbroken.f t388 a1_0 a2 a1_2).bind fun bt391 => (if bt371.2 = 0 then (if (wrap64 ((wrap64 ((wrap64 (bt376.2 + bt381.2)) + bt386.2)) + bt391.2)) = 0 then (if (wrap64 (bt376.1 + bt381.1)) = bt371.1 then (if t366 = true then (if bt371.1 = 0 then (if bt386.1 = true then (some bt391.1) else (none)) else (none)) else (some true)) else (none)) else (none)) else (none)))))))))) else (if t367 = bt371.2 then (if t366 = true then (none) else (some (bt371.1 == 0))) else (none))))) = some r := H
     have A23 := Aside0.mk A230
     clear A230
     replace H := Option.bind_eq_some_iff.mp H
     obtain ⟨t368, A240, H⟩ := H
     replace H : ((seal_Open.f t368 a1_0 a1_1 a1_2).bind fun bt371 => (if t367 = 0 then ((clone34.f l0).bind fun t373 => ((seal_Open.f t373 a1_0 a1_1 a2).bind fun bt376 => ((clone34.f l0).bind fun t378 => ((seal_Open.f t378 a1_0 (wrap64 (a2 + 1)) a1_2).bind fun bt381 => ((clone34.f l0).bind fun t383 => ((seal_Unbroken.f t383 a1_0 a1_1 a2).bind fun bt386 => ((clone34.f l0).bind fun t388 => ((seal_Unbroken.f t388 a1_0 a2 a1_2).bind fun bt391 => (if bt371.2 = 0 then (if (wrap64 ((wrap64 ((wrap64 (bt376.2 + bt381.2)) + bt386.2)) + bt391.2)) = 0 then (if (wrap64 (bt376.1 + bt381.1)) = bt371.1 then (if t366 = true then (if bt371.1 = 0 then (if bt386.1 = true then (some bt391.1) else (none)) else (none)) else (some true)) else (none)) else (none)) else (none)))))))))) else (if t367 = bt371.2 then (if t366 = true then (none) else (some (bt371.1 == 0))) else (none)))) = some r := H
     have A24 := Aside0.mk A240
     clear A240
     replace H := Option.bind_eq_some_iff.mp H
     obtain ⟨⟨t371, t372⟩, A250, H⟩ := H
     replace H : (if t367 = 0 then ((clone34.f l0).bind fun t373 => ((seal_Open.f t373 a1_0 a1_1 a2).bind fun bt376 => ((clone34.f l0).bind fun t378 => ((seal_Open.f t378 a1_0 (wrap64 (a2 + 1)) a1_2).bind fun bt381 => ((clone34.f l0).bind fun t383 => ((seal_Unbroken.f t383 a1_0 a1_1 a2).bind fun bt386 => ((clone34.f l0).bind fun t388 => ((seal_Unbroken.f t388 a1_0 a2 a1_2).bind fun bt391 => (if t372 = 0 then (if (wrap64 ((wrap64 ((wrap64 (bt376.2 + bt381.2)) + bt386.2)) + bt391.2)) = 0 then (if (wrap64 (bt376.1 + bt381.1)) = t371 then (if t366 = true then (if t371 = 0 then (if bt386.1 = true then (some bt391.1) else (none)) else (none)) else (some true)) else (none)) else (none)) else (none)))))))))) else (if t367 = t372 then (if t366 = true then (none) else (some (t371 == 0))) else (none))) = some r := H
     have A25 := Aside0.mk A250
     clear A250
     by_cases c26 : t367 = 0
     ·rw [if_pos c26] at H
      have c26b0 : (t367 == 0) = true := beq_iff_eq.mpr c26
      try simp only [beq_self_eq_true, Bool.not_true, Bool.false_or, Bool.true_and] at c26b0
      have c26b1 : (t367 != 0) = false := bne_eq_false_iff_eq.mpr c26
      clear c26
      replace H := Option.bind_eq_some_iff.mp H
      obtain ⟨t373, A270, H⟩ := H
      replace H : ((seal_Open.f t373 a1_0 a1_1 a2).bind fun bt376 => ((clone34.f l0).bind fun t378 => ((seal_Open.f t378 a1_0 (wrap64 (a2 + 1)) a1_2).bind fun bt381 => ((clone34.f l0).bind fun t383 => ((seal_Unbroken.f t383 a1_0 a1_1 a2).bind fun bt386 => ((clone34.f l0).bind fun t388 => ((seal_Unbroken.f t388 a1_0 a2 a1_2).bind fun bt391 => (if t372 = 0 then (if (wrap64 ((wrap64 ((wrap64 (bt376.2 + bt381.2)) + bt386.2)) + bt391.2)) = 0 then (if (wrap64 (bt376.1 + bt381.1)) = t371 then (if t366 = true then (if t371 = 0 then (if bt386.1 = true then (some bt391.1) else (none)) else (none)) else (some true)) else (none)) else (none)) else (none))))))))) = some r := H
      have A27 := Aside0.mk A270
      clear A270
      replace H := Option.bind_eq_some_iff.mp H
      obtain ⟨⟨t376, t377⟩, A280, H⟩ := H
      replace H : ((clone34.f l0).bind fun t378 => ((seal_Open.f t378 a1_0 (wrap64 (a2 + 1)) a1_2).bind fun bt381 => ((clone34.f l0).bind fun t383 => ((seal_Unbroken.f t383 a1_0 a1_1 a2).bind fun bt386 => ((clone34.f l0).bind fun t388 => ((seal_Unbroken.f t388 a1_0 a2 a1_2).bind fun bt391 => (if t372 = 0 then (if (wrap64 ((wrap64 ((wrap64 (t377 + bt381.2)) + bt386.2)) + bt391.2)) = 0 then (if (wrap64 (t376 + bt381.1)) = t371 then (if t366 = true then (if t371 = 0 then (if bt386.1 = true then (some bt391.1) else (none)) else (none)) else (some true)) else (none)) else (none)) else (none)))))))) = some r := H
      have A28 := Aside0.mk A280
      clear A280
      replace H := Option.bind_eq_some_iff.mp H
      obtain ⟨t378, A290, H⟩ := H
      replace H : ((seal_Open.f t378 a1_0 (wrap64 (a2 + 1)) a1_2).bind fun bt381 => ((clone34.f l0).bind fun t383 => ((seal_Unbroken.f t383 a1_0 a1_1 a2).bind fun bt386 => ((clone34.f l0).bind fun t388 => ((seal_Unbroken.f t388 a1_0 a2 a1_2).bind fun bt391 => (if t372 = 0 then (if (wrap64 ((wrap64 ((wrap64 (t377 + bt381.2)) + bt386.2)) + bt391.2)) = 0 then (if (wrap64 (t376 + bt381.1)) = t371 then (if t366 = true then (if t371 = 0 then (if bt386.1 = true then (some bt391.1) else (none)) else (none)) else (some true)) else (none)) else (none)) else (none))))))) = some r := H
      have A29 := Aside0.mk A290
      clear A290
      replace H := Option.bind_eq_some_iff.mp H
      obtain ⟨⟨t381, t382⟩, A300, H⟩ := H
      replace H : ((clone34.f l0).bind fun t383 => ((seal_Unbroken.f t383 a1_0 a1_1 a2).bind fun bt386 => ((clone34.f l0).bind fun t388 => ((seal_Unbroken.f t388 a1_0 a2 a1_2).bind fun bt391 => (if t372 = 0 then (if (wrap64 ((wrap64 ((wrap64 (t377 + t382)) + bt386.2)) + bt391.2)) = 0 then (if (wrap64 (t376 + t381)) = t371 then (if t366 = true then (if t371 = 0 then (if bt386.1 = true then (some bt391.1) else (none)) else (none)) else (some true)) else (none)) else (none)) else (none)))))) = some r := H
      have A30 := Aside0.mk A300
      clear A300
      replace H := Option.bind_eq_some_iff.mp H
      obtain ⟨t383, A310, H⟩ := H
      replace H : ((seal_Unbroken.f t383 a1_0 a1_1 a2).bind fun bt386 => ((clone34.f l0).bind fun t388 => ((seal_Unbroken.f t388 a1_0 a2 a1_2).bind fun bt391 => (if t372 = 0 then (if (wrap64 ((wrap64 ((wrap64 (t377 + t382)) + bt386.2)) + bt391.2)) = 0 then (if (wrap64 (t376 + t381)) = t371 then (if t366 = true then (if t371 = 0 then (if bt386.1 = true then (some bt391.1) else (none)) else (none)) else (some true)) else (none)) else (none)) else (none))))) = some r := H
      have A31 := Aside0.mk A310
      clear A310
      replace H := Option.bind_eq_some_iff.mp H
      obtain ⟨⟨t386, t387⟩, A320, H⟩ := H
      replace H : ((clone34.f l0).bind fun t388 => ((seal_Unbroken.f t388 a1_0 a2 a1_2).bind fun bt391 => (if t372 = 0 then (if (wrap64 ((wrap64 ((wrap64 (t377 + t382)) + t387)) + bt391.2)) = 0 then (if (wrap64 (t376 + t381)) = t371 then (if t366 = true then (if t371 = 0 then (if t386 = true then (some bt391.1) else (none)) else (none)) else (some true)) else (none)) else (none)) else (none)))) = some r := H
      have A32 := Aside0.mk A320
      clear A320
      replace H := Option.bind_eq_some_iff.mp H
      obtain ⟨t388, A330, H⟩ := H
      replace H : ((seal_Unbroken.f t388 a1_0 a2 a1_2).bind fun bt391 => (if t372 = 0 then (if (wrap64 ((wrap64 ((wrap64 (t377 + t382)) + t387)) + bt391.2)) = 0 then (if (wrap64 (t376 + t381)) = t371 then (if t366 = true then (if t371 = 0 then (if t386 = true then (some bt391.1) else (none)) else (none)) else (some true)) else (none)) else (none)) else (none))) = some r := H
      have A33 := Aside0.mk A330
      clear A330
      replace H := Option.bind_eq_some_iff.mp H
      obtain ⟨⟨t391, t392⟩, A340, H⟩ := H
      replace H : (if t372 = 0 then (if (wrap64 ((wrap64 ((wrap64 (t377 + t382)) + t387)) + t392)) = 0 then (if (wrap64 (t376 + t381)) = t371 then (if t366 = true then (if t371 = 0 then (if t386 = true then (some t391) else (none)) else (none)) else (some true)) else (none)) else (none)) else (none)) = some r := H
      have A34 := Aside0.mk A340
      clear A340
      by_cases c35 : t372 = 0
      ·rw [if_pos c35] at H
       have c35b0 : (t372 == 0) = true := beq_iff_eq.mpr c35
       try simp only [beq_self_eq_true, Bool.not_true, Bool.false_or, Bool.true_and] at c35b0
       have c35b1 : (t372 != 0) = false := bne_eq_false_iff_eq.mpr c35
       clear c35
       by_cases c36 : (wrap64 ((wrap64 ((wrap64 (t377 + t382)) + t387)) + t392)) = 0
       ·rw [if_pos c36] at H
        have c36b0 : ((wrap64 ((wrap64 ((wrap64 (t377 + t382)) + t387)) + t392)) == 0) = true := beq_iff_eq.mpr c36
        try simp only [beq_self_eq_true, Bool.not_true, Bool.false_or, Bool.true_and] at c36b0
        have c36b1 : ((wrap64 ((wrap64 ((wrap64 (t377 + t382)) + t387)) + t392)) != 0) = false := bne_eq_false_iff_eq.mpr c36
        clear c36
        by_cases c37 : (wrap64 (t376 + t381)) = t371
        ·rw [if_pos c37] at H
         have c37b0 : ((wrap64 (t376 + t381)) == t371) = true := beq_iff_eq.mpr c37
         try simp only [beq_self_eq_true, Bool.not_true, Bool.false_or, Bool.true_and] at c37b0
         have c37b1 : ((wrap64 (t376 + t381)) != t371) = false := bne_eq_false_iff_eq.mpr c37
         clear c37
         by_cases c38 : t366 = true
         ·subst c38
          have H1 : (if t371 = 0 then (if t386 = true then (some t391) else (none)) else (none)) = some r := by rw [if_pos rfl] at H; exact H
          clear H
          have H := H1
          clear H1
          by_cases c39 : t371 = 0
          ·rw [if_pos c39] at H
           have c39b0 : (t371 == 0) = true := beq_iff_eq.mpr c39
           try simp only [beq_self_eq_true, Bool.not_true, Bool.false_or, Bool.true_and] at c39b0
           have c39b1 : (t371 != 0) = false := bne_eq_false_iff_eq.mpr c39
           clear c39
           by_cases c40 : t386 = true
           ·subst c40
            have H1 : (some t391) = some r := by rw [if_pos rfl] at H; exact H
            clear H
            have H := H1
            clear H1
            obtain rfl := Option.some.inj H
            try go_wp2
            have n0_ := Aside0.mk (bqD BK360.out)
            have n1_ := Aside0.mk (lqD HB.out)
            clear BK360
            clear HB
            have BK360 := n0_
            have HB := n1_
            clear n0_ n1_
            refine start_ (n := 14) (S := fun w' => w'.cell? ⟨gb360, 0, none⟩ = some (.int .i64 a1_0) ∧ w'.cell? ⟨gb360, 1, none⟩ = some (.int .i64 a1_1) ∧ w'.cell? ⟨gb360, 2, none⟩ = some (.int .i64 a1_2)) (ds := []) #[false, false, false, false, false, false, false, false, false, false, false, false, false, false] (by kernel_rfl) rfl rfl ⟨(bqC BK360.out 0).trans rfl, (bqC BK360.out 1).trans rfl, (bqC BK360.out 2).trans rfl⟩ (fun hHeld => ?_); refine with_tabW spilelaw39_SealParts.tab5 spilelaw39_SealParts.bits5 (fun HT_ HW_ => ?_)
            generalize wc.drew = w41 at BK360 HB hHeld ⊢
            refine GS.pu 0 (some 42) HT_.out ?_
            refine GS.pu 2 (some 44) HT_.out ?_
            refine GS.pu 4 (some 46) HT_.out ?_
            refine GS.pu 6 (some 48) HT_.out ?_
            refine GS.tk 3 (some 45) HT_.out HW_.out hHeld ?_
            refine GS.tk 5 (some 47) HT_.out HW_.out hHeld ?_
            refine GS.tk 7 (some 49) HT_.out HW_.out hHeld ?_
            refine one_ (i := 1) (N := some 43) #[true, true, true, true, true, true, true, true, false, false, false, false, false, false] rfl rfl (one_of HT_.out (by kernel_rfl)) (by decide) (fun K hK => ?_)
            refine goes_ Try.func14 (by kernel_rfl) rfl #[.slice A0 l0.length c0] (by rfl) rfl rfl (by (try simp only [List.map_toArray, List.map_cons, List.map_nil]); first | done | rfl | (simp only [List.length_drop, List.length_take]; rfl)) ?_
            with_reducible refine (clone34.calls _ _ l0 t363 _ ?side1 ?side2 A22.out).mono ?_
            (case side1 => exact GS.rC (Kd.C_below HR0.out HB.out))
            (case side2 => exact HC0.out)
            rintro e w42 ⟨v364, rfl, ho0, hb⟩
            refine ⟨_, rfl, ?_⟩
            have n0_ := Aside0.mk (Kd.R_lower ho0 (lqZ (GS.lB HB.out)))
            have n1_ := Aside0.mk (bqB (GS.bqX BK360.out) hb)
            have n2_ := Aside0.mk (lqT (GS.lB HB.out) hb)
            clear BK360
            clear HB
            have HO365 := n0_
            have BK360 := n1_
            have HB := n2_
            clear n0_ n1_ n2_
            (try clear hb)
            (try clear hb2)
            (try clear hk)
            (try clear hi)
            (try clear ho0)
            obtain ⟨Ao43, co43, eo43⟩ := Kd.R_slice HO365.out
            (first | subst eo43 | (injection eo43 with f1_ f2_ f3_; have f4_ := f1_.symm; have f5_ := f3_.symm; clear f1_ f2_ f3_; subst f4_; subst f5_))
            refine hK.out _ _ ⟨(bqC BK360.out 0).trans rfl, (bqC BK360.out 1).trans rfl, (bqC BK360.out 2).trans rfl⟩ (fun hHeld => ?_)
            clear hK K
            refine norm_ (a' := ?_) ?_ ?_
            rotate_left
            ·show Act.put _ (some 43) _ = _
             simp only [Act.put, List.setIfInBounds_toArray, List.set_cons_zero, List.set_cons_succ, i64_w, i32_w]
             rfl
            refine one_ (i := 8) (N := some 50) #[true, true, true, true, true, true, true, true, true, false, false, false, false, false] rfl rfl (one_of HT_.out (by kernel_rfl)) (by decide) (fun K hK => ?_)
            refine goes_ Try.func16 (by kernel_rfl) rfl #[.slice Ao43 t363.length co43, .int .i64 a1_0, .int .i64 a1_1, .int .i64 a1_2] (by rfl) rfl rfl (by (try simp only [List.map_toArray, List.map_cons, List.map_nil]); first | done | rfl | (simp only [List.length_drop, List.length_take]; rfl)) ?_
            with_reducible refine (seal_Unbroken.calls _ _ t363 a1_0 a1_1 a1_2 true t367 _ ?side1 ?side2 A23.out).mono ?_
            (case side1 => repeat (first | exact (Kd.R_reads' HO365.out).2.2 | (with_reducible refine Kd.C_alloc ?_ _) | (with_reducible refine Kd.C_drewN ?_ _) | (with_reducible refine Kd.C_drew ?_)))
            (case side2 => exact (Kd.R_reads' HO365.out).2.1)
            rintro e w44 ⟨rfl, hb⟩
            refine ⟨_, rfl, ?_⟩
            have n0_ := Aside0.mk (Kd.R_below (GS.rR HO365.out) hb)
            have n1_ := Aside0.mk (bqB (GS.bqX BK360.out) hb)
            have n2_ := Aside0.mk (lqT (GS.lB HB.out) hb)
            clear HO365
            clear BK360
            clear HB
            have HO365 := n0_
            have BK360 := n1_
            have HB := n2_
            clear n0_ n1_ n2_
            (try clear hb)
            (try clear hb2)
            (try clear hk)
            (try clear hi)
            refine hK.out _ _ ⟨(bqC BK360.out 0).trans rfl, (bqC BK360.out 1).trans rfl, (bqC BK360.out 2).trans rfl⟩ (fun hHeld => ?_)
            clear hK K
            refine norm_ (a' := ?_) ?_ ?_
            rotate_left
            ·show Act.put _ (some 50) _ = _
             simp only [Act.put, List.setIfInBounds_toArray, List.set_cons_zero, List.set_cons_succ, i64_w, i32_w]
             rfl
            refine GS.pu 9 (some 41) HT_.out ?_
            refine GS.pu 10 (some 51) HT_.out ?_
            refine GS.pu 11 (some 52) HT_.out ?_
            refine GS.pu 12 (some 7) HT_.out ?_
            refine GS.pu 13 (some 8) HT_.out ?_
            refine done_ (done_of HT_.out (by kernel_rfl)) ?_
            try go_wp2
            have n0_ := Aside0.mk (Kd.R_drew HO365.out)
            have n1_ := Aside0.mk (bqD BK360.out)
            have n2_ := Aside0.mk (lqD HB.out)
            clear HO365
            clear BK360
            clear HB
            have HO365 := n0_
            have BK360 := n1_
            have HB := n2_
            clear n0_ n1_ n2_
            refine start_ (n := 14) (S := fun w' => w'.cell? ⟨gb360, 0, none⟩ = some (.int .i64 a1_0) ∧ w'.cell? ⟨gb360, 1, none⟩ = some (.int .i64 a1_1) ∧ w'.cell? ⟨gb360, 2, none⟩ = some (.int .i64 a1_2)) (ds := []) #[false, false, false, false, false, false, false, false, false, false, false, false, false, false] (by kernel_rfl) rfl rfl ⟨(bqC BK360.out 0).trans rfl, (bqC BK360.out 1).trans rfl, (bqC BK360.out 2).trans rfl⟩ (fun hHeld => ?_); refine with_tabW spilelaw39_SealParts.tab6 spilelaw39_SealParts.bits6 (fun HT_ HW_ => ?_)
            generalize w44.drew = w45 at HO365 BK360 HB hHeld ⊢
            refine GS.pu 0 (some 54) HT_.out ?_
            refine GS.pu 2 (some 56) HT_.out ?_
            refine GS.pu 4 (some 58) HT_.out ?_
            refine GS.pu 6 (some 60) HT_.out ?_
            refine GS.tk 3 (some 57) HT_.out HW_.out hHeld ?_
            refine GS.tk 5 (some 59) HT_.out HW_.out hHeld ?_
            refine GS.tk 7 (some 61) HT_.out HW_.out hHeld ?_
            refine one_ (i := 1) (N := some 55) #[true, true, true, true, true, true, true, true, false, false, false, false, false, false] rfl rfl (one_of HT_.out (by kernel_rfl)) (by decide) (fun K hK => ?_)
            refine goes_ Try.func14 (by kernel_rfl) rfl #[.slice A0 l0.length c0] (by rfl) rfl rfl (by (try simp only [List.map_toArray, List.map_cons, List.map_nil]); first | done | rfl | (simp only [List.length_drop, List.length_take]; rfl)) ?_
            with_reducible refine (clone34.calls _ _ l0 t368 _ ?side1 ?side2 A24.out).mono ?_
            (case side1 => exact GS.rC (Kd.C_below HR0.out HB.out))
            (case side2 => exact HC0.out)
            rintro e w46 ⟨v369, rfl, ho0, hb⟩
            refine ⟨_, rfl, ?_⟩
            have n0_ := Aside0.mk (Kd.R_elder' (GS.rR HO365.out) (Kd.R_base ho0) hb)
            have n1_ := Aside0.mk (Kd.R_lower (Kd.R_new' ho0 (Kd.R_lt (GS.rR HO365.out))) (lqZ (GS.lB HB.out)))
            have n2_ := Aside0.mk (bqB (GS.bqX BK360.out) hb)
            have n3_ := Aside0.mk (lqT (GS.lB HB.out) hb)
            clear HO365
            clear BK360
            clear HB
            have HO365 := n0_
            have HO370 := n1_
            have BK360 := n2_
            have HB := n3_
            clear n0_ n1_ n2_ n3_
            (try clear hb)
            (try clear hb2)
            (try clear hk)
            (try clear hi)
            (try clear ho0)
            obtain ⟨Ao47, co47, eo47⟩ := Kd.R_slice HO370.out
            (first | subst eo47 | (injection eo47 with f1_ f2_ f3_; have f4_ := f1_.symm; have f5_ := f3_.symm; clear f1_ f2_ f3_; subst f4_; subst f5_))
            refine hK.out _ _ ⟨(bqC BK360.out 0).trans rfl, (bqC BK360.out 1).trans rfl, (bqC BK360.out 2).trans rfl⟩ (fun hHeld => ?_)
            clear hK K
            refine norm_ (a' := ?_) ?_ ?_
            rotate_left
            ·show Act.put _ (some 55) _ = _
             simp only [Act.put, List.setIfInBounds_toArray, List.set_cons_zero, List.set_cons_succ, i64_w, i32_w]
             rfl
            refine one_ (i := 8) (N := some 62) #[true, true, true, true, true, true, true, true, true, false, false, false, false, false] rfl rfl (one_of HT_.out (by kernel_rfl)) (by decide) (fun K hK => ?_)
            refine goes_ Try.func18 (by kernel_rfl) rfl #[.slice Ao47 t368.length co47, .int .i64 a1_0, .int .i64 a1_1, .int .i64 a1_2] (by rfl) rfl rfl (by (try simp only [List.map_toArray, List.map_cons, List.map_nil]); first | done | rfl | (simp only [List.length_drop, List.length_take]; rfl)) ?_
            with_reducible refine (seal_Open.calls _ _ t368 a1_0 a1_1 a1_2 t371 t372 _ ?side1 ?side2 A25.out).mono ?_
            (case side1 => repeat (first | exact (Kd.R_reads' HO370.out).2.2 | (with_reducible refine Kd.C_alloc ?_ _) | (with_reducible refine Kd.C_drewN ?_ _) | (with_reducible refine Kd.C_drew ?_)))
            (case side2 => exact (Kd.R_reads' HO370.out).2.1)
            rintro e w48 ⟨rfl, hb⟩
            refine ⟨_, rfl, ?_⟩
            have n0_ := Aside0.mk (Kd.R_below (GS.rR HO365.out) hb)
            have n1_ := Aside0.mk (Kd.R_below (GS.rR HO370.out) hb)
            have n2_ := Aside0.mk (bqB (GS.bqX BK360.out) hb)
            have n3_ := Aside0.mk (lqT (GS.lB HB.out) hb)
            clear HO365
            clear HO370
            clear BK360
            clear HB
            have HO365 := n0_
            have HO370 := n1_
            have BK360 := n2_
            have HB := n3_
            clear n0_ n1_ n2_ n3_
            (try clear hb)
            (try clear hb2)
            (try clear hk)
            (try clear hi)
            refine hK.out _ _ ⟨(bqC BK360.out 0).trans rfl, (bqC BK360.out 1).trans rfl, (bqC BK360.out 2).trans rfl⟩ (fun hHeld => ?_)
            clear hK K
            refine norm_ (a' := ?_) ?_ ?_
            rotate_left
            ·show Act.put _ (some 62) _ = _
             simp only [Act.put, List.setIfInBounds_toArray, List.set_cons_zero, List.set_cons_succ, i64_w, i32_w]
             rfl
            refine GS.pu 9 (some 53) HT_.out ?_
            refine GS.pu 10 (some 63) HT_.out ?_
            refine GS.pu 11 (some 64) HT_.out ?_
            refine GS.pu 12 (some 9) HT_.out ?_
            refine GS.pu 13 (some 10) HT_.out ?_
            refine done_ (done_of HT_.out (by kernel_rfl)) ?_
            try go_wp2
            have n0_ := Aside0.mk (Kd.R_drew HO365.out)
            have n1_ := Aside0.mk (Kd.R_drew HO370.out)
            have n2_ := Aside0.mk (bqD BK360.out)
            have n3_ := Aside0.mk (lqD HB.out)
            clear HO365
            clear HO370
            clear BK360
            clear HB
            have HO365 := n0_
            have HO370 := n1_
            have BK360 := n2_
            have HB := n3_
            clear n0_ n1_ n2_ n3_
            refine start_ (n := 13) (S := fun w' => w'.cell? ⟨gb360, 0, none⟩ = some (.int .i64 a1_0) ∧ w'.cell? ⟨gb360, 1, none⟩ = some (.int .i64 a1_1) ∧ w'.cell? ⟨gb360, 2, none⟩ = some (.int .i64 a1_2)) (ds := []) #[false, false, false, false, false, false, false, false, false, false, false, false, false] (by kernel_rfl) rfl rfl ⟨(bqC BK360.out 0).trans rfl, (bqC BK360.out 1).trans rfl, (bqC BK360.out 2).trans rfl⟩ (fun hHeld => ?_); refine with_tabW spilelaw39_SealParts.tab9 spilelaw39_SealParts.bits9 (fun HT_ HW_ => ?_)
            generalize w48.drew = w49 at HO365 HO370 BK360 HB hHeld ⊢
            refine GS.pu 0 (some 79) HT_.out ?_
            refine GS.pu 2 (some 81) HT_.out ?_
            refine GS.pu 4 (some 83) HT_.out ?_
            refine GS.pu 6 (some 85) HT_.out ?_
            refine GS.tk 3 (some 82) HT_.out HW_.out hHeld ?_
            refine GS.tk 5 (some 84) HT_.out HW_.out hHeld ?_
            refine one_ (i := 1) (N := some 80) #[true, true, true, true, true, true, true, false, false, false, false, false, false] rfl rfl (one_of HT_.out (by kernel_rfl)) (by decide) (fun K hK => ?_)
            refine goes_ Try.func14 (by kernel_rfl) rfl #[.slice A0 l0.length c0] (by rfl) rfl rfl (by (try simp only [List.map_toArray, List.map_cons, List.map_nil]); first | done | rfl | (simp only [List.length_drop, List.length_take]; rfl)) ?_
            with_reducible refine (clone34.calls _ _ l0 t373 _ ?side1 ?side2 A27.out).mono ?_
            (case side1 => exact GS.rC (Kd.C_below HR0.out HB.out))
            (case side2 => exact HC0.out)
            rintro e w50 ⟨v374, rfl, ho0, hb⟩
            refine ⟨_, rfl, ?_⟩
            have n0_ := Aside0.mk (Kd.R_elder' (GS.rR HO365.out) (Kd.R_base ho0) hb)
            have n1_ := Aside0.mk (Kd.R_elder' (GS.rR HO370.out) (Kd.R_base ho0) hb)
            have n2_ := Aside0.mk (Kd.R_lower (Kd.R_new' (Kd.R_new' ho0 (Kd.R_lt (GS.rR HO365.out))) (Kd.R_lt (GS.rR HO370.out))) (lqZ (GS.lB HB.out)))
            have n3_ := Aside0.mk (bqB (GS.bqX BK360.out) hb)
            have n4_ := Aside0.mk (lqT (GS.lB HB.out) hb)
            clear HO365
            clear HO370
            clear BK360
            clear HB
            have HO365 := n0_
            have HO370 := n1_
            have HO375 := n2_
            have BK360 := n3_
            have HB := n4_
            clear n0_ n1_ n2_ n3_ n4_
            (try clear hb)
            (try clear hb2)
            (try clear hk)
            (try clear hi)
            (try clear ho0)
            obtain ⟨Ao51, co51, eo51⟩ := Kd.R_slice HO375.out
            (first | subst eo51 | (injection eo51 with f1_ f2_ f3_; have f4_ := f1_.symm; have f5_ := f3_.symm; clear f1_ f2_ f3_; subst f4_; subst f5_))
            refine hK.out _ _ ⟨(bqC BK360.out 0).trans rfl, (bqC BK360.out 1).trans rfl, (bqC BK360.out 2).trans rfl⟩ (fun hHeld => ?_)
            clear hK K
            refine norm_ (a' := ?_) ?_ ?_
            rotate_left
            ·show Act.put _ (some 80) _ = _
             simp only [Act.put, List.setIfInBounds_toArray, List.set_cons_zero, List.set_cons_succ, i64_w, i32_w]
             rfl
            refine one_ (i := 7) (N := some 86) #[true, true, true, true, true, true, true, true, false, false, false, false, false] rfl rfl (one_of HT_.out (by kernel_rfl)) (by decide) (fun K hK => ?_)
            refine goes_ Try.func18 (by kernel_rfl) rfl #[.slice Ao51 t373.length co51, .int .i64 a1_0, .int .i64 a1_1, .int .i64 a2] (by rfl) rfl rfl (by (try simp only [List.map_toArray, List.map_cons, List.map_nil]); first | done | rfl | (simp only [List.length_drop, List.length_take]; rfl)) ?_
            with_reducible refine (seal_Open.calls _ _ t373 a1_0 a1_1 a2 t376 t377 _ ?side1 ?side2 A28.out).mono ?_
            (case side1 => repeat (first | exact (Kd.R_reads' HO375.out).2.2 | (with_reducible refine Kd.C_alloc ?_ _) | (with_reducible refine Kd.C_drewN ?_ _) | (with_reducible refine Kd.C_drew ?_)))
            (case side2 => exact (Kd.R_reads' HO375.out).2.1)
            rintro e w52 ⟨rfl, hb⟩
            refine ⟨_, rfl, ?_⟩
            have n0_ := Aside0.mk (Kd.R_below (GS.rR HO365.out) hb)
            have n1_ := Aside0.mk (Kd.R_below (GS.rR HO370.out) hb)
            have n2_ := Aside0.mk (Kd.R_below (GS.rR HO375.out) hb)
            have n3_ := Aside0.mk (bqB (GS.bqX BK360.out) hb)
            have n4_ := Aside0.mk (lqT (GS.lB HB.out) hb)
            clear HO365
            clear HO370
            clear HO375
            clear BK360
            clear HB
            have HO365 := n0_
            have HO370 := n1_
            have HO375 := n2_
            have BK360 := n3_
            have HB := n4_
            clear n0_ n1_ n2_ n3_ n4_
            (try clear hb)
            (try clear hb2)
            (try clear hk)
            (try clear hi)
            refine hK.out _ _ ⟨(bqC BK360.out 0).trans rfl, (bqC BK360.out 1).trans rfl, (bqC BK360.out 2).trans rfl⟩ (fun hHeld => ?_)
            clear hK K
            refine norm_ (a' := ?_) ?_ ?_
            rotate_left
            ·show Act.put _ (some 86) _ = _
             simp only [Act.put, List.setIfInBounds_toArray, List.set_cons_zero, List.set_cons_succ, i64_w, i32_w]
             rfl
            refine GS.pu 8 (some 78) HT_.out ?_
            refine GS.pu 9 (some 87) HT_.out ?_
            refine GS.pu 10 (some 88) HT_.out ?_
            refine GS.pu 11 (some 11) HT_.out ?_
            refine GS.pu 12 (some 12) HT_.out ?_
            refine done_ (done_of HT_.out (by kernel_rfl)) ?_
            try go_wp2
            have n0_ := Aside0.mk (Kd.R_drew HO365.out)
            have n1_ := Aside0.mk (Kd.R_drew HO370.out)
            have n2_ := Aside0.mk (Kd.R_drew HO375.out)
            have n3_ := Aside0.mk (bqD BK360.out)
            have n4_ := Aside0.mk (lqD HB.out)
            clear HO365
            clear HO370
            clear HO375
            clear BK360
            clear HB
            have HO365 := n0_
            have HO370 := n1_
            have HO375 := n2_
            have BK360 := n3_
            have HB := n4_
            clear n0_ n1_ n2_ n3_ n4_
            refine start_ (n := 14) (S := fun w' => w'.cell? ⟨gb360, 0, none⟩ = some (.int .i64 a1_0) ∧ w'.cell? ⟨gb360, 1, none⟩ = some (.int .i64 a1_1) ∧ w'.cell? ⟨gb360, 2, none⟩ = some (.int .i64 a1_2)) (ds := []) #[false, false, false, false, false, false, false, false, false, false, false, false, false, false] (by kernel_rfl) rfl rfl ⟨(bqC BK360.out 0).trans rfl, (bqC BK360.out 1).trans rfl, (bqC BK360.out 2).trans rfl⟩ (fun hHeld => ?_); refine with_tabW spilelaw39_SealParts.tab10 spilelaw39_SealParts.bits10 (fun HT_ HW_ => ?_)
            generalize w52.drew = w53 at HO365 HO370 HO375 BK360 HB hHeld ⊢
            refine GS.pu 0 (some 90) HT_.out ?_
            refine GS.pu 2 (some 92) HT_.out ?_
            refine GS.pu 4 (some 94) HT_.out ?_
            refine GS.pu 5 (some 95) HT_.out ?_
            refine GS.pu 6 (some 96) HT_.out ?_
            refine GS.tk 3 (some 93) HT_.out HW_.out hHeld ?_
            refine GS.tk 7 (some 97) HT_.out HW_.out hHeld ?_
            refine one_ (i := 1) (N := some 91) #[true, true, true, true, true, true, true, true, false, false, false, false, false, false] rfl rfl (one_of HT_.out (by kernel_rfl)) (by decide) (fun K hK => ?_)
            refine goes_ Try.func14 (by kernel_rfl) rfl #[.slice A0 l0.length c0] (by rfl) rfl rfl (by (try simp only [List.map_toArray, List.map_cons, List.map_nil]); first | done | rfl | (simp only [List.length_drop, List.length_take]; rfl)) ?_
            with_reducible refine (clone34.calls _ _ l0 t378 _ ?side1 ?side2 A29.out).mono ?_
            (case side1 => exact GS.rC (Kd.C_below HR0.out HB.out))
            (case side2 => exact HC0.out)
            rintro e w54 ⟨v379, rfl, ho0, hb⟩
            refine ⟨_, rfl, ?_⟩
            have n0_ := Aside0.mk (Kd.R_elder' (GS.rR HO365.out) (Kd.R_base ho0) hb)
            have n1_ := Aside0.mk (Kd.R_elder' (GS.rR HO370.out) (Kd.R_base ho0) hb)
            have n2_ := Aside0.mk (Kd.R_elder' (GS.rR HO375.out) (Kd.R_base ho0) hb)
            have n3_ := Aside0.mk (Kd.R_lower (Kd.R_new' (Kd.R_new' (Kd.R_new' ho0 (Kd.R_lt (GS.rR HO365.out))) (Kd.R_lt (GS.rR HO370.out))) (Kd.R_lt (GS.rR HO375.out))) (lqZ (GS.lB HB.out)))
            have n4_ := Aside0.mk (bqB (GS.bqX BK360.out) hb)
            have n5_ := Aside0.mk (lqT (GS.lB HB.out) hb)
            clear HO365
            clear HO370
            clear HO375
            clear BK360
            clear HB
            have HO365 := n0_
            have HO370 := n1_
            have HO375 := n2_
            have HO380 := n3_
            have BK360 := n4_
            have HB := n5_
            clear n0_ n1_ n2_ n3_ n4_ n5_
            (try clear hb)
            (try clear hb2)
            (try clear hk)
            (try clear hi)
            (try clear ho0)
            obtain ⟨Ao55, co55, eo55⟩ := Kd.R_slice HO380.out
            (first | subst eo55 | (injection eo55 with f1_ f2_ f3_; have f4_ := f1_.symm; have f5_ := f3_.symm; clear f1_ f2_ f3_; subst f4_; subst f5_))
            refine hK.out _ _ ⟨(bqC BK360.out 0).trans rfl, (bqC BK360.out 1).trans rfl, (bqC BK360.out 2).trans rfl⟩ (fun hHeld => ?_)
            clear hK K
            refine norm_ (a' := ?_) ?_ ?_
            rotate_left
            ·show Act.put _ (some 91) _ = _
             simp only [Act.put, List.setIfInBounds_toArray, List.set_cons_zero, List.set_cons_succ, i64_w, i32_w]
             rfl
            refine one_ (i := 8) (N := some 98) #[true, true, true, true, true, true, true, true, true, false, false, false, false, false] rfl rfl (one_of HT_.out (by kernel_rfl)) (by decide) (fun K hK => ?_)
            refine goes_ Try.func18 (by kernel_rfl) rfl #[.slice Ao55 t378.length co55, .int .i64 a1_0, .int .i64 (wrap64 (a2 + 1)), .int .i64 a1_2] (by rfl) rfl rfl (by (try simp only [List.map_toArray, List.map_cons, List.map_nil]); first | done | rfl | (simp only [List.length_drop, List.length_take]; rfl)) ?_
            with_reducible refine (seal_Open.calls _ _ t378 a1_0 (wrap64 (a2 + 1)) a1_2 t381 t382 _ ?side1 ?side2 A30.out).mono ?_
            (case side1 => repeat (first | exact (Kd.R_reads' HO380.out).2.2 | (with_reducible refine Kd.C_alloc ?_ _) | (with_reducible refine Kd.C_drewN ?_ _) | (with_reducible refine Kd.C_drew ?_)))
            (case side2 => exact (Kd.R_reads' HO380.out).2.1)
            rintro e w56 ⟨rfl, hb⟩
            refine ⟨_, rfl, ?_⟩
            have n0_ := Aside0.mk (Kd.R_below (GS.rR HO365.out) hb)
            have n1_ := Aside0.mk (Kd.R_below (GS.rR HO370.out) hb)
            have n2_ := Aside0.mk (Kd.R_below (GS.rR HO375.out) hb)
            have n3_ := Aside0.mk (Kd.R_below (GS.rR HO380.out) hb)
            have n4_ := Aside0.mk (bqB (GS.bqX BK360.out) hb)
            have n5_ := Aside0.mk (lqT (GS.lB HB.out) hb)
            clear HO365
            clear HO370
            clear HO375
            clear HO380
            clear BK360
            clear HB
            have HO365 := n0_
            have HO370 := n1_
            have HO375 := n2_
            have HO380 := n3_
            have BK360 := n4_
            have HB := n5_
            clear n0_ n1_ n2_ n3_ n4_ n5_
            (try clear hb)
            (try clear hb2)
            (try clear hk)
            (try clear hi)
            refine hK.out _ _ ⟨(bqC BK360.out 0).trans rfl, (bqC BK360.out 1).trans rfl, (bqC BK360.out 2).trans rfl⟩ (fun hHeld => ?_)
            clear hK K
            refine norm_ (a' := ?_) ?_ ?_
            rotate_left
            ·show Act.put _ (some 98) _ = _
             simp only [Act.put, List.setIfInBounds_toArray, List.set_cons_zero, List.set_cons_succ, i64_w, i32_w]
             rfl
            refine GS.pu 9 (some 89) HT_.out ?_
            refine GS.pu 10 (some 99) HT_.out ?_
            refine GS.pu 11 (some 100) HT_.out ?_
            refine GS.pu 12 (some 13) HT_.out ?_
            refine GS.pu 13 (some 14) HT_.out ?_
            refine done_ (done_of HT_.out (by kernel_rfl)) ?_
            try go_wp2
            have n0_ := Aside0.mk (Kd.R_drew HO365.out)
            have n1_ := Aside0.mk (Kd.R_drew HO370.out)
            have n2_ := Aside0.mk (Kd.R_drew HO375.out)
            have n3_ := Aside0.mk (Kd.R_drew HO380.out)
            have n4_ := Aside0.mk (bqD BK360.out)
            have n5_ := Aside0.mk (lqD HB.out)
            clear HO365
            clear HO370
            clear HO375
            clear HO380
            clear BK360
            clear HB
            have HO365 := n0_
            have HO370 := n1_
            have HO375 := n2_
            have HO380 := n3_
            have BK360 := n4_
            have HB := n5_
            clear n0_ n1_ n2_ n3_ n4_ n5_
            refine start_ (n := 13) (S := fun w' => w'.cell? ⟨gb360, 0, none⟩ = some (.int .i64 a1_0) ∧ w'.cell? ⟨gb360, 1, none⟩ = some (.int .i64 a1_1) ∧ w'.cell? ⟨gb360, 2, none⟩ = some (.int .i64 a1_2)) (ds := []) #[false, false, false, false, false, false, false, false, false, false, false, false, false] (by kernel_rfl) rfl rfl ⟨(bqC BK360.out 0).trans rfl, (bqC BK360.out 1).trans rfl, (bqC BK360.out 2).trans rfl⟩ (fun hHeld => ?_); refine with_tabW spilelaw39_SealParts.tab11 spilelaw39_SealParts.bits11 (fun HT_ HW_ => ?_)
            generalize w56.drew = w57 at HO365 HO370 HO375 HO380 BK360 HB hHeld ⊢
            refine GS.pu 0 (some 102) HT_.out ?_
            refine GS.pu 2 (some 104) HT_.out ?_
            refine GS.pu 4 (some 106) HT_.out ?_
            refine GS.pu 6 (some 108) HT_.out ?_
            refine GS.tk 3 (some 105) HT_.out HW_.out hHeld ?_
            refine GS.tk 5 (some 107) HT_.out HW_.out hHeld ?_
            refine one_ (i := 1) (N := some 103) #[true, true, true, true, true, true, true, false, false, false, false, false, false] rfl rfl (one_of HT_.out (by kernel_rfl)) (by decide) (fun K hK => ?_)
            refine goes_ Try.func14 (by kernel_rfl) rfl #[.slice A0 l0.length c0] (by rfl) rfl rfl (by (try simp only [List.map_toArray, List.map_cons, List.map_nil]); first | done | rfl | (simp only [List.length_drop, List.length_take]; rfl)) ?_
            with_reducible refine (clone34.calls _ _ l0 t383 _ ?side1 ?side2 A31.out).mono ?_
            (case side1 => exact GS.rC (Kd.C_below HR0.out HB.out))
            (case side2 => exact HC0.out)
            rintro e w58 ⟨v384, rfl, ho0, hb⟩
            refine ⟨_, rfl, ?_⟩
            have n0_ := Aside0.mk (Kd.R_elder' (GS.rR HO365.out) (Kd.R_base ho0) hb)
            have n1_ := Aside0.mk (Kd.R_elder' (GS.rR HO370.out) (Kd.R_base ho0) hb)
            have n2_ := Aside0.mk (Kd.R_elder' (GS.rR HO375.out) (Kd.R_base ho0) hb)
            have n3_ := Aside0.mk (Kd.R_elder' (GS.rR HO380.out) (Kd.R_base ho0) hb)
            have n4_ := Aside0.mk (Kd.R_lower (Kd.R_new' (Kd.R_new' (Kd.R_new' (Kd.R_new' ho0 (Kd.R_lt (GS.rR HO365.out))) (Kd.R_lt (GS.rR HO370.out))) (Kd.R_lt (GS.rR HO375.out))) (Kd.R_lt (GS.rR HO380.out))) (lqZ (GS.lB HB.out)))
            have n5_ := Aside0.mk (bqB (GS.bqX BK360.out) hb)
            have n6_ := Aside0.mk (lqT (GS.lB HB.out) hb)
            clear HO365
            clear HO370
            clear HO375
            clear HO380
            clear BK360
            clear HB
            have HO365 := n0_
            have HO370 := n1_
            have HO375 := n2_
            have HO380 := n3_
            have HO385 := n4_
            have BK360 := n5_
            have HB := n6_
            clear n0_ n1_ n2_ n3_ n4_ n5_ n6_
            (try clear hb)
            (try clear hb2)
            (try clear hk)
            (try clear hi)
            (try clear ho0)
            obtain ⟨Ao59, co59, eo59⟩ := Kd.R_slice HO385.out
            (first | subst eo59 | (injection eo59 with f1_ f2_ f3_; have f4_ := f1_.symm; have f5_ := f3_.symm; clear f1_ f2_ f3_; subst f4_; subst f5_))
            refine hK.out _ _ ⟨(bqC BK360.out 0).trans rfl, (bqC BK360.out 1).trans rfl, (bqC BK360.out 2).trans rfl⟩ (fun hHeld => ?_)
            clear hK K
            refine norm_ (a' := ?_) ?_ ?_
            rotate_left
            ·show Act.put _ (some 103) _ = _
             simp only [Act.put, List.setIfInBounds_toArray, List.set_cons_zero, List.set_cons_succ, i64_w, i32_w]
             rfl
            refine one_ (i := 7) (N := some 109) #[true, true, true, true, true, true, true, true, false, false, false, false, false] rfl rfl (one_of HT_.out (by kernel_rfl)) (by decide) (fun K hK => ?_)
            refine goes_ Try.func16 (by kernel_rfl) rfl #[.slice Ao59 t383.length co59, .int .i64 a1_0, .int .i64 a1_1, .int .i64 a2] (by rfl) rfl rfl (by (try simp only [List.map_toArray, List.map_cons, List.map_nil]); first | done | rfl | (simp only [List.length_drop, List.length_take]; rfl)) ?_
            with_reducible refine (seal_Unbroken.calls _ _ t383 a1_0 a1_1 a2 true t387 _ ?side1 ?side2 A32.out).mono ?_
            (case side1 => repeat (first | exact (Kd.R_reads' HO385.out).2.2 | (with_reducible refine Kd.C_alloc ?_ _) | (with_reducible refine Kd.C_drewN ?_ _) | (with_reducible refine Kd.C_drew ?_)))
            (case side2 => exact (Kd.R_reads' HO385.out).2.1)
            rintro e w60 ⟨rfl, hb⟩
            refine ⟨_, rfl, ?_⟩
            have n0_ := Aside0.mk (Kd.R_below (GS.rR HO365.out) hb)
            have n1_ := Aside0.mk (Kd.R_below (GS.rR HO370.out) hb)
            have n2_ := Aside0.mk (Kd.R_below (GS.rR HO375.out) hb)
            have n3_ := Aside0.mk (Kd.R_below (GS.rR HO380.out) hb)
            have n4_ := Aside0.mk (Kd.R_below (GS.rR HO385.out) hb)
            have n5_ := Aside0.mk (bqB (GS.bqX BK360.out) hb)
            have n6_ := Aside0.mk (lqT (GS.lB HB.out) hb)
            clear HO365
            clear HO370
            clear HO375
            clear HO380
            clear HO385
            clear BK360
            clear HB
            have HO365 := n0_
            have HO370 := n1_
            have HO375 := n2_
            have HO380 := n3_
            have HO385 := n4_
            have BK360 := n5_
            have HB := n6_
            clear n0_ n1_ n2_ n3_ n4_ n5_ n6_
            (try clear hb)
            (try clear hb2)
            (try clear hk)
            (try clear hi)
            refine hK.out _ _ ⟨(bqC BK360.out 0).trans rfl, (bqC BK360.out 1).trans rfl, (bqC BK360.out 2).trans rfl⟩ (fun hHeld => ?_)
            clear hK K
            refine norm_ (a' := ?_) ?_ ?_
            rotate_left
            ·show Act.put _ (some 109) _ = _
             simp only [Act.put, List.setIfInBounds_toArray, List.set_cons_zero, List.set_cons_succ, i64_w, i32_w]
             rfl
            refine GS.pu 8 (some 101) HT_.out ?_
            refine GS.pu 9 (some 110) HT_.out ?_
            refine GS.pu 10 (some 111) HT_.out ?_
            refine GS.pu 11 (some 15) HT_.out ?_
            refine GS.pu 12 (some 16) HT_.out ?_
            refine done_ (done_of HT_.out (by kernel_rfl)) ?_
            try go_wp2
            have n0_ := Aside0.mk (Kd.R_drew HO365.out)
            have n1_ := Aside0.mk (Kd.R_drew HO370.out)
            have n2_ := Aside0.mk (Kd.R_drew HO375.out)
            have n3_ := Aside0.mk (Kd.R_drew HO380.out)
            have n4_ := Aside0.mk (Kd.R_drew HO385.out)
            have n5_ := Aside0.mk (bqD BK360.out)
            have n6_ := Aside0.mk (lqD HB.out)
            clear HO365
            clear HO370
            clear HO375
            clear HO380
            clear HO385
            clear BK360
            clear HB
            have HO365 := n0_
            have HO370 := n1_
            have HO375 := n2_
            have HO380 := n3_
            have HO385 := n4_
            have BK360 := n5_
            have HB := n6_
            clear n0_ n1_ n2_ n3_ n4_ n5_ n6_
            refine start_ (n := 13) (S := fun w' => w'.cell? ⟨gb360, 0, none⟩ = some (.int .i64 a1_0) ∧ w'.cell? ⟨gb360, 1, none⟩ = some (.int .i64 a1_1) ∧ w'.cell? ⟨gb360, 2, none⟩ = some (.int .i64 a1_2)) (ds := []) #[false, false, false, false, false, false, false, false, false, false, false, false, false] (by kernel_rfl) rfl rfl ⟨(bqC BK360.out 0).trans rfl, (bqC BK360.out 1).trans rfl, (bqC BK360.out 2).trans rfl⟩ (fun hHeld => ?_); refine with_tabW spilelaw39_SealParts.tab12 spilelaw39_SealParts.bits12 (fun HT_ HW_ => ?_)
            generalize w60.drew = w61 at HO365 HO370 HO375 HO380 HO385 BK360 HB hHeld ⊢
            refine GS.pu 0 (some 113) HT_.out ?_
            refine GS.pu 2 (some 115) HT_.out ?_
            refine GS.pu 4 (some 117) HT_.out ?_
            refine GS.pu 5 (some 118) HT_.out ?_
            refine GS.tk 3 (some 116) HT_.out HW_.out hHeld ?_
            refine GS.tk 6 (some 119) HT_.out HW_.out hHeld ?_
            refine one_ (i := 1) (N := some 114) #[true, true, true, true, true, true, true, false, false, false, false, false, false] rfl rfl (one_of HT_.out (by kernel_rfl)) (by decide) (fun K hK => ?_)
            refine goes_ Try.func14 (by kernel_rfl) rfl #[.slice A0 l0.length c0] (by rfl) rfl rfl (by (try simp only [List.map_toArray, List.map_cons, List.map_nil]); first | done | rfl | (simp only [List.length_drop, List.length_take]; rfl)) ?_
            with_reducible refine (clone34.calls _ _ l0 t388 _ ?side1 ?side2 A33.out).mono ?_
            (case side1 => exact GS.rC (Kd.C_below HR0.out HB.out))
            (case side2 => exact HC0.out)
            rintro e w62 ⟨v389, rfl, ho0, hb⟩
            refine ⟨_, rfl, ?_⟩
            have n0_ := Aside0.mk (Kd.R_elder' (GS.rR HO365.out) (Kd.R_base ho0) hb)
            have n1_ := Aside0.mk (Kd.R_elder' (GS.rR HO370.out) (Kd.R_base ho0) hb)
            have n2_ := Aside0.mk (Kd.R_elder' (GS.rR HO375.out) (Kd.R_base ho0) hb)
            have n3_ := Aside0.mk (Kd.R_elder' (GS.rR HO380.out) (Kd.R_base ho0) hb)
            have n4_ := Aside0.mk (Kd.R_elder' (GS.rR HO385.out) (Kd.R_base ho0) hb)
            have n5_ := Aside0.mk (Kd.R_lower (Kd.R_new' (Kd.R_new' (Kd.R_new' (Kd.R_new' (Kd.R_new' ho0 (Kd.R_lt (GS.rR HO365.out))) (Kd.R_lt (GS.rR HO370.out))) (Kd.R_lt (GS.rR HO375.out))) (Kd.R_lt (GS.rR HO380.out))) (Kd.R_lt (GS.rR HO385.out))) (lqZ (GS.lB HB.out)))
            have n6_ := Aside0.mk (bqB (GS.bqX BK360.out) hb)
            have n7_ := Aside0.mk (lqT (GS.lB HB.out) hb)
            clear HO365
            clear HO370
            clear HO375
            clear HO380
            clear HO385
            clear BK360
            clear HB
            have HO365 := n0_
            have HO370 := n1_
            have HO375 := n2_
            have HO380 := n3_
            have HO385 := n4_
            have HO390 := n5_
            have BK360 := n6_
            have HB := n7_
            clear n0_ n1_ n2_ n3_ n4_ n5_ n6_ n7_
            (try clear hb)
            (try clear hb2)
            (try clear hk)
            (try clear hi)
            (try clear ho0)
            obtain ⟨Ao63, co63, eo63⟩ := Kd.R_slice HO390.out
            (first | subst eo63 | (injection eo63 with f1_ f2_ f3_; have f4_ := f1_.symm; have f5_ := f3_.symm; clear f1_ f2_ f3_; subst f4_; subst f5_))
            refine hK.out _ _ ⟨(bqC BK360.out 0).trans rfl, (bqC BK360.out 1).trans rfl, (bqC BK360.out 2).trans rfl⟩ (fun hHeld => ?_)
            clear hK K
            refine norm_ (a' := ?_) ?_ ?_
            rotate_left
            ·show Act.put _ (some 114) _ = _
             simp only [Act.put, List.setIfInBounds_toArray, List.set_cons_zero, List.set_cons_succ, i64_w, i32_w]
             rfl
            refine one_ (i := 7) (N := some 120) #[true, true, true, true, true, true, true, true, false, false, false, false, false] rfl rfl (one_of HT_.out (by kernel_rfl)) (by decide) (fun K hK => ?_)
            refine goes_ Try.func16 (by kernel_rfl) rfl #[.slice Ao63 t388.length co63, .int .i64 a1_0, .int .i64 a2, .int .i64 a1_2] (by rfl) rfl rfl (by (try simp only [List.map_toArray, List.map_cons, List.map_nil]); first | done | rfl | (simp only [List.length_drop, List.length_take]; rfl)) ?_
            with_reducible refine (seal_Unbroken.calls _ _ t388 a1_0 a2 a1_2 t391 t392 _ ?side1 ?side2 A34.out).mono ?_
            (case side1 => repeat (first | exact (Kd.R_reads' HO390.out).2.2 | (with_reducible refine Kd.C_alloc ?_ _) | (with_reducible refine Kd.C_drewN ?_ _) | (with_reducible refine Kd.C_drew ?_)))
            (case side2 => exact (Kd.R_reads' HO390.out).2.1)
            rintro e w64 ⟨rfl, hb⟩
            refine ⟨_, rfl, ?_⟩
            have n0_ := Aside0.mk (Kd.R_below (GS.rR HO365.out) hb)
            have n1_ := Aside0.mk (Kd.R_below (GS.rR HO370.out) hb)
            have n2_ := Aside0.mk (Kd.R_below (GS.rR HO375.out) hb)
            have n3_ := Aside0.mk (Kd.R_below (GS.rR HO380.out) hb)
            have n4_ := Aside0.mk (Kd.R_below (GS.rR HO385.out) hb)
            have n5_ := Aside0.mk (Kd.R_below (GS.rR HO390.out) hb)
            have n6_ := Aside0.mk (bqB (GS.bqX BK360.out) hb)
            have n7_ := Aside0.mk (lqT (GS.lB HB.out) hb)
            clear HO365
            clear HO370
            clear HO375
            clear HO380
            clear HO385
            clear HO390
            clear BK360
            clear HB
            have HO365 := n0_
            have HO370 := n1_
            have HO375 := n2_
            have HO380 := n3_
            have HO385 := n4_
            have HO390 := n5_
            have BK360 := n6_
            have HB := n7_
            clear n0_ n1_ n2_ n3_ n4_ n5_ n6_ n7_
            (try clear hb)
            (try clear hb2)
            (try clear hk)
            (try clear hi)
            refine hK.out _ _ ⟨(bqC BK360.out 0).trans rfl, (bqC BK360.out 1).trans rfl, (bqC BK360.out 2).trans rfl⟩ (fun hHeld => ?_)
            clear hK K
            refine norm_ (a' := ?_) ?_ ?_
            rotate_left
            ·show Act.put _ (some 120) _ = _
             simp only [Act.put, List.setIfInBounds_toArray, List.set_cons_zero, List.set_cons_succ, i64_w, i32_w]
             rfl
            refine GS.pu 8 (some 112) HT_.out ?_
            refine GS.pu 9 (some 121) HT_.out ?_
            refine GS.pu 10 (some 122) HT_.out ?_
            refine GS.pu 11 (some 17) HT_.out ?_
            refine GS.pu 12 (some 18) HT_.out ?_
            refine done_ (done_of HT_.out (by kernel_rfl)) ?_
            try go_wp2
            go_ret
            exact ⟨by first | rfl | (simp [errW_none, errW_some] <;> rfl) | (simp [*, errW_none, errW_some] <;> rfl), GS.lB HB.out⟩
           ·replace c40 := Bool.eq_false_iff.mpr c40
            subst c40
            have H1 : (none) = some r := by rw [if_neg (show ¬ (false = true) by decide)] at H; exact H
            clear H
            have H := H1
            clear H1
            exact absurd H (by simp)
          ·rw [if_neg c39] at H
           exact absurd H (by simp)
         ·replace c38 := Bool.eq_false_iff.mpr c38
          subst c38
          have H1 : (some true) = some r := by rw [if_neg (show ¬ (false = true) by decide)] at H; exact H
          clear H
          have H := H1
          clear H1
          obtain rfl := Option.some.inj H
          try go_wp2
          have n0_ := Aside0.mk (bqD BK360.out)
          have n1_ := Aside0.mk (lqD HB.out)
          clear BK360
          clear HB
          have BK360 := n0_
          have HB := n1_
          clear n0_ n1_
          refine start_ (n := 14) (S := fun w' => w'.cell? ⟨gb360, 0, none⟩ = some (.int .i64 a1_0) ∧ w'.cell? ⟨gb360, 1, none⟩ = some (.int .i64 a1_1) ∧ w'.cell? ⟨gb360, 2, none⟩ = some (.int .i64 a1_2)) (ds := []) #[false, false, false, false, false, false, false, false, false, false, false, false, false, false] (by kernel_rfl) rfl rfl ⟨(bqC BK360.out 0).trans rfl, (bqC BK360.out 1).trans rfl, (bqC BK360.out 2).trans rfl⟩ (fun hHeld => ?_); refine with_tabW spilelaw39_SealParts.tab5 spilelaw39_SealParts.bits5 (fun HT_ HW_ => ?_)
          generalize wc.drew = w65 at BK360 HB hHeld ⊢
          refine GS.pu 0 (some 42) HT_.out ?_
          refine GS.pu 2 (some 44) HT_.out ?_
          refine GS.pu 4 (some 46) HT_.out ?_
          refine GS.pu 6 (some 48) HT_.out ?_
          refine GS.tk 3 (some 45) HT_.out HW_.out hHeld ?_
          refine GS.tk 5 (some 47) HT_.out HW_.out hHeld ?_
          refine GS.tk 7 (some 49) HT_.out HW_.out hHeld ?_
          refine one_ (i := 1) (N := some 43) #[true, true, true, true, true, true, true, true, false, false, false, false, false, false] rfl rfl (one_of HT_.out (by kernel_rfl)) (by decide) (fun K hK => ?_)
          refine goes_ Try.func14 (by kernel_rfl) rfl #[.slice A0 l0.length c0] (by rfl) rfl rfl (by (try simp only [List.map_toArray, List.map_cons, List.map_nil]); first | done | rfl | (simp only [List.length_drop, List.length_take]; rfl)) ?_
          with_reducible refine (clone34.calls _ _ l0 t363 _ ?side1 ?side2 A22.out).mono ?_
          (case side1 => exact GS.rC (Kd.C_below HR0.out HB.out))
          (case side2 => exact HC0.out)
          rintro e w66 ⟨v364, rfl, ho0, hb⟩
          refine ⟨_, rfl, ?_⟩
          have n0_ := Aside0.mk (Kd.R_lower ho0 (lqZ (GS.lB HB.out)))
          have n1_ := Aside0.mk (bqB (GS.bqX BK360.out) hb)
          have n2_ := Aside0.mk (lqT (GS.lB HB.out) hb)
          clear BK360
          clear HB
          have HO365 := n0_
          have BK360 := n1_
          have HB := n2_
          clear n0_ n1_ n2_
          (try clear hb)
          (try clear hb2)
          (try clear hk)
          (try clear hi)
          (try clear ho0)
          obtain ⟨Ao67, co67, eo67⟩ := Kd.R_slice HO365.out
          (first | subst eo67 | (injection eo67 with f1_ f2_ f3_; have f4_ := f1_.symm; have f5_ := f3_.symm; clear f1_ f2_ f3_; subst f4_; subst f5_))
          refine hK.out _ _ ⟨(bqC BK360.out 0).trans rfl, (bqC BK360.out 1).trans rfl, (bqC BK360.out 2).trans rfl⟩ (fun hHeld => ?_)
          clear hK K
          refine norm_ (a' := ?_) ?_ ?_
          rotate_left
          ·show Act.put _ (some 43) _ = _
           simp only [Act.put, List.setIfInBounds_toArray, List.set_cons_zero, List.set_cons_succ, i64_w, i32_w]
           rfl
          refine one_ (i := 8) (N := some 50) #[true, true, true, true, true, true, true, true, true, false, false, false, false, false] rfl rfl (one_of HT_.out (by kernel_rfl)) (by decide) (fun K hK => ?_)
          refine goes_ Try.func16 (by kernel_rfl) rfl #[.slice Ao67 t363.length co67, .int .i64 a1_0, .int .i64 a1_1, .int .i64 a1_2] (by rfl) rfl rfl (by (try simp only [List.map_toArray, List.map_cons, List.map_nil]); first | done | rfl | (simp only [List.length_drop, List.length_take]; rfl)) ?_
          with_reducible refine (seal_Unbroken.calls _ _ t363 a1_0 a1_1 a1_2 false t367 _ ?side1 ?side2 A23.out).mono ?_
          (case side1 => repeat (first | exact (Kd.R_reads' HO365.out).2.2 | (with_reducible refine Kd.C_alloc ?_ _) | (with_reducible refine Kd.C_drewN ?_ _) | (with_reducible refine Kd.C_drew ?_)))
          (case side2 => exact (Kd.R_reads' HO365.out).2.1)
          rintro e w68 ⟨rfl, hb⟩
          refine ⟨_, rfl, ?_⟩
          have n0_ := Aside0.mk (Kd.R_below (GS.rR HO365.out) hb)
          have n1_ := Aside0.mk (bqB (GS.bqX BK360.out) hb)
          have n2_ := Aside0.mk (lqT (GS.lB HB.out) hb)
          clear HO365
          clear BK360
          clear HB
          have HO365 := n0_
          have BK360 := n1_
          have HB := n2_
          clear n0_ n1_ n2_
          (try clear hb)
          (try clear hb2)
          (try clear hk)
          (try clear hi)
          refine hK.out _ _ ⟨(bqC BK360.out 0).trans rfl, (bqC BK360.out 1).trans rfl, (bqC BK360.out 2).trans rfl⟩ (fun hHeld => ?_)
          clear hK K
          refine norm_ (a' := ?_) ?_ ?_
          rotate_left
          ·show Act.put _ (some 50) _ = _
           simp only [Act.put, List.setIfInBounds_toArray, List.set_cons_zero, List.set_cons_succ, i64_w, i32_w]
           rfl
          refine GS.pu 9 (some 41) HT_.out ?_
          refine GS.pu 10 (some 51) HT_.out ?_
          refine GS.pu 11 (some 52) HT_.out ?_
          refine GS.pu 12 (some 7) HT_.out ?_
          refine GS.pu 13 (some 8) HT_.out ?_
          refine done_ (done_of HT_.out (by kernel_rfl)) ?_
          try go_wp2
          have n0_ := Aside0.mk (Kd.R_drew HO365.out)
          have n1_ := Aside0.mk (bqD BK360.out)
          have n2_ := Aside0.mk (lqD HB.out)
          clear HO365
          clear BK360
          clear HB
          have HO365 := n0_
          have BK360 := n1_
          have HB := n2_
          clear n0_ n1_ n2_
          refine start_ (n := 14) (S := fun w' => w'.cell? ⟨gb360, 0, none⟩ = some (.int .i64 a1_0) ∧ w'.cell? ⟨gb360, 1, none⟩ = some (.int .i64 a1_1) ∧ w'.cell? ⟨gb360, 2, none⟩ = some (.int .i64 a1_2)) (ds := []) #[false, false, false, false, false, false, false, false, false, false, false, false, false, false] (by kernel_rfl) rfl rfl ⟨(bqC BK360.out 0).trans rfl, (bqC BK360.out 1).trans rfl, (bqC BK360.out 2).trans rfl⟩ (fun hHeld => ?_); refine with_tabW spilelaw39_SealParts.tab6 spilelaw39_SealParts.bits6 (fun HT_ HW_ => ?_)
          generalize w68.drew = w69 at HO365 BK360 HB hHeld ⊢
          refine GS.pu 0 (some 54) HT_.out ?_
          refine GS.pu 2 (some 56) HT_.out ?_
          refine GS.pu 4 (some 58) HT_.out ?_
          refine GS.pu 6 (some 60) HT_.out ?_
          refine GS.tk 3 (some 57) HT_.out HW_.out hHeld ?_
          refine GS.tk 5 (some 59) HT_.out HW_.out hHeld ?_
          refine GS.tk 7 (some 61) HT_.out HW_.out hHeld ?_
          refine one_ (i := 1) (N := some 55) #[true, true, true, true, true, true, true, true, false, false, false, false, false, false] rfl rfl (one_of HT_.out (by kernel_rfl)) (by decide) (fun K hK => ?_)
          refine goes_ Try.func14 (by kernel_rfl) rfl #[.slice A0 l0.length c0] (by rfl) rfl rfl (by (try simp only [List.map_toArray, List.map_cons, List.map_nil]); first | done | rfl | (simp only [List.length_drop, List.length_take]; rfl)) ?_
          with_reducible refine (clone34.calls _ _ l0 t368 _ ?side1 ?side2 A24.out).mono ?_
          (case side1 => exact GS.rC (Kd.C_below HR0.out HB.out))
          (case side2 => exact HC0.out)
          rintro e w70 ⟨v369, rfl, ho0, hb⟩
          refine ⟨_, rfl, ?_⟩
          have n0_ := Aside0.mk (Kd.R_elder' (GS.rR HO365.out) (Kd.R_base ho0) hb)
          have n1_ := Aside0.mk (Kd.R_lower (Kd.R_new' ho0 (Kd.R_lt (GS.rR HO365.out))) (lqZ (GS.lB HB.out)))
          have n2_ := Aside0.mk (bqB (GS.bqX BK360.out) hb)
          have n3_ := Aside0.mk (lqT (GS.lB HB.out) hb)
          clear HO365
          clear BK360
          clear HB
          have HO365 := n0_
          have HO370 := n1_
          have BK360 := n2_
          have HB := n3_
          clear n0_ n1_ n2_ n3_
          (try clear hb)
          (try clear hb2)
          (try clear hk)
          (try clear hi)
          (try clear ho0)
          obtain ⟨Ao71, co71, eo71⟩ := Kd.R_slice HO370.out
          (first | subst eo71 | (injection eo71 with f1_ f2_ f3_; have f4_ := f1_.symm; have f5_ := f3_.symm; clear f1_ f2_ f3_; subst f4_; subst f5_))
          refine hK.out _ _ ⟨(bqC BK360.out 0).trans rfl, (bqC BK360.out 1).trans rfl, (bqC BK360.out 2).trans rfl⟩ (fun hHeld => ?_)
          clear hK K
          refine norm_ (a' := ?_) ?_ ?_
          rotate_left
          ·show Act.put _ (some 55) _ = _
           simp only [Act.put, List.setIfInBounds_toArray, List.set_cons_zero, List.set_cons_succ, i64_w, i32_w]
           rfl
          refine one_ (i := 8) (N := some 62) #[true, true, true, true, true, true, true, true, true, false, false, false, false, false] rfl rfl (one_of HT_.out (by kernel_rfl)) (by decide) (fun K hK => ?_)
          refine goes_ Try.func18 (by kernel_rfl) rfl #[.slice Ao71 t368.length co71, .int .i64 a1_0, .int .i64 a1_1, .int .i64 a1_2] (by rfl) rfl rfl (by (try simp only [List.map_toArray, List.map_cons, List.map_nil]); first | done | rfl | (simp only [List.length_drop, List.length_take]; rfl)) ?_
          with_reducible refine (seal_Open.calls _ _ t368 a1_0 a1_1 a1_2 t371 t372 _ ?side1 ?side2 A25.out).mono ?_
          (case side1 => repeat (first | exact (Kd.R_reads' HO370.out).2.2 | (with_reducible refine Kd.C_alloc ?_ _) | (with_reducible refine Kd.C_drewN ?_ _) | (with_reducible refine Kd.C_drew ?_)))
          (case side2 => exact (Kd.R_reads' HO370.out).2.1)
          rintro e w72 ⟨rfl, hb⟩
          refine ⟨_, rfl, ?_⟩
          have n0_ := Aside0.mk (Kd.R_below (GS.rR HO365.out) hb)
          have n1_ := Aside0.mk (Kd.R_below (GS.rR HO370.out) hb)
          have n2_ := Aside0.mk (bqB (GS.bqX BK360.out) hb)
          have n3_ := Aside0.mk (lqT (GS.lB HB.out) hb)
          clear HO365
          clear HO370
          clear BK360
          clear HB
          have HO365 := n0_
          have HO370 := n1_
          have BK360 := n2_
          have HB := n3_
          clear n0_ n1_ n2_ n3_
          (try clear hb)
          (try clear hb2)
          (try clear hk)
          (try clear hi)
          refine hK.out _ _ ⟨(bqC BK360.out 0).trans rfl, (bqC BK360.out 1).trans rfl, (bqC BK360.out 2).trans rfl⟩ (fun hHeld => ?_)
          clear hK K
          refine norm_ (a' := ?_) ?_ ?_
          rotate_left
          ·show Act.put _ (some 62) _ = _
           simp only [Act.put, List.setIfInBounds_toArray, List.set_cons_zero, List.set_cons_succ, i64_w, i32_w]
           rfl
          refine GS.pu 9 (some 53) HT_.out ?_
          refine GS.pu 10 (some 63) HT_.out ?_
          refine GS.pu 11 (some 64) HT_.out ?_
          refine GS.pu 12 (some 9) HT_.out ?_
          refine GS.pu 13 (some 10) HT_.out ?_
          refine done_ (done_of HT_.out (by kernel_rfl)) ?_
          try go_wp2
          have n0_ := Aside0.mk (Kd.R_drew HO365.out)
          have n1_ := Aside0.mk (Kd.R_drew HO370.out)
          have n2_ := Aside0.mk (bqD BK360.out)
          have n3_ := Aside0.mk (lqD HB.out)
          clear HO365
          clear HO370
          clear BK360
          clear HB
          have HO365 := n0_
          have HO370 := n1_
          have BK360 := n2_
          have HB := n3_
          clear n0_ n1_ n2_ n3_
          refine start_ (n := 13) (S := fun w' => w'.cell? ⟨gb360, 0, none⟩ = some (.int .i64 a1_0) ∧ w'.cell? ⟨gb360, 1, none⟩ = some (.int .i64 a1_1) ∧ w'.cell? ⟨gb360, 2, none⟩ = some (.int .i64 a1_2)) (ds := []) #[false, false, false, false, false, false, false, false, false, false, false, false, false] (by kernel_rfl) rfl rfl ⟨(bqC BK360.out 0).trans rfl, (bqC BK360.out 1).trans rfl, (bqC BK360.out 2).trans rfl⟩ (fun hHeld => ?_); refine with_tabW spilelaw39_SealParts.tab9 spilelaw39_SealParts.bits9 (fun HT_ HW_ => ?_)
          generalize w72.drew = w73 at HO365 HO370 BK360 HB hHeld ⊢
          refine GS.pu 0 (some 79) HT_.out ?_
          refine GS.pu 2 (some 81) HT_.out ?_
          refine GS.pu 4 (some 83) HT_.out ?_
          refine GS.pu 6 (some 85) HT_.out ?_
          refine GS.tk 3 (some 82) HT_.out HW_.out hHeld ?_
          refine GS.tk 5 (some 84) HT_.out HW_.out hHeld ?_
          refine one_ (i := 1) (N := some 80) #[true, true, true, true, true, true, true, false, false, false, false, false, false] rfl rfl (one_of HT_.out (by kernel_rfl)) (by decide) (fun K hK => ?_)
          refine goes_ Try.func14 (by kernel_rfl) rfl #[.slice A0 l0.length c0] (by rfl) rfl rfl (by (try simp only [List.map_toArray, List.map_cons, List.map_nil]); first | done | rfl | (simp only [List.length_drop, List.length_take]; rfl)) ?_
          with_reducible refine (clone34.calls _ _ l0 t373 _ ?side1 ?side2 A27.out).mono ?_
          (case side1 => exact GS.rC (Kd.C_below HR0.out HB.out))
          (case side2 => exact HC0.out)
          rintro e w74 ⟨v374, rfl, ho0, hb⟩
          refine ⟨_, rfl, ?_⟩
          have n0_ := Aside0.mk (Kd.R_elder' (GS.rR HO365.out) (Kd.R_base ho0) hb)
          have n1_ := Aside0.mk (Kd.R_elder' (GS.rR HO370.out) (Kd.R_base ho0) hb)
          have n2_ := Aside0.mk (Kd.R_lower (Kd.R_new' (Kd.R_new' ho0 (Kd.R_lt (GS.rR HO365.out))) (Kd.R_lt (GS.rR HO370.out))) (lqZ (GS.lB HB.out)))
          have n3_ := Aside0.mk (bqB (GS.bqX BK360.out) hb)
          have n4_ := Aside0.mk (lqT (GS.lB HB.out) hb)
          clear HO365
          clear HO370
          clear BK360
          clear HB
          have HO365 := n0_
          have HO370 := n1_
          have HO375 := n2_
          have BK360 := n3_
          have HB := n4_
          clear n0_ n1_ n2_ n3_ n4_
          (try clear hb)
          (try clear hb2)
          (try clear hk)
          (try clear hi)
          (try clear ho0)
          obtain ⟨Ao75, co75, eo75⟩ := Kd.R_slice HO375.out
          (first | subst eo75 | (injection eo75 with f1_ f2_ f3_; have f4_ := f1_.symm; have f5_ := f3_.symm; clear f1_ f2_ f3_; subst f4_; subst f5_))
          refine hK.out _ _ ⟨(bqC BK360.out 0).trans rfl, (bqC BK360.out 1).trans rfl, (bqC BK360.out 2).trans rfl⟩ (fun hHeld => ?_)
          clear hK K
          refine norm_ (a' := ?_) ?_ ?_
          rotate_left
          ·show Act.put _ (some 80) _ = _
           simp only [Act.put, List.setIfInBounds_toArray, List.set_cons_zero, List.set_cons_succ, i64_w, i32_w]
           rfl
          refine one_ (i := 7) (N := some 86) #[true, true, true, true, true, true, true, true, false, false, false, false, false] rfl rfl (one_of HT_.out (by kernel_rfl)) (by decide) (fun K hK => ?_)
          refine goes_ Try.func18 (by kernel_rfl) rfl #[.slice Ao75 t373.length co75, .int .i64 a1_0, .int .i64 a1_1, .int .i64 a2] (by rfl) rfl rfl (by (try simp only [List.map_toArray, List.map_cons, List.map_nil]); first | done | rfl | (simp only [List.length_drop, List.length_take]; rfl)) ?_
          with_reducible refine (seal_Open.calls _ _ t373 a1_0 a1_1 a2 t376 t377 _ ?side1 ?side2 A28.out).mono ?_
          (case side1 => repeat (first | exact (Kd.R_reads' HO375.out).2.2 | (with_reducible refine Kd.C_alloc ?_ _) | (with_reducible refine Kd.C_drewN ?_ _) | (with_reducible refine Kd.C_drew ?_)))
          (case side2 => exact (Kd.R_reads' HO375.out).2.1)
          rintro e w76 ⟨rfl, hb⟩
          refine ⟨_, rfl, ?_⟩
          have n0_ := Aside0.mk (Kd.R_below (GS.rR HO365.out) hb)
          have n1_ := Aside0.mk (Kd.R_below (GS.rR HO370.out) hb)
          have n2_ := Aside0.mk (Kd.R_below (GS.rR HO375.out) hb)
          have n3_ := Aside0.mk (bqB (GS.bqX BK360.out) hb)
          have n4_ := Aside0.mk (lqT (GS.lB HB.out) hb)
          clear HO365
          clear HO370
          clear HO375
          clear BK360
          clear HB
          have HO365 := n0_
          have HO370 := n1_
          have HO375 := n2_
          have BK360 := n3_
          have HB := n4_
          clear n0_ n1_ n2_ n3_ n4_
          (try clear hb)
          (try clear hb2)
          (try clear hk)
          (try clear hi)
          refine hK.out _ _ ⟨(bqC BK360.out 0).trans rfl, (bqC BK360.out 1).trans rfl, (bqC BK360.out 2).trans rfl⟩ (fun hHeld => ?_)
          clear hK K
          refine norm_ (a' := ?_) ?_ ?_
          rotate_left
          ·show Act.put _ (some 86) _ = _
           simp only [Act.put, List.setIfInBounds_toArray, List.set_cons_zero, List.set_cons_succ, i64_w, i32_w]
           rfl
          refine GS.pu 8 (some 78) HT_.out ?_
          refine GS.pu 9 (some 87) HT_.out ?_
          refine GS.pu 10 (some 88) HT_.out ?_
          refine GS.pu 11 (some 11) HT_.out ?_
          refine GS.pu 12 (some 12) HT_.out ?_
          refine done_ (done_of HT_.out (by kernel_rfl)) ?_
          try go_wp2
          have n0_ := Aside0.mk (Kd.R_drew HO365.out)
          have n1_ := Aside0.mk (Kd.R_drew HO370.out)
          have n2_ := Aside0.mk (Kd.R_drew HO375.out)
          have n3_ := Aside0.mk (bqD BK360.out)
          have n4_ := Aside0.mk (lqD HB.out)
          clear HO365
          clear HO370
          clear HO375
          clear BK360
          clear HB
          have HO365 := n0_
          have HO370 := n1_
          have HO375 := n2_
          have BK360 := n3_
          have HB := n4_
          clear n0_ n1_ n2_ n3_ n4_
          refine start_ (n := 14) (S := fun w' => w'.cell? ⟨gb360, 0, none⟩ = some (.int .i64 a1_0) ∧ w'.cell? ⟨gb360, 1, none⟩ = some (.int .i64 a1_1) ∧ w'.cell? ⟨gb360, 2, none⟩ = some (.int .i64 a1_2)) (ds := []) #[false, false, false, false, false, false, false, false, false, false, false, false, false, false] (by kernel_rfl) rfl rfl ⟨(bqC BK360.out 0).trans rfl, (bqC BK360.out 1).trans rfl, (bqC BK360.out 2).trans rfl⟩ (fun hHeld => ?_); refine with_tabW spilelaw39_SealParts.tab10 spilelaw39_SealParts.bits10 (fun HT_ HW_ => ?_)
          generalize w76.drew = w77 at HO365 HO370 HO375 BK360 HB hHeld ⊢
          refine GS.pu 0 (some 90) HT_.out ?_
          refine GS.pu 2 (some 92) HT_.out ?_
          refine GS.pu 4 (some 94) HT_.out ?_
          refine GS.pu 5 (some 95) HT_.out ?_
          refine GS.pu 6 (some 96) HT_.out ?_
          refine GS.tk 3 (some 93) HT_.out HW_.out hHeld ?_
          refine GS.tk 7 (some 97) HT_.out HW_.out hHeld ?_
          refine one_ (i := 1) (N := some 91) #[true, true, true, true, true, true, true, true, false, false, false, false, false, false] rfl rfl (one_of HT_.out (by kernel_rfl)) (by decide) (fun K hK => ?_)
          refine goes_ Try.func14 (by kernel_rfl) rfl #[.slice A0 l0.length c0] (by rfl) rfl rfl (by (try simp only [List.map_toArray, List.map_cons, List.map_nil]); first | done | rfl | (simp only [List.length_drop, List.length_take]; rfl)) ?_
          with_reducible refine (clone34.calls _ _ l0 t378 _ ?side1 ?side2 A29.out).mono ?_
          (case side1 => exact GS.rC (Kd.C_below HR0.out HB.out))
          (case side2 => exact HC0.out)
          rintro e w78 ⟨v379, rfl, ho0, hb⟩
          refine ⟨_, rfl, ?_⟩
          have n0_ := Aside0.mk (Kd.R_elder' (GS.rR HO365.out) (Kd.R_base ho0) hb)
          have n1_ := Aside0.mk (Kd.R_elder' (GS.rR HO370.out) (Kd.R_base ho0) hb)
          have n2_ := Aside0.mk (Kd.R_elder' (GS.rR HO375.out) (Kd.R_base ho0) hb)
          have n3_ := Aside0.mk (Kd.R_lower (Kd.R_new' (Kd.R_new' (Kd.R_new' ho0 (Kd.R_lt (GS.rR HO365.out))) (Kd.R_lt (GS.rR HO370.out))) (Kd.R_lt (GS.rR HO375.out))) (lqZ (GS.lB HB.out)))
          have n4_ := Aside0.mk (bqB (GS.bqX BK360.out) hb)
          have n5_ := Aside0.mk (lqT (GS.lB HB.out) hb)
          clear HO365
          clear HO370
          clear HO375
          clear BK360
          clear HB
          have HO365 := n0_
          have HO370 := n1_
          have HO375 := n2_
          have HO380 := n3_
          have BK360 := n4_
          have HB := n5_
          clear n0_ n1_ n2_ n3_ n4_ n5_
          (try clear hb)
          (try clear hb2)
          (try clear hk)
          (try clear hi)
          (try clear ho0)
          obtain ⟨Ao79, co79, eo79⟩ := Kd.R_slice HO380.out
          (first | subst eo79 | (injection eo79 with f1_ f2_ f3_; have f4_ := f1_.symm; have f5_ := f3_.symm; clear f1_ f2_ f3_; subst f4_; subst f5_))
          refine hK.out _ _ ⟨(bqC BK360.out 0).trans rfl, (bqC BK360.out 1).trans rfl, (bqC BK360.out 2).trans rfl⟩ (fun hHeld => ?_)
          clear hK K
          refine norm_ (a' := ?_) ?_ ?_
          rotate_left
          ·show Act.put _ (some 91) _ = _
           simp only [Act.put, List.setIfInBounds_toArray, List.set_cons_zero, List.set_cons_succ, i64_w, i32_w]
           rfl
          refine one_ (i := 8) (N := some 98) #[true, true, true, true, true, true, true, true, true, false, false, false, false, false] rfl rfl (one_of HT_.out (by kernel_rfl)) (by decide) (fun K hK => ?_)
          refine goes_ Try.func18 (by kernel_rfl) rfl #[.slice Ao79 t378.length co79, .int .i64 a1_0, .int .i64 (wrap64 (a2 + 1)), .int .i64 a1_2] (by rfl) rfl rfl (by (try simp only [List.map_toArray, List.map_cons, List.map_nil]); first | done | rfl | (simp only [List.length_drop, List.length_take]; rfl)) ?_
          with_reducible refine (seal_Open.calls _ _ t378 a1_0 (wrap64 (a2 + 1)) a1_2 t381 t382 _ ?side1 ?side2 A30.out).mono ?_
          (case side1 => repeat (first | exact (Kd.R_reads' HO380.out).2.2 | (with_reducible refine Kd.C_alloc ?_ _) | (with_reducible refine Kd.C_drewN ?_ _) | (with_reducible refine Kd.C_drew ?_)))
          (case side2 => exact (Kd.R_reads' HO380.out).2.1)
          rintro e w80 ⟨rfl, hb⟩
          refine ⟨_, rfl, ?_⟩
          have n0_ := Aside0.mk (Kd.R_below (GS.rR HO365.out) hb)
          have n1_ := Aside0.mk (Kd.R_below (GS.rR HO370.out) hb)
          have n2_ := Aside0.mk (Kd.R_below (GS.rR HO375.out) hb)
          have n3_ := Aside0.mk (Kd.R_below (GS.rR HO380.out) hb)
          have n4_ := Aside0.mk (bqB (GS.bqX BK360.out) hb)
          have n5_ := Aside0.mk (lqT (GS.lB HB.out) hb)
          clear HO365
          clear HO370
          clear HO375
          clear HO380
          clear BK360
          clear HB
          have HO365 := n0_
          have HO370 := n1_
          have HO375 := n2_
          have HO380 := n3_
          have BK360 := n4_
          have HB := n5_
          clear n0_ n1_ n2_ n3_ n4_ n5_
          (try clear hb)
          (try clear hb2)
          (try clear hk)
          (try clear hi)
          refine hK.out _ _ ⟨(bqC BK360.out 0).trans rfl, (bqC BK360.out 1).trans rfl, (bqC BK360.out 2).trans rfl⟩ (fun hHeld => ?_)
          clear hK K
          refine norm_ (a' := ?_) ?_ ?_
          rotate_left
          ·show Act.put _ (some 98) _ = _
           simp only [Act.put, List.setIfInBounds_toArray, List.set_cons_zero, List.set_cons_succ, i64_w, i32_w]
           rfl
          refine GS.pu 9 (some 89) HT_.out ?_
          refine GS.pu 10 (some 99) HT_.out ?_
          refine GS.pu 11 (some 100) HT_.out ?_
          refine GS.pu 12 (some 13) HT_.out ?_
          refine GS.pu 13 (some 14) HT_.out ?_
          refine done_ (done_of HT_.out (by kernel_rfl)) ?_
          try go_wp2
          have n0_ := Aside0.mk (Kd.R_drew HO365.out)
          have n1_ := Aside0.mk (Kd.R_drew HO370.out)
          have n2_ := Aside0.mk (Kd.R_drew HO375.out)
          have n3_ := Aside0.mk (Kd.R_drew HO380.out)
          have n4_ := Aside0.mk (bqD BK360.out)
          have n5_ := Aside0.mk (lqD HB.out)
          clear HO365
          clear HO370
          clear HO375
          clear HO380
          clear BK360
          clear HB
          have HO365 := n0_
          have HO370 := n1_
          have HO375 := n2_
          have HO380 := n3_
          have BK360 := n4_
          have HB := n5_
          clear n0_ n1_ n2_ n3_ n4_ n5_
          refine start_ (n := 13) (S := fun w' => w'.cell? ⟨gb360, 0, none⟩ = some (.int .i64 a1_0) ∧ w'.cell? ⟨gb360, 1, none⟩ = some (.int .i64 a1_1) ∧ w'.cell? ⟨gb360, 2, none⟩ = some (.int .i64 a1_2)) (ds := []) #[false, false, false, false, false, false, false, false, false, false, false, false, false] (by kernel_rfl) rfl rfl ⟨(bqC BK360.out 0).trans rfl, (bqC BK360.out 1).trans rfl, (bqC BK360.out 2).trans rfl⟩ (fun hHeld => ?_); refine with_tabW spilelaw39_SealParts.tab11 spilelaw39_SealParts.bits11 (fun HT_ HW_ => ?_)
          generalize w80.drew = w81 at HO365 HO370 HO375 HO380 BK360 HB hHeld ⊢
          refine GS.pu 0 (some 102) HT_.out ?_
          refine GS.pu 2 (some 104) HT_.out ?_
          refine GS.pu 4 (some 106) HT_.out ?_
          refine GS.pu 6 (some 108) HT_.out ?_
          refine GS.tk 3 (some 105) HT_.out HW_.out hHeld ?_
          refine GS.tk 5 (some 107) HT_.out HW_.out hHeld ?_
          refine one_ (i := 1) (N := some 103) #[true, true, true, true, true, true, true, false, false, false, false, false, false] rfl rfl (one_of HT_.out (by kernel_rfl)) (by decide) (fun K hK => ?_)
          refine goes_ Try.func14 (by kernel_rfl) rfl #[.slice A0 l0.length c0] (by rfl) rfl rfl (by (try simp only [List.map_toArray, List.map_cons, List.map_nil]); first | done | rfl | (simp only [List.length_drop, List.length_take]; rfl)) ?_
          with_reducible refine (clone34.calls _ _ l0 t383 _ ?side1 ?side2 A31.out).mono ?_
          (case side1 => exact GS.rC (Kd.C_below HR0.out HB.out))
          (case side2 => exact HC0.out)
          rintro e w82 ⟨v384, rfl, ho0, hb⟩
          refine ⟨_, rfl, ?_⟩
          have n0_ := Aside0.mk (Kd.R_elder' (GS.rR HO365.out) (Kd.R_base ho0) hb)
          have n1_ := Aside0.mk (Kd.R_elder' (GS.rR HO370.out) (Kd.R_base ho0) hb)
          have n2_ := Aside0.mk (Kd.R_elder' (GS.rR HO375.out) (Kd.R_base ho0) hb)
          have n3_ := Aside0.mk (Kd.R_elder' (GS.rR HO380.out) (Kd.R_base ho0) hb)
          have n4_ := Aside0.mk (Kd.R_lower (Kd.R_new' (Kd.R_new' (Kd.R_new' (Kd.R_new' ho0 (Kd.R_lt (GS.rR HO365.out))) (Kd.R_lt (GS.rR HO370.out))) (Kd.R_lt (GS.rR HO375.out))) (Kd.R_lt (GS.rR HO380.out))) (lqZ (GS.lB HB.out)))
          have n5_ := Aside0.mk (bqB (GS.bqX BK360.out) hb)
          have n6_ := Aside0.mk (lqT (GS.lB HB.out) hb)
          clear HO365
          clear HO370
          clear HO375
          clear HO380
          clear BK360
          clear HB
          have HO365 := n0_
          have HO370 := n1_
          have HO375 := n2_
          have HO380 := n3_
          have HO385 := n4_
          have BK360 := n5_
          have HB := n6_
          clear n0_ n1_ n2_ n3_ n4_ n5_ n6_
          (try clear hb)
          (try clear hb2)
          (try clear hk)
          (try clear hi)
          (try clear ho0)
          obtain ⟨Ao83, co83, eo83⟩ := Kd.R_slice HO385.out
          (first | subst eo83 | (injection eo83 with f1_ f2_ f3_; have f4_ := f1_.symm; have f5_ := f3_.symm; clear f1_ f2_ f3_; subst f4_; subst f5_))
          refine hK.out _ _ ⟨(bqC BK360.out 0).trans rfl, (bqC BK360.out 1).trans rfl, (bqC BK360.out 2).trans rfl⟩ (fun hHeld => ?_)
          clear hK K
          refine norm_ (a' := ?_) ?_ ?_
          rotate_left
          ·show Act.put _ (some 103) _ = _
           simp only [Act.put, List.setIfInBounds_toArray, List.set_cons_zero, List.set_cons_succ, i64_w, i32_w]
           rfl
          refine one_ (i := 7) (N := some 109) #[true, true, true, true, true, true, true, true, false, false, false, false, false] rfl rfl (one_of HT_.out (by kernel_rfl)) (by decide) (fun K hK => ?_)
          refine goes_ Try.func16 (by kernel_rfl) rfl #[.slice Ao83 t383.length co83, .int .i64 a1_0, .int .i64 a1_1, .int .i64 a2] (by rfl) rfl rfl (by (try simp only [List.map_toArray, List.map_cons, List.map_nil]); first | done | rfl | (simp only [List.length_drop, List.length_take]; rfl)) ?_
          with_reducible refine (seal_Unbroken.calls _ _ t383 a1_0 a1_1 a2 t386 t387 _ ?side1 ?side2 A32.out).mono ?_
          (case side1 => repeat (first | exact (Kd.R_reads' HO385.out).2.2 | (with_reducible refine Kd.C_alloc ?_ _) | (with_reducible refine Kd.C_drewN ?_ _) | (with_reducible refine Kd.C_drew ?_)))
          (case side2 => exact (Kd.R_reads' HO385.out).2.1)
          rintro e w84 ⟨rfl, hb⟩
          refine ⟨_, rfl, ?_⟩
          have n0_ := Aside0.mk (Kd.R_below (GS.rR HO365.out) hb)
          have n1_ := Aside0.mk (Kd.R_below (GS.rR HO370.out) hb)
          have n2_ := Aside0.mk (Kd.R_below (GS.rR HO375.out) hb)
          have n3_ := Aside0.mk (Kd.R_below (GS.rR HO380.out) hb)
          have n4_ := Aside0.mk (Kd.R_below (GS.rR HO385.out) hb)
          have n5_ := Aside0.mk (bqB (GS.bqX BK360.out) hb)
          have n6_ := Aside0.mk (lqT (GS.lB HB.out) hb)
          clear HO365
          clear HO370
          clear HO375
          clear HO380
          clear HO385
          clear BK360
          clear HB
          have HO365 := n0_
          have HO370 := n1_
          have HO375 := n2_
          have HO380 := n3_
          have HO385 := n4_
          have BK360 := n5_
          have HB := n6_
          clear n0_ n1_ n2_ n3_ n4_ n5_ n6_
          (try clear hb)
          (try clear hb2)
          (try clear hk)
          (try clear hi)
          refine hK.out _ _ ⟨(bqC BK360.out 0).trans rfl, (bqC BK360.out 1).trans rfl, (bqC BK360.out 2).trans rfl⟩ (fun hHeld => ?_)
          clear hK K
          refine norm_ (a' := ?_) ?_ ?_
          rotate_left
          ·show Act.put _ (some 109) _ = _
           simp only [Act.put, List.setIfInBounds_toArray, List.set_cons_zero, List.set_cons_succ, i64_w, i32_w]
           rfl
          refine GS.pu 8 (some 101) HT_.out ?_
          refine GS.pu 9 (some 110) HT_.out ?_
          refine GS.pu 10 (some 111) HT_.out ?_
          refine GS.pu 11 (some 15) HT_.out ?_
          refine GS.pu 12 (some 16) HT_.out ?_
          refine done_ (done_of HT_.out (by kernel_rfl)) ?_
          try go_wp2
          have n0_ := Aside0.mk (Kd.R_drew HO365.out)
          have n1_ := Aside0.mk (Kd.R_drew HO370.out)
          have n2_ := Aside0.mk (Kd.R_drew HO375.out)
          have n3_ := Aside0.mk (Kd.R_drew HO380.out)
          have n4_ := Aside0.mk (Kd.R_drew HO385.out)
          have n5_ := Aside0.mk (bqD BK360.out)
          have n6_ := Aside0.mk (lqD HB.out)
          clear HO365
          clear HO370
          clear HO375
          clear HO380
          clear HO385
          clear BK360
          clear HB
          have HO365 := n0_
          have HO370 := n1_
          have HO375 := n2_
          have HO380 := n3_
          have HO385 := n4_
          have BK360 := n5_
          have HB := n6_
          clear n0_ n1_ n2_ n3_ n4_ n5_ n6_
          refine start_ (n := 13) (S := fun w' => w'.cell? ⟨gb360, 0, none⟩ = some (.int .i64 a1_0) ∧ w'.cell? ⟨gb360, 1, none⟩ = some (.int .i64 a1_1) ∧ w'.cell? ⟨gb360, 2, none⟩ = some (.int .i64 a1_2)) (ds := []) #[false, false, false, false, false, false, false, false, false, false, false, false, false] (by kernel_rfl) rfl rfl ⟨(bqC BK360.out 0).trans rfl, (bqC BK360.out 1).trans rfl, (bqC BK360.out 2).trans rfl⟩ (fun hHeld => ?_); refine with_tabW spilelaw39_SealParts.tab12 spilelaw39_SealParts.bits12 (fun HT_ HW_ => ?_)
          generalize w84.drew = w85 at HO365 HO370 HO375 HO380 HO385 BK360 HB hHeld ⊢
          refine GS.pu 0 (some 113) HT_.out ?_
          refine GS.pu 2 (some 115) HT_.out ?_
          refine GS.pu 4 (some 117) HT_.out ?_
          refine GS.pu 5 (some 118) HT_.out ?_
          refine GS.tk 3 (some 116) HT_.out HW_.out hHeld ?_
          refine GS.tk 6 (some 119) HT_.out HW_.out hHeld ?_
          refine one_ (i := 1) (N := some 114) #[true, true, true, true, true, true, true, false, false, false, false, false, false] rfl rfl (one_of HT_.out (by kernel_rfl)) (by decide) (fun K hK => ?_)
          refine goes_ Try.func14 (by kernel_rfl) rfl #[.slice A0 l0.length c0] (by rfl) rfl rfl (by (try simp only [List.map_toArray, List.map_cons, List.map_nil]); first | done | rfl | (simp only [List.length_drop, List.length_take]; rfl)) ?_
          with_reducible refine (clone34.calls _ _ l0 t388 _ ?side1 ?side2 A33.out).mono ?_
          (case side1 => exact GS.rC (Kd.C_below HR0.out HB.out))
          (case side2 => exact HC0.out)
          rintro e w86 ⟨v389, rfl, ho0, hb⟩
          refine ⟨_, rfl, ?_⟩
          have n0_ := Aside0.mk (Kd.R_elder' (GS.rR HO365.out) (Kd.R_base ho0) hb)
          have n1_ := Aside0.mk (Kd.R_elder' (GS.rR HO370.out) (Kd.R_base ho0) hb)
          have n2_ := Aside0.mk (Kd.R_elder' (GS.rR HO375.out) (Kd.R_base ho0) hb)
          have n3_ := Aside0.mk (Kd.R_elder' (GS.rR HO380.out) (Kd.R_base ho0) hb)
          have n4_ := Aside0.mk (Kd.R_elder' (GS.rR HO385.out) (Kd.R_base ho0) hb)
          have n5_ := Aside0.mk (Kd.R_lower (Kd.R_new' (Kd.R_new' (Kd.R_new' (Kd.R_new' (Kd.R_new' ho0 (Kd.R_lt (GS.rR HO365.out))) (Kd.R_lt (GS.rR HO370.out))) (Kd.R_lt (GS.rR HO375.out))) (Kd.R_lt (GS.rR HO380.out))) (Kd.R_lt (GS.rR HO385.out))) (lqZ (GS.lB HB.out)))
          have n6_ := Aside0.mk (bqB (GS.bqX BK360.out) hb)
          have n7_ := Aside0.mk (lqT (GS.lB HB.out) hb)
          clear HO365
          clear HO370
          clear HO375
          clear HO380
          clear HO385
          clear BK360
          clear HB
          have HO365 := n0_
          have HO370 := n1_
          have HO375 := n2_
          have HO380 := n3_
          have HO385 := n4_
          have HO390 := n5_
          have BK360 := n6_
          have HB := n7_
          clear n0_ n1_ n2_ n3_ n4_ n5_ n6_ n7_
          (try clear hb)
          (try clear hb2)
          (try clear hk)
          (try clear hi)
          (try clear ho0)
          obtain ⟨Ao87, co87, eo87⟩ := Kd.R_slice HO390.out
          (first | subst eo87 | (injection eo87 with f1_ f2_ f3_; have f4_ := f1_.symm; have f5_ := f3_.symm; clear f1_ f2_ f3_; subst f4_; subst f5_))
          refine hK.out _ _ ⟨(bqC BK360.out 0).trans rfl, (bqC BK360.out 1).trans rfl, (bqC BK360.out 2).trans rfl⟩ (fun hHeld => ?_)
          clear hK K
          refine norm_ (a' := ?_) ?_ ?_
          rotate_left
          ·show Act.put _ (some 114) _ = _
           simp only [Act.put, List.setIfInBounds_toArray, List.set_cons_zero, List.set_cons_succ, i64_w, i32_w]
           rfl
          refine one_ (i := 7) (N := some 120) #[true, true, true, true, true, true, true, true, false, false, false, false, false] rfl rfl (one_of HT_.out (by kernel_rfl)) (by decide) (fun K hK => ?_)
          refine goes_ Try.func16 (by kernel_rfl) rfl #[.slice Ao87 t388.length co87, .int .i64 a1_0, .int .i64 a2, .int .i64 a1_2] (by rfl) rfl rfl (by (try simp only [List.map_toArray, List.map_cons, List.map_nil]); first | done | rfl | (simp only [List.length_drop, List.length_take]; rfl)) ?_
          with_reducible refine (seal_Unbroken.calls _ _ t388 a1_0 a2 a1_2 t391 t392 _ ?side1 ?side2 A34.out).mono ?_
          (case side1 => repeat (first | exact (Kd.R_reads' HO390.out).2.2 | (with_reducible refine Kd.C_alloc ?_ _) | (with_reducible refine Kd.C_drewN ?_ _) | (with_reducible refine Kd.C_drew ?_)))
          (case side2 => exact (Kd.R_reads' HO390.out).2.1)
          rintro e w88 ⟨rfl, hb⟩
          refine ⟨_, rfl, ?_⟩
          have n0_ := Aside0.mk (Kd.R_below (GS.rR HO365.out) hb)
          have n1_ := Aside0.mk (Kd.R_below (GS.rR HO370.out) hb)
          have n2_ := Aside0.mk (Kd.R_below (GS.rR HO375.out) hb)
          have n3_ := Aside0.mk (Kd.R_below (GS.rR HO380.out) hb)
          have n4_ := Aside0.mk (Kd.R_below (GS.rR HO385.out) hb)
          have n5_ := Aside0.mk (Kd.R_below (GS.rR HO390.out) hb)
          have n6_ := Aside0.mk (bqB (GS.bqX BK360.out) hb)
          have n7_ := Aside0.mk (lqT (GS.lB HB.out) hb)
          clear HO365
          clear HO370
          clear HO375
          clear HO380
          clear HO385
          clear HO390
          clear BK360
          clear HB
          have HO365 := n0_
          have HO370 := n1_
          have HO375 := n2_
          have HO380 := n3_
          have HO385 := n4_
          have HO390 := n5_
          have BK360 := n6_
          have HB := n7_
          clear n0_ n1_ n2_ n3_ n4_ n5_ n6_ n7_
          (try clear hb)
          (try clear hb2)
          (try clear hk)
          (try clear hi)
          refine hK.out _ _ ⟨(bqC BK360.out 0).trans rfl, (bqC BK360.out 1).trans rfl, (bqC BK360.out 2).trans rfl⟩ (fun hHeld => ?_)
          clear hK K
          refine norm_ (a' := ?_) ?_ ?_
          rotate_left
          ·show Act.put _ (some 120) _ = _
           simp only [Act.put, List.setIfInBounds_toArray, List.set_cons_zero, List.set_cons_succ, i64_w, i32_w]
           rfl
          refine GS.pu 8 (some 112) HT_.out ?_
          refine GS.pu 9 (some 121) HT_.out ?_
          refine GS.pu 10 (some 122) HT_.out ?_
          refine GS.pu 11 (some 17) HT_.out ?_
          refine GS.pu 12 (some 18) HT_.out ?_
          refine done_ (done_of HT_.out (by kernel_rfl)) ?_
          try go_wp2
          go_ret
          exact ⟨by first | rfl | (simp [errW_none, errW_some] <;> rfl) | (simp [*, errW_none, errW_some] <;> rfl), GS.lB HB.out⟩
        ·rw [if_neg c37] at H
         exact absurd H (by simp)
       ·rw [if_neg c36] at H
        exact absurd H (by simp)
      ·rw [if_neg c35] at H
       exact absurd H (by simp)
     ·rw [if_neg c26] at H
      have c26b0 : (t367 == 0) = false := beq_eq_false_iff_ne.mpr c26
      try simp only [beq_self_eq_true, Bool.not_true, Bool.false_or, Bool.true_and] at c26b0
      have c26b1 : (t367 != 0) = true := bne_iff_ne.mpr c26
      by_cases c89 : t367 = t372
      ·rw [if_pos c89] at H
       have c89b0 : (t367 == t372) = true := beq_iff_eq.mpr c89
       try simp only [beq_self_eq_true, Bool.not_true, Bool.false_or, Bool.true_and] at c89b0
       have c89b1 : (t367 != t372) = false := bne_eq_false_iff_eq.mpr c89
       clear c89
       by_cases c90 : t366 = true
       ·subst c90
        have H1 : (none) = some r := by rw [if_pos rfl] at H; exact H
        clear H
        have H := H1
        clear H1
        exact absurd H (by simp)
       ·replace c90 := Bool.eq_false_iff.mpr c90
        subst c90
        have H1 : (some (t371 == 0)) = some r := by rw [if_neg (show ¬ (false = true) by decide)] at H; exact H
        clear H
        have H := H1
        clear H1
        obtain rfl := Option.some.inj H
        try go_wp2
        have n0_ := Aside0.mk (bqD BK360.out)
        have n1_ := Aside0.mk (lqD HB.out)
        clear BK360
        clear HB
        have BK360 := n0_
        have HB := n1_
        clear n0_ n1_
        refine start_ (n := 14) (S := fun w' => w'.cell? ⟨gb360, 0, none⟩ = some (.int .i64 a1_0) ∧ w'.cell? ⟨gb360, 1, none⟩ = some (.int .i64 a1_1) ∧ w'.cell? ⟨gb360, 2, none⟩ = some (.int .i64 a1_2)) (ds := []) #[false, false, false, false, false, false, false, false, false, false, false, false, false, false] (by kernel_rfl) rfl rfl ⟨(bqC BK360.out 0).trans rfl, (bqC BK360.out 1).trans rfl, (bqC BK360.out 2).trans rfl⟩ (fun hHeld => ?_); refine with_tabW spilelaw39_SealParts.tab5 spilelaw39_SealParts.bits5 (fun HT_ HW_ => ?_)
        generalize wc.drew = w91 at BK360 HB hHeld ⊢
        refine GS.pu 0 (some 42) HT_.out ?_
        refine GS.pu 2 (some 44) HT_.out ?_
        refine GS.pu 4 (some 46) HT_.out ?_
        refine GS.pu 6 (some 48) HT_.out ?_
        refine GS.tk 3 (some 45) HT_.out HW_.out hHeld ?_
        refine GS.tk 5 (some 47) HT_.out HW_.out hHeld ?_
        refine GS.tk 7 (some 49) HT_.out HW_.out hHeld ?_
        refine one_ (i := 1) (N := some 43) #[true, true, true, true, true, true, true, true, false, false, false, false, false, false] rfl rfl (one_of HT_.out (by kernel_rfl)) (by decide) (fun K hK => ?_)
        refine goes_ Try.func14 (by kernel_rfl) rfl #[.slice A0 l0.length c0] (by rfl) rfl rfl (by (try simp only [List.map_toArray, List.map_cons, List.map_nil]); first | done | rfl | (simp only [List.length_drop, List.length_take]; rfl)) ?_
        with_reducible refine (clone34.calls _ _ l0 t363 _ ?side1 ?side2 A22.out).mono ?_
        (case side1 => exact GS.rC (Kd.C_below HR0.out HB.out))
        (case side2 => exact HC0.out)
        rintro e w92 ⟨v364, rfl, ho0, hb⟩
        refine ⟨_, rfl, ?_⟩
        have n0_ := Aside0.mk (Kd.R_lower ho0 (lqZ (GS.lB HB.out)))
        have n1_ := Aside0.mk (bqB (GS.bqX BK360.out) hb)
        have n2_ := Aside0.mk (lqT (GS.lB HB.out) hb)
        clear BK360
        clear HB
        have HO365 := n0_
        have BK360 := n1_
        have HB := n2_
        clear n0_ n1_ n2_
        (try clear hb)
        (try clear hb2)
        (try clear hk)
        (try clear hi)
        (try clear ho0)
        obtain ⟨Ao93, co93, eo93⟩ := Kd.R_slice HO365.out
        (first | subst eo93 | (injection eo93 with f1_ f2_ f3_; have f4_ := f1_.symm; have f5_ := f3_.symm; clear f1_ f2_ f3_; subst f4_; subst f5_))
        refine hK.out _ _ ⟨(bqC BK360.out 0).trans rfl, (bqC BK360.out 1).trans rfl, (bqC BK360.out 2).trans rfl⟩ (fun hHeld => ?_)
        clear hK K
        refine norm_ (a' := ?_) ?_ ?_
        rotate_left
        ·show Act.put _ (some 43) _ = _
         simp only [Act.put, List.setIfInBounds_toArray, List.set_cons_zero, List.set_cons_succ, i64_w, i32_w]
         rfl
        refine one_ (i := 8) (N := some 50) #[true, true, true, true, true, true, true, true, true, false, false, false, false, false] rfl rfl (one_of HT_.out (by kernel_rfl)) (by decide) (fun K hK => ?_)
        refine goes_ Try.func16 (by kernel_rfl) rfl #[.slice Ao93 t363.length co93, .int .i64 a1_0, .int .i64 a1_1, .int .i64 a1_2] (by rfl) rfl rfl (by (try simp only [List.map_toArray, List.map_cons, List.map_nil]); first | done | rfl | (simp only [List.length_drop, List.length_take]; rfl)) ?_
        with_reducible refine (seal_Unbroken.calls _ _ t363 a1_0 a1_1 a1_2 false t367 _ ?side1 ?side2 A23.out).mono ?_
        (case side1 => repeat (first | exact (Kd.R_reads' HO365.out).2.2 | (with_reducible refine Kd.C_alloc ?_ _) | (with_reducible refine Kd.C_drewN ?_ _) | (with_reducible refine Kd.C_drew ?_)))
        (case side2 => exact (Kd.R_reads' HO365.out).2.1)
        rintro e w94 ⟨rfl, hb⟩
        refine ⟨_, rfl, ?_⟩
        have n0_ := Aside0.mk (Kd.R_below (GS.rR HO365.out) hb)
        have n1_ := Aside0.mk (bqB (GS.bqX BK360.out) hb)
        have n2_ := Aside0.mk (lqT (GS.lB HB.out) hb)
        clear HO365
        clear BK360
        clear HB
        have HO365 := n0_
        have BK360 := n1_
        have HB := n2_
        clear n0_ n1_ n2_
        (try clear hb)
        (try clear hb2)
        (try clear hk)
        (try clear hi)
        refine hK.out _ _ ⟨(bqC BK360.out 0).trans rfl, (bqC BK360.out 1).trans rfl, (bqC BK360.out 2).trans rfl⟩ (fun hHeld => ?_)
        clear hK K
        refine norm_ (a' := ?_) ?_ ?_
        rotate_left
        ·show Act.put _ (some 50) _ = _
         simp only [Act.put, List.setIfInBounds_toArray, List.set_cons_zero, List.set_cons_succ, i64_w, i32_w]
         rfl
        refine GS.pu 9 (some 41) HT_.out ?_
        refine GS.pu 10 (some 51) HT_.out ?_
        refine GS.pu 11 (some 52) HT_.out ?_
        refine GS.pu 12 (some 7) HT_.out ?_
        refine GS.pu 13 (some 8) HT_.out ?_
        refine done_ (done_of HT_.out (by kernel_rfl)) ?_
        try go_wp2
        have n0_ := Aside0.mk (Kd.R_drew HO365.out)
        have n1_ := Aside0.mk (bqD BK360.out)
        have n2_ := Aside0.mk (lqD HB.out)
        clear HO365
        clear BK360
        clear HB
        have HO365 := n0_
        have BK360 := n1_
        have HB := n2_
        clear n0_ n1_ n2_
        refine start_ (n := 14) (S := fun w' => w'.cell? ⟨gb360, 0, none⟩ = some (.int .i64 a1_0) ∧ w'.cell? ⟨gb360, 1, none⟩ = some (.int .i64 a1_1) ∧ w'.cell? ⟨gb360, 2, none⟩ = some (.int .i64 a1_2)) (ds := []) #[false, false, false, false, false, false, false, false, false, false, false, false, false, false] (by kernel_rfl) rfl rfl ⟨(bqC BK360.out 0).trans rfl, (bqC BK360.out 1).trans rfl, (bqC BK360.out 2).trans rfl⟩ (fun hHeld => ?_); refine with_tabW spilelaw39_SealParts.tab6 spilelaw39_SealParts.bits6 (fun HT_ HW_ => ?_)
        generalize w94.drew = w95 at HO365 BK360 HB hHeld ⊢
        refine GS.pu 0 (some 54) HT_.out ?_
        refine GS.pu 2 (some 56) HT_.out ?_
        refine GS.pu 4 (some 58) HT_.out ?_
        refine GS.pu 6 (some 60) HT_.out ?_
        refine GS.tk 3 (some 57) HT_.out HW_.out hHeld ?_
        refine GS.tk 5 (some 59) HT_.out HW_.out hHeld ?_
        refine GS.tk 7 (some 61) HT_.out HW_.out hHeld ?_
        refine one_ (i := 1) (N := some 55) #[true, true, true, true, true, true, true, true, false, false, false, false, false, false] rfl rfl (one_of HT_.out (by kernel_rfl)) (by decide) (fun K hK => ?_)
        refine goes_ Try.func14 (by kernel_rfl) rfl #[.slice A0 l0.length c0] (by rfl) rfl rfl (by (try simp only [List.map_toArray, List.map_cons, List.map_nil]); first | done | rfl | (simp only [List.length_drop, List.length_take]; rfl)) ?_
        with_reducible refine (clone34.calls _ _ l0 t368 _ ?side1 ?side2 A24.out).mono ?_
        (case side1 => exact GS.rC (Kd.C_below HR0.out HB.out))
        (case side2 => exact HC0.out)
        rintro e w96 ⟨v369, rfl, ho0, hb⟩
        refine ⟨_, rfl, ?_⟩
        have n0_ := Aside0.mk (Kd.R_elder' (GS.rR HO365.out) (Kd.R_base ho0) hb)
        have n1_ := Aside0.mk (Kd.R_lower (Kd.R_new' ho0 (Kd.R_lt (GS.rR HO365.out))) (lqZ (GS.lB HB.out)))
        have n2_ := Aside0.mk (bqB (GS.bqX BK360.out) hb)
        have n3_ := Aside0.mk (lqT (GS.lB HB.out) hb)
        clear HO365
        clear BK360
        clear HB
        have HO365 := n0_
        have HO370 := n1_
        have BK360 := n2_
        have HB := n3_
        clear n0_ n1_ n2_ n3_
        (try clear hb)
        (try clear hb2)
        (try clear hk)
        (try clear hi)
        (try clear ho0)
        obtain ⟨Ao97, co97, eo97⟩ := Kd.R_slice HO370.out
        (first | subst eo97 | (injection eo97 with f1_ f2_ f3_; have f4_ := f1_.symm; have f5_ := f3_.symm; clear f1_ f2_ f3_; subst f4_; subst f5_))
        refine hK.out _ _ ⟨(bqC BK360.out 0).trans rfl, (bqC BK360.out 1).trans rfl, (bqC BK360.out 2).trans rfl⟩ (fun hHeld => ?_)
        clear hK K
        refine norm_ (a' := ?_) ?_ ?_
        rotate_left
        ·show Act.put _ (some 55) _ = _
         simp only [Act.put, List.setIfInBounds_toArray, List.set_cons_zero, List.set_cons_succ, i64_w, i32_w]
         rfl
        refine one_ (i := 8) (N := some 62) #[true, true, true, true, true, true, true, true, true, false, false, false, false, false] rfl rfl (one_of HT_.out (by kernel_rfl)) (by decide) (fun K hK => ?_)
        refine goes_ Try.func18 (by kernel_rfl) rfl #[.slice Ao97 t368.length co97, .int .i64 a1_0, .int .i64 a1_1, .int .i64 a1_2] (by rfl) rfl rfl (by (try simp only [List.map_toArray, List.map_cons, List.map_nil]); first | done | rfl | (simp only [List.length_drop, List.length_take]; rfl)) ?_
        with_reducible refine (seal_Open.calls _ _ t368 a1_0 a1_1 a1_2 t371 t372 _ ?side1 ?side2 A25.out).mono ?_
        (case side1 => repeat (first | exact (Kd.R_reads' HO370.out).2.2 | (with_reducible refine Kd.C_alloc ?_ _) | (with_reducible refine Kd.C_drewN ?_ _) | (with_reducible refine Kd.C_drew ?_)))
        (case side2 => exact (Kd.R_reads' HO370.out).2.1)
        rintro e w98 ⟨rfl, hb⟩
        refine ⟨_, rfl, ?_⟩
        have n0_ := Aside0.mk (Kd.R_below (GS.rR HO365.out) hb)
        have n1_ := Aside0.mk (Kd.R_below (GS.rR HO370.out) hb)
        have n2_ := Aside0.mk (bqB (GS.bqX BK360.out) hb)
        have n3_ := Aside0.mk (lqT (GS.lB HB.out) hb)
        clear HO365
        clear HO370
        clear BK360
        clear HB
        have HO365 := n0_
        have HO370 := n1_
        have BK360 := n2_
        have HB := n3_
        clear n0_ n1_ n2_ n3_
        (try clear hb)
        (try clear hb2)
        (try clear hk)
        (try clear hi)
        refine hK.out _ _ ⟨(bqC BK360.out 0).trans rfl, (bqC BK360.out 1).trans rfl, (bqC BK360.out 2).trans rfl⟩ (fun hHeld => ?_)
        clear hK K
        refine norm_ (a' := ?_) ?_ ?_
        rotate_left
        ·show Act.put _ (some 62) _ = _
         simp only [Act.put, List.setIfInBounds_toArray, List.set_cons_zero, List.set_cons_succ, i64_w, i32_w]
         rfl
        refine GS.pu 9 (some 53) HT_.out ?_
        refine GS.pu 10 (some 63) HT_.out ?_
        refine GS.pu 11 (some 64) HT_.out ?_
        refine GS.pu 12 (some 9) HT_.out ?_
        refine GS.pu 13 (some 10) HT_.out ?_
        refine done_ (done_of HT_.out (by kernel_rfl)) ?_
        try go_wp2
        go_ret
        exact ⟨by first | rfl | (simp [errW_none, errW_some] <;> rfl) | (simp [*, errW_none, errW_some] <;> rfl), GS.lB HB.out⟩
      ·rw [if_neg c89] at H
       exact absurd H (by simp)
 ·replace c5 := Bool.eq_false_iff.mpr c5
  subst c5
  have H1 : (none) = some r := by rw [if_neg (show ¬ (false = true) by decide)] at H; exact H
  clear H
  have H := H1
  clear H1
  exact absurd H (by simp)

end Go.Proofs.Ytfjenooajbdcmaa.K
