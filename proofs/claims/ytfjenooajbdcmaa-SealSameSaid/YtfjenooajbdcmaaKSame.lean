-- PRINTED by print.py (a twelfth state) out of the translation. Not trusted: Lean checks it.
import Derived.Test.YtfjenooajbdcmaaK0
import Derived.Test.YtfjenooajbdcmaaK9
import Derived.Test.YtfjenooajbdcmaaGHistory
import Derived.Test.YtfjenooajbdcmaaGContB
import Derived.Test.YtfjenooajbdcmaaGIntact
import Derived.Test.YtfjenooajbdcmaaGOpen
namespace Go.Proofs.Ytfjenooajbdcmaa.K
open Go.RowKit Go.Proofs.YtfjenooajbdcmaaW.PrintWords Go.Proofs.YtfjenooajbdcmaaW.PrintLast Go.Proofs.YtfjenooajbdcmaaW.PrintMore
attribute [local go_sem] max2_int min2_int max_two min_two max_three min_three max_four min_four   -- for this text's walks alone
set_option linter.unusedVariables false
set_option linter.unusedSimpArgs false

/-! ### spilelaw39_SealSame: function 7 -/
def spilelaw39_SealSame.j0 : Nat → List (S34) → Bool → Int → Int → Int → Option (Bool)
 | 0, _, _, _, _, _ => none
 | k + 1, x0, x20, x444000, x444001, x444002 => if x20 = true then (some true) else ((clone34.f x0).bind fun t446 => ((seal_Unbroken.f t446 x444000 x444001 x444002).bind fun bt449 => (if bt449.2 = 0 then ((clone34.f x0).bind fun t451 => ((seal_Intact.f t451 x444000 x444001).bind fun bt454 => ((clone34.f x0).bind fun t458 => ((seal_Intact.f t458 x444000 x444002).bind fun bt461 => (if bt454.2 = 0 then (if bt461.2 = 0 then ((contB.f bt454.1 bt461.1).bind fun t466 => (some (bt449.1 == t466))) else (none)) else (none)))))) else (some (!bt449.1)))))
def spilelaw39_SealSame.f (k : Nat) (l0 : List (S34)) (a1_0 : Int) (a1_1 : Int) (a1_2 : Int) : Option (Bool) := (spilelaw39_awake.f k).bind fun t444 => (if t444 = true then (if (l0.length : Int) > 20 then (spilelaw39_SealSame.j0 k l0 true a1_0 a1_1 a1_2) else ((spilelaw39_short.f a1_0 a1_1 a1_2).bind fun t445 => (spilelaw39_SealSame.j0 k l0 (!t445) a1_0 a1_1 a1_2))) else (none))
theorem spilelaw39_SealSame.mono_l : ∀ k, (∀ y0 y1 y2 y3 y4, LeO (spilelaw39_SealSame.j0 k y0 y1 y2 y3 y4) (spilelaw39_SealSame.j0 (k + 1) y0 y1 y2 y3 y4))
 | 0 => fun _ _ _ _ _ r h => by simp [spilelaw39_SealSame.j0] at h
 | k + 1 => by
  have ih0 := spilelaw39_SealSame.mono_l k
  ·intro y0 y1 y2 y3 y4
   unfold spilelaw39_SealSame.j0
   repeat' first
   | (with_reducible exact ih0 _ _ _ _ _)
   | (with_reducible exact spilelaw39_awake.mono _)
   | (with_reducible exact LeO.refl _)
   | (with_reducible exact LeO.none _)
   | (with_reducible refine LeO.ite ?_ ?_)
   | (with_reducible refine LeO.bind ?_ (fun _ => ?_))
   | exact ih0 _ _ _ _ _
   | exact spilelaw39_awake.mono _
   | exact LeO.none _
   | refine LeO.ite ?_ ?_
   | refine LeO.bind ?_ (fun _ => ?_)
theorem spilelaw39_SealSame.mono : ∀ a0 a1 a2 a3 k, LeO (spilelaw39_SealSame.f k a0 a1 a2 a3) (spilelaw39_SealSame.f (k + 1) a0 a1 a2 a3) := by
 intro a0 a1 a2 a3 k
 have ih0 := spilelaw39_SealSame.mono_l k
 unfold spilelaw39_SealSame.f
 repeat' first
   | (with_reducible exact ih0 _ _ _ _ _)
   | (with_reducible exact spilelaw39_awake.mono _)
   | (with_reducible exact LeO.refl _)
   | (with_reducible exact LeO.none _)
   | (with_reducible refine LeO.ite ?_ ?_)
   | (with_reducible refine LeO.bind ?_ (fun _ => ?_))
   | exact ih0 _ _ _ _ _
   | exact spilelaw39_awake.mono _
   | exact LeO.none _
   | refine LeO.ite ?_ ?_
   | refine LeO.bind ?_ (fun _ => ?_)
def spilelaw39_SealSame.T5 : Bool × List (List Nat × List Nat) := (true, [([], []), ([0], [0]), ([], []), ([2], [2]), ([], []), ([4], [4]), ([], []), ([6], [6]), ([1, 3, 5, 7, 1], [1, 3, 5, 7]), ([8], [8]), ([9], [9]), ([9], [9]), ([10, 8, 0, 1, 2, 3, 4, 5, 6, 7, 8, 9, 10], [10]), ([11, 12, 0, 1, 2, 3, 4, 5, 6, 7, 8, 9, 10, 11, 12], [11])])
def spilelaw39_SealSame.B5 : List Nat := [0, 1, 0, 4, 0, 16, 0, 64, 255, 511, 1023, 1023, 2047, 8191]
theorem spilelaw39_SealSame.tab5 : rtab .any (opsOf Try.f7 5) = spilelaw39_SealSame.T5 := by kernel_rfl
theorem spilelaw39_SealSame.bits5 : waitsOk spilelaw39_SealSame.T5.2 spilelaw39_SealSame.B5 = true := by kernel_rfl
def spilelaw39_SealSame.T8 : Bool × List (List Nat × List Nat) := (true, [([], []), ([0], [0]), ([], []), ([2], [2]), ([], []), ([4], [4]), ([1, 3, 5, 1], [1, 3, 5]), ([6], [6]), ([7], [7]), ([7], [7]), ([8, 6, 0, 1, 2, 3, 4, 5, 6, 7, 8], [8]), ([9, 10, 0, 1, 2, 3, 4, 5, 6, 7, 8, 9, 10], [9])])
def spilelaw39_SealSame.B8 : List Nat := [0, 1, 0, 4, 0, 16, 63, 127, 255, 255, 511, 2047]
theorem spilelaw39_SealSame.tab8 : rtab .any (opsOf Try.f7 8) = spilelaw39_SealSame.T8 := by kernel_rfl
theorem spilelaw39_SealSame.bits8 : waitsOk spilelaw39_SealSame.T8.2 spilelaw39_SealSame.B8 = true := by kernel_rfl
def spilelaw39_SealSame.T9 : Bool × List (List Nat × List Nat) := (true, [([], []), ([0], [0]), ([], []), ([2], [2]), ([], []), ([4], [4]), ([1, 3, 5, 1], [1, 3, 5]), ([6], [6]), ([7], [7]), ([7], [7]), ([], []), ([10, 8, 6, 0, 1, 2, 3, 4, 5, 6, 7, 8, 10], [8, 10]), ([9, 11, 0, 1, 2, 3, 4, 5, 6, 7, 8, 9, 10, 11], [9])])
def spilelaw39_SealSame.B9 : List Nat := [0, 1, 0, 4, 0, 16, 63, 127, 255, 255, 0, 1535, 4095]
theorem spilelaw39_SealSame.tab9 : rtab .any (opsOf Try.f7 9) = spilelaw39_SealSame.T9 := by kernel_rfl
theorem spilelaw39_SealSame.bits9 : waitsOk spilelaw39_SealSame.T9.2 spilelaw39_SealSame.B9 = true := by kernel_rfl
set_option maxHeartbeats 8000000 in
set_option maxRecDepth 100000 in
theorem spilelaw39_SealSame.calls (k : Nat) (A0 : Option Addr) (c0 : Nat) (l0 : List (S34)) (a1_0 : Int) (a1_1 : Int) (a1_2 : Int) (r : Bool) (w : World) (hr0 : Kd.C k34 w A0 l0.length l0) (hc0 : l0.length ≤ c0) (h : spilelaw39_SealSame.f k l0 a1_0 a1_1 a1_2 = some r) :
  Calls Try.prog 7 #[.slice A0 l0.length c0, .agg #[.int .i64 a1_0, .int .i64 a1_1, .int .i64 a1_2]] w fun e w' => e = .returned (.bool r) ∧ Below w.heap.size w w' := by
 have hu24 := Try.underlying24
 have HR0 := Aside0.mk hr0
 have HC0 := Aside0.mk hc0
 clear hr0 hc0
 have HB := Aside0.mk (Below.refl w.heap.size w)
 have H : ((spilelaw39_awake.f k).bind fun t444 => (if t444 = true then (if (l0.length : Int) > 20 then (spilelaw39_SealSame.j0 k l0 true a1_0 a1_1 a1_2) else ((spilelaw39_short.f a1_0 a1_1 a1_2).bind fun t445 => (spilelaw39_SealSame.j0 k l0 (!t445) a1_0 a1_1 a1_2))) else (none))) = some r := h
 clear h
 replace H := Option.bind_eq_some_iff.mp H
 obtain ⟨t444, A30, H⟩ := H
 replace H : (if t444 = true then (if (l0.length : Int) > 20 then (spilelaw39_SealSame.j0 k l0 true a1_0 a1_1 a1_2) else ((spilelaw39_short.f a1_0 a1_1 a1_2).bind fun t445 => (spilelaw39_SealSame.j0 k l0 (!t445) a1_0 a1_1 a1_2))) else (none)) = some r := H
 have A3 := Aside0.mk A30
 clear A30
 by_cases c4 : t444 = true
 ·subst c4
  have H1 : (if (l0.length : Int) > 20 then (spilelaw39_SealSame.j0 k l0 true a1_0 a1_1 a1_2) else ((spilelaw39_short.f a1_0 a1_1 a1_2).bind fun t445 => (spilelaw39_SealSame.j0 k l0 (!t445) a1_0 a1_1 a1_2))) = some r := by rw [if_pos rfl] at H; exact H
  clear H
  have H := H1
  clear H1
  have HC5 := Aside0.mk H
  clear H
  go_enter Try.func7, Try.ntmps7
  go_upto_region 3 with (first | ((with_reducible refine gqD (N := 3) rfl ?_); refine box_event ?hg (N := 3) ?hd (cs := #[.int .i64 a1_0, .int .i64 a1_1, .int .i64 a1_2]) (t := 24) ?hr ?_; (case hd => rfl); (case hg => rfl); (case hr => first | (go_simp; done) | (go_simp; rfl)); intro gb443 hg w6 hbox hb; have n0_ := Aside0.mk (lqT (by repeat (first | (with_reducible first | exact HB.out | apply lqA | apply lqN | apply lqD) | exact HB.out)) hb); have n1_ := Aside0.mk (hbox); have n2_ := Aside0.mk ((by rw [hg]; exact (lqZ (by repeat (first | (with_reducible first | exact HB.out | apply lqA | apply lqN | apply lqD) | exact HB.out))) : w.heap.size ≤ gb443)); have n3_ := Aside0.mk ((by rw [hg]; exact (lqZ (by repeat (first | (with_reducible first | exact HB.out | apply lqA | apply lqN | apply lqD) | exact HB.out))) : w.heap.size ≤ gb443)); clear HB; have HB := n0_; have BK443 := n1_; have GW443 := n2_; have GE443 := n3_; clear n0_ n1_ n2_ n3_; clear hb hbox hg) | ((with_reducible refine gqC (f := 10) rfl ?_); refine goesL_ (some 11) rfl rfl Try.func10 (by kernel_rfl) rfl #[] rfl (by (try simp only [List.map_toArray, List.map_cons, List.map_nil]); first | done | rfl | (simp only [List.length_drop, List.length_take]; rfl)) ?_; (with_reducible refine (spilelaw39_awake.calls k  true _ A3.out).mono ?_); rintro e w7 ⟨rfl, hb⟩; refine ⟨_, rfl, ?_⟩; have n0_ := Aside0.mk (bqB (g := gb443) (o := .cells #[.int .i64 a1_0, .int .i64 a1_1, .int .i64 a1_2] 24 (0, 0)) (by (with_reducible repeat (first | refine bqN ?_ _ | refine bqD ?_ | refine bqA ?_ _)); exact BK443.out) hb); have n1_ := Aside0.mk (lqT (by repeat (first | (with_reducible first | exact HB.out | apply lqA | apply lqN | apply lqD | refine lqS ?_ GE443.out) | exact HB.out)) hb); clear BK443; clear HB; have BK443 := n0_; have HB := n1_; clear n0_ n1_; (try clear hb); (try clear hb2); (try clear hk); (try clear hi)))
  (try simp only [Act.put, List.setIfInBounds_toArray, List.set_cons_zero, List.set_cons_succ])
  go_cut [20] (fun v20 wc => ∃ (kq : Nat) (x20_4 : Bool), v20 = .bool x20_4 ∧ Aside0 (spilelaw39_SealSame.j0 kq l0 x20_4 a1_0 a1_1 a1_2 = some r) ∧ Aside0 (kq ≤ k) ∧ Aside0 (wc.heap[gb443]? = some (.cells #[.int .i64 a1_0, .int .i64 a1_1, .int .i64 a1_2] 24 (0, 0))) ∧ Aside0 (Below w.heap.size w wc))
  case first =>
   have H := HC5.out
   clear HC5
   by_cases c8 : (l0.length : Int) > 20
   ·rw [if_pos c8] at H
    have c8b0 : decide (20 < (l0.length : Int)) = true := decide_eq_true c8
    have c8b1 : decide (20 < l0.length) = true := decide_eq_true (by omega)
    clear c8
    (first | rw [c8b0] | (simp only [i64_w, i32_w]; rw [c8b0]) | skip)
    have H' := Aside0.mk H
    clear H
    go_wp2
    go_meet
    case rel => exact ⟨_, (true), (by first | rfl | (simp; done) | (simp [*]; done)), H', ⟨by first | omega | exact Nat.le_refl _⟩, ⟨by (with_reducible repeat (first | refine bqN ?_ _ | refine bqD ?_ | refine bqA ?_ _)); exact BK443.out⟩, ⟨by repeat (first | (with_reducible first | exact HB.out | apply lqA | apply lqN | apply lqD | refine lqS ?_ GE443.out) | exact HB.out)⟩⟩
   ·rw [if_neg c8] at H
    have c8b0 : decide (20 < (l0.length : Int)) = false := decide_eq_false c8
    have c8b1 : decide (20 < l0.length) = false := decide_eq_false (by omega)
    clear c8
    (first | rw [c8b0] | (simp only [i64_w, i32_w]; rw [c8b0]) | skip)
    replace H := Option.bind_eq_some_iff.mp H
    obtain ⟨t445, A90, H⟩ := H
    replace H : (spilelaw39_SealSame.j0 k l0 (!t445) a1_0 a1_1 a1_2) = some r := H
    have A9 := Aside0.mk A90
    clear A90
    have H' := Aside0.mk H
    clear H
    have hcz10_0 : w7.cell? ⟨gb443, 0, none⟩ = some (.int .i64 a1_0) := (bqC BK443.out 0).trans rfl
    have hcz10_1 : w7.cell? ⟨gb443, 1, none⟩ = some (.int .i64 a1_1) := (bqC BK443.out 1).trans rfl
    have hcz10_2 : w7.cell? ⟨gb443, 2, none⟩ = some (.int .i64 a1_2) := (bqC BK443.out 2).trans rfl
    have hfz10_0 := bqF BK443.out 0
    have hfz10_1 := bqF BK443.out 1
    have hfz10_2 := bqF BK443.out 2
    go_wp2_with (first | (go_at_call 12; (with_reducible refine (spilelaw39_short.calls a1_0 a1_1 a1_2 t445 _ A9.out).mono ?_); rintro e w11 ⟨rfl, hb⟩; have n0_ := Aside0.mk (bqB (g := gb443) (o := .cells #[.int .i64 a1_0, .int .i64 a1_1, .int .i64 a1_2] 24 (0, 0)) (by (with_reducible repeat (first | refine bqN ?_ _ | refine bqD ?_ | refine bqA ?_ _)); exact BK443.out) hb); have n1_ := Aside0.mk (lqT (by repeat (first | (with_reducible first | exact HB.out | apply lqA | apply lqN | apply lqD | refine lqS ?_ GE443.out) | exact HB.out)) hb); clear BK443; clear HB; have BK443 := n0_; have HB := n1_; clear n0_ n1_; (try clear hb); (try clear hb2); (try clear hk); (try clear hi)))
    go_meet
    case rel => exact ⟨_, (!t445), (by first | rfl | (simp; done) | (simp [*]; done)), H', ⟨by first | omega | exact Nat.le_refl _⟩, ⟨by (with_reducible repeat (first | refine bqN ?_ _ | refine bqD ?_ | refine bqA ?_ _)); exact BK443.out⟩, ⟨by repeat (first | (with_reducible first | exact HB.out | apply lqA | apply lqN | apply lqD | refine lqS ?_ GE443.out) | exact HB.out)⟩⟩
  case rest =>
   clear HC5
   try clear c1
   try clear p2
   try clear c4
   try clear c7
   try clear c8
   try clear c8b0
   try clear c8b1
   try clear c10
   try clear hcz10_0
   try clear hcz10_1
   try clear hcz10_2
   try clear hfz10_0
   try clear hfz10_1
   try clear hfz10_2
   obtain ⟨kq, x20_4, rfl, HA, HJ4, BK443, HB⟩ := hcut
   cases kq with
   | zero => exact absurd HA.out (by simp [spilelaw39_SealSame.j0])
   | succ kj4 =>
    have H := HA.out
    clear HA
    simp only [spilelaw39_SealSame.j0] at H
    by_cases c12 : x20_4 = true
    ·subst c12
     have H1 : (some true) = some r := by rw [if_pos rfl] at H; exact H
     clear H
     have H := H1
     clear H1
     obtain rfl := Option.some.inj H
     go_wp2
     go_ret
     exact ⟨by first | rfl | (simp [errW_none, errW_some] <;> rfl) | (simp [*, errW_none, errW_some] <;> rfl), by repeat (first | (with_reducible first | exact HB.out | apply lqA | apply lqN | apply lqD | refine lqS ?_ GE443.out) | exact HB.out)⟩
    ·replace c12 := Bool.eq_false_iff.mpr c12
     subst c12
     have H1 : ((clone34.f l0).bind fun t446 => ((seal_Unbroken.f t446 a1_0 a1_1 a1_2).bind fun bt449 => (if bt449.2 = 0 then ((clone34.f l0).bind fun t451 => ((seal_Intact.f t451 a1_0 a1_1).bind fun bt454 => ((clone34.f l0).bind fun t458 => ((seal_Intact.f t458 a1_0 a1_2).bind fun bt461 => (if bt454.2 = 0 then (if bt461.2 = 0 then ((contB.f bt454.1 bt461.1).bind fun t466 => (some (bt449.1 == t466))) else (none)) else (none)))))) else (some (!bt449.1))))) = some r := by rw [if_neg (show ¬ (false = true) by decide)] at H; exact H
     clear H
     have H := H1
     clear H1
     replace H := Option.bind_eq_some_iff.mp H
     obtain ⟨t446, A130, H⟩ := H
     replace H : ((seal_Unbroken.f t446 a1_0 a1_1 a1_2).bind fun bt449 => (if bt449.2 = 0 then ((clone34.f l0).bind fun t451 => ((seal_Intact.f t451 a1_0 a1_1).bind fun bt454 => ((clone34.f l0).bind fun t458 => ((seal_Intact.f t458 a1_0 a1_2).bind fun bt461 => (if bt454.2 = 0 then (if bt461.2 = 0 then ((contB.f bt454.1 bt461.1).bind fun t466 => (some (bt449.1 == t466))) else (none)) else (none)))))) else (some (!bt449.1)))) = some r := H
     have A13 := Aside0.mk A130
     clear A130
     replace H := Option.bind_eq_some_iff.mp H
     obtain ⟨⟨t449, t450⟩, A140, H⟩ := H
     replace H : (if t450 = 0 then ((clone34.f l0).bind fun t451 => ((seal_Intact.f t451 a1_0 a1_1).bind fun bt454 => ((clone34.f l0).bind fun t458 => ((seal_Intact.f t458 a1_0 a1_2).bind fun bt461 => (if bt454.2 = 0 then (if bt461.2 = 0 then ((contB.f bt454.1 bt461.1).bind fun t466 => (some (t449 == t466))) else (none)) else (none)))))) else (some (!t449))) = some r := H
     have A14 := Aside0.mk A140
     clear A140
     by_cases c15 : t450 = 0
     ·rw [if_pos c15] at H
      have c15b0 : (t450 == 0) = true := beq_iff_eq.mpr c15
      try simp only [beq_self_eq_true, Bool.not_true, Bool.false_or, Bool.true_and] at c15b0
      have c15b1 : (t450 != 0) = false := bne_eq_false_iff_eq.mpr c15
      clear c15
      replace H := Option.bind_eq_some_iff.mp H
      obtain ⟨t451, A160, H⟩ := H
      replace H : ((seal_Intact.f t451 a1_0 a1_1).bind fun bt454 => ((clone34.f l0).bind fun t458 => ((seal_Intact.f t458 a1_0 a1_2).bind fun bt461 => (if bt454.2 = 0 then (if bt461.2 = 0 then ((contB.f bt454.1 bt461.1).bind fun t466 => (some (t449 == t466))) else (none)) else (none))))) = some r := H
      have A16 := Aside0.mk A160
      clear A160
      replace H := Option.bind_eq_some_iff.mp H
      obtain ⟨⟨t454, t455⟩, A170, H⟩ := H
      replace H : ((clone34.f l0).bind fun t458 => ((seal_Intact.f t458 a1_0 a1_2).bind fun bt461 => (if t455 = 0 then (if bt461.2 = 0 then ((contB.f t454 bt461.1).bind fun t466 => (some (t449 == t466))) else (none)) else (none)))) = some r := H
      have A17 := Aside0.mk A170
      clear A170
      replace H := Option.bind_eq_some_iff.mp H
      obtain ⟨t458, A180, H⟩ := H
      replace H : ((seal_Intact.f t458 a1_0 a1_2).bind fun bt461 => (if t455 = 0 then (if bt461.2 = 0 then ((contB.f t454 bt461.1).bind fun t466 => (some (t449 == t466))) else (none)) else (none))) = some r := H
      have A18 := Aside0.mk A180
      clear A180
      replace H := Option.bind_eq_some_iff.mp H
      obtain ⟨⟨t461, t462⟩, A190, H⟩ := H
      replace H : (if t455 = 0 then (if t462 = 0 then ((contB.f t454 t461).bind fun t466 => (some (t449 == t466))) else (none)) else (none)) = some r := H
      have A19 := Aside0.mk A190
      clear A190
      by_cases c20 : t455 = 0
      ·rw [if_pos c20] at H
       have c20b0 : (t455 == 0) = true := beq_iff_eq.mpr c20
       try simp only [beq_self_eq_true, Bool.not_true, Bool.false_or, Bool.true_and] at c20b0
       have c20b1 : (t455 != 0) = false := bne_eq_false_iff_eq.mpr c20
       clear c20
       by_cases c21 : t462 = 0
       ·rw [if_pos c21] at H
        have c21b0 : (t462 == 0) = true := beq_iff_eq.mpr c21
        try simp only [beq_self_eq_true, Bool.not_true, Bool.false_or, Bool.true_and] at c21b0
        have c21b1 : (t462 != 0) = false := bne_eq_false_iff_eq.mpr c21
        clear c21
        replace H := Option.bind_eq_some_iff.mp H
        obtain ⟨t466, A220, H⟩ := H
        replace H : (some (t449 == t466)) = some r := H
        have A22 := Aside0.mk A220
        clear A220
        obtain rfl := Option.some.inj H
        try go_wp2
        have n0_ := Aside0.mk (bqD BK443.out)
        have n1_ := Aside0.mk (lqD HB.out)
        clear BK443
        clear HB
        have BK443 := n0_
        have HB := n1_
        clear n0_ n1_
        refine start_ (n := 14) (S := fun w' => w'.cell? ⟨gb443, 0, none⟩ = some (.int .i64 a1_0) ∧ w'.cell? ⟨gb443, 1, none⟩ = some (.int .i64 a1_1) ∧ w'.cell? ⟨gb443, 2, none⟩ = some (.int .i64 a1_2)) (ds := []) #[false, false, false, false, false, false, false, false, false, false, false, false, false, false] (by kernel_rfl) rfl rfl ⟨(bqC BK443.out 0).trans rfl, (bqC BK443.out 1).trans rfl, (bqC BK443.out 2).trans rfl⟩ (fun hHeld => ?_); refine with_tabW spilelaw39_SealSame.tab5 spilelaw39_SealSame.bits5 (fun HT_ HW_ => ?_)
        generalize wc.drew = w23 at BK443 HB hHeld ⊢
        refine pure_ (i := 0) (N := some 22) (v := ?_) (a' := ?_) #[true, false, false, false, false, false, false, false, false, false, false, false, false, false] rfl rfl (any_of HT_.out (by kernel_rfl)) (fun _ _ _ h => h) (Or.inl ⟨by rfl, ?_⟩) ?_ ?_
        rotate_left
        ·intro w'
         go_simp
         with_reducible rfl
        rotate_left
        ·simp only [Act.put, List.setIfInBounds_toArray, List.set_cons_zero, List.set_cons_succ, i64_w, i32_w]
         rfl
        refine pure_ (i := 2) (N := some 24) (v := ?_) (a' := ?_) #[true, false, true, false, false, false, false, false, false, false, false, false, false, false] rfl rfl (any_of HT_.out (by kernel_rfl)) (fun _ _ _ h => h) (Or.inl ⟨by rfl, ?_⟩) ?_ ?_
        rotate_left
        ·intro w'
         go_simp
         with_reducible rfl
        rotate_left
        ·simp only [Act.put, List.setIfInBounds_toArray, List.set_cons_zero, List.set_cons_succ, i64_w, i32_w]
         rfl
        refine pure_ (i := 4) (N := some 26) (v := ?_) (a' := ?_) #[true, false, true, false, true, false, false, false, false, false, false, false, false, false] rfl rfl (any_of HT_.out (by kernel_rfl)) (fun _ _ _ h => h) (Or.inl ⟨by rfl, ?_⟩) ?_ ?_
        rotate_left
        ·intro w'
         go_simp
         with_reducible rfl
        rotate_left
        ·simp only [Act.put, List.setIfInBounds_toArray, List.set_cons_zero, List.set_cons_succ, i64_w, i32_w]
         rfl
        refine pure_ (i := 6) (N := some 28) (v := ?_) (a' := ?_) #[true, false, true, false, true, false, true, false, false, false, false, false, false, false] rfl rfl (any_of HT_.out (by kernel_rfl)) (fun _ _ _ h => h) (Or.inl ⟨by rfl, ?_⟩) ?_ ?_
        rotate_left
        ·intro w'
         go_simp
         with_reducible rfl
        rotate_left
        ·simp only [Act.put, List.setIfInBounds_toArray, List.set_cons_zero, List.set_cons_succ, i64_w, i32_w]
         rfl
        refine take_ (i := 3) (N := some 25) (v := ?_) (a' := ?_) #[true, false, true, true, true, false, true, false, false, false, false, false, false, false] rfl rfl (take_ofW HT_.out HW_.out (by kernel_rfl)) (fun _ _ _ h => h) (Or.inl ⟨by rfl, ?_⟩) hHeld ?_ ?_
        rotate_left
        ·rintro w' ⟨s0, s1, s2⟩
         go_simp
         with_reducible rfl
        rotate_left
        ·simp only [Act.put, List.setIfInBounds_toArray, List.set_cons_zero, List.set_cons_succ, i64_w, i32_w]
         rfl
        refine take_ (i := 5) (N := some 27) (v := ?_) (a' := ?_) #[true, false, true, true, true, true, true, false, false, false, false, false, false, false] rfl rfl (take_ofW HT_.out HW_.out (by kernel_rfl)) (fun _ _ _ h => h) (Or.inl ⟨by rfl, ?_⟩) hHeld ?_ ?_
        rotate_left
        ·rintro w' ⟨s0, s1, s2⟩
         go_simp
         with_reducible rfl
        rotate_left
        ·simp only [Act.put, List.setIfInBounds_toArray, List.set_cons_zero, List.set_cons_succ, i64_w, i32_w]
         rfl
        refine take_ (i := 7) (N := some 29) (v := ?_) (a' := ?_) #[true, false, true, true, true, true, true, true, false, false, false, false, false, false] rfl rfl (take_ofW HT_.out HW_.out (by kernel_rfl)) (fun _ _ _ h => h) (Or.inl ⟨by rfl, ?_⟩) hHeld ?_ ?_
        rotate_left
        ·rintro w' ⟨s0, s1, s2⟩
         go_simp
         with_reducible rfl
        rotate_left
        ·simp only [Act.put, List.setIfInBounds_toArray, List.set_cons_zero, List.set_cons_succ, i64_w, i32_w]
         rfl
        refine one_ (i := 1) (N := some 23) #[true, true, true, true, true, true, true, true, false, false, false, false, false, false] rfl rfl (one_of HT_.out (by kernel_rfl)) (by decide) (fun K hK => ?_)
        refine goes_ Try.func14 (by kernel_rfl) rfl #[.slice A0 l0.length c0] (by rfl) rfl rfl (by (try simp only [List.map_toArray, List.map_cons, List.map_nil]); first | done | rfl | (simp only [List.length_drop, List.length_take]; rfl)) ?_
        with_reducible refine (clone34.calls _ _ l0 t446 _ ?side1 ?side2 A13.out).mono ?_
        (case side1 => repeat (first | exact (Kd.C_below HR0.out HB.out) | (with_reducible refine Kd.C_alloc ?_ _) | (with_reducible refine Kd.C_drewN ?_ _) | (with_reducible refine Kd.C_drew ?_)))
        (case side2 => exact HC0.out)
        rintro e w24 ⟨v447, rfl, ho0, hb⟩
        refine ⟨_, rfl, ?_⟩
        have n0_ := Aside0.mk (Kd.R_lower ho0 (lqZ (by repeat (first | (with_reducible first | exact HB.out | apply lqA | apply lqN | apply lqD | refine lqS ?_ GE443.out) | exact HB.out))))
        have n1_ := Aside0.mk (bqB (g := gb443) (o := .cells #[.int .i64 a1_0, .int .i64 a1_1, .int .i64 a1_2] 24 (0, 0)) (by (with_reducible repeat (first | refine bqN ?_ _ | refine bqD ?_ | refine bqA ?_ _)); exact BK443.out) hb)
        have n2_ := Aside0.mk (lqT (by repeat (first | (with_reducible first | exact HB.out | apply lqA | apply lqN | apply lqD | refine lqS ?_ GE443.out) | exact HB.out)) hb)
        clear BK443
        clear HB
        have HO448 := n0_
        have BK443 := n1_
        have HB := n2_
        clear n0_ n1_ n2_
        (try clear hb)
        (try clear hb2)
        (try clear hk)
        (try clear hi)
        (try clear ho0)
        obtain ⟨Ao25, co25, eo25⟩ := Kd.R_slice HO448.out
        (first | subst eo25 | (injection eo25 with f1_ f2_ f3_; have f4_ := f1_.symm; have f5_ := f3_.symm; clear f1_ f2_ f3_; subst f4_; subst f5_))
        refine hK.out _ _ ⟨(bqC BK443.out 0).trans rfl, (bqC BK443.out 1).trans rfl, (bqC BK443.out 2).trans rfl⟩ (fun hHeld => ?_)
        clear hK K
        refine norm_ (a' := ?_) ?_ ?_
        rotate_left
        ·show Act.put _ (some 23) _ = _
         simp only [Act.put, List.setIfInBounds_toArray, List.set_cons_zero, List.set_cons_succ, i64_w, i32_w]
         rfl
        refine one_ (i := 8) (N := some 30) #[true, true, true, true, true, true, true, true, true, false, false, false, false, false] rfl rfl (one_of HT_.out (by kernel_rfl)) (by decide) (fun K hK => ?_)
        refine goes_ Try.func16 (by kernel_rfl) rfl #[.slice Ao25 t446.length co25, .int .i64 a1_0, .int .i64 a1_1, .int .i64 a1_2] (by rfl) rfl rfl (by (try simp only [List.map_toArray, List.map_cons, List.map_nil]); first | done | rfl | (simp only [List.length_drop, List.length_take]; rfl)) ?_
        with_reducible refine (seal_Unbroken.calls _ _ t446 a1_0 a1_1 a1_2 t449 t450 _ ?side1 ?side2 A14.out).mono ?_
        (case side1 => repeat (first | exact (Kd.R_reads' HO448.out).2.2 | (with_reducible refine Kd.C_alloc ?_ _) | (with_reducible refine Kd.C_drewN ?_ _) | (with_reducible refine Kd.C_drew ?_)))
        (case side2 => exact (Kd.R_reads' HO448.out).2.1)
        rintro e w26 ⟨rfl, hb⟩
        refine ⟨_, rfl, ?_⟩
        have n0_ := Aside0.mk (Kd.R_below (by (with_reducible repeat (first | apply Kd.R_alloc | apply Kd.R_drewN | apply Kd.R_drew)); exact HO448.out) hb)
        have n1_ := Aside0.mk (bqB (g := gb443) (o := .cells #[.int .i64 a1_0, .int .i64 a1_1, .int .i64 a1_2] 24 (0, 0)) (by (with_reducible repeat (first | refine bqN ?_ _ | refine bqD ?_ | refine bqA ?_ _)); exact BK443.out) hb)
        have n2_ := Aside0.mk (lqT (by repeat (first | (with_reducible first | exact HB.out | apply lqA | apply lqN | apply lqD | refine lqS ?_ GE443.out) | exact HB.out)) hb)
        clear HO448
        clear BK443
        clear HB
        have HO448 := n0_
        have BK443 := n1_
        have HB := n2_
        clear n0_ n1_ n2_
        (try clear hb)
        (try clear hb2)
        (try clear hk)
        (try clear hi)
        refine hK.out _ _ ⟨(bqC BK443.out 0).trans rfl, (bqC BK443.out 1).trans rfl, (bqC BK443.out 2).trans rfl⟩ (fun hHeld => ?_)
        clear hK K
        refine norm_ (a' := ?_) ?_ ?_
        rotate_left
        ·show Act.put _ (some 30) _ = _
         simp only [Act.put, List.setIfInBounds_toArray, List.set_cons_zero, List.set_cons_succ, i64_w, i32_w]
         rfl
        refine pure_ (i := 9) (N := some 21) (v := ?_) (a' := ?_) #[true, true, true, true, true, true, true, true, true, true, false, false, false, false] rfl rfl (any_of HT_.out (by kernel_rfl)) (fun _ _ _ h => h) (Or.inl ⟨by rfl, ?_⟩) ?_ ?_
        rotate_left
        ·intro w'
         go_simp
         with_reducible rfl
        rotate_left
        ·simp only [Act.put, List.setIfInBounds_toArray, List.set_cons_zero, List.set_cons_succ, i64_w, i32_w]
         rfl
        refine pure_ (i := 10) (N := some 31) (v := ?_) (a' := ?_) #[true, true, true, true, true, true, true, true, true, true, true, false, false, false] rfl rfl (any_of HT_.out (by kernel_rfl)) (fun _ _ _ h => h) (Or.inl ⟨by rfl, ?_⟩) ?_ ?_
        rotate_left
        ·intro w'
         go_simp
         with_reducible rfl
        rotate_left
        ·simp only [Act.put, List.setIfInBounds_toArray, List.set_cons_zero, List.set_cons_succ, i64_w, i32_w]
         rfl
        refine pure_ (i := 11) (N := some 32) (v := ?_) (a' := ?_) #[true, true, true, true, true, true, true, true, true, true, true, true, false, false] rfl rfl (any_of HT_.out (by kernel_rfl)) (fun _ _ _ h => h) (Or.inl ⟨by rfl, ?_⟩) ?_ ?_
        rotate_left
        ·intro w'
         go_simp
         with_reducible rfl
        rotate_left
        ·simp only [Act.put, List.setIfInBounds_toArray, List.set_cons_zero, List.set_cons_succ, i64_w, i32_w]
         rfl
        refine pure_ (i := 12) (N := some 5) (v := ?_) (a' := ?_) #[true, true, true, true, true, true, true, true, true, true, true, true, true, false] rfl rfl (any_of HT_.out (by kernel_rfl)) (fun _ _ _ h => h) (Or.inl ⟨by rfl, ?_⟩) ?_ ?_
        rotate_left
        ·intro w'
         go_simp
         with_reducible rfl
        rotate_left
        ·simp only [Act.put, List.setIfInBounds_toArray, List.set_cons_zero, List.set_cons_succ, i64_w, i32_w]
         rfl
        refine pure_ (i := 13) (N := some 6) (v := ?_) (a' := ?_) #[true, true, true, true, true, true, true, true, true, true, true, true, true, true] rfl rfl (any_of HT_.out (by kernel_rfl)) (fun _ _ _ h => h) (Or.inl ⟨by rfl, ?_⟩) ?_ ?_
        rotate_left
        ·intro w'
         go_simp
         with_reducible rfl
        rotate_left
        ·simp only [Act.put, List.setIfInBounds_toArray, List.set_cons_zero, List.set_cons_succ, i64_w, i32_w]
         rfl
        refine done_ (done_of HT_.out (by kernel_rfl)) ?_
        try go_wp2
        have n0_ := Aside0.mk (Kd.R_drew HO448.out)
        have n1_ := Aside0.mk (bqD BK443.out)
        have n2_ := Aside0.mk (lqD HB.out)
        clear HO448
        clear BK443
        clear HB
        have HO448 := n0_
        have BK443 := n1_
        have HB := n2_
        clear n0_ n1_ n2_
        refine start_ (n := 12) (S := fun w' => w'.cell? ⟨gb443, 0, none⟩ = some (.int .i64 a1_0) ∧ w'.cell? ⟨gb443, 1, none⟩ = some (.int .i64 a1_1) ∧ w'.cell? ⟨gb443, 2, none⟩ = some (.int .i64 a1_2)) (ds := []) #[false, false, false, false, false, false, false, false, false, false, false, false] (by kernel_rfl) rfl rfl ⟨(bqC BK443.out 0).trans rfl, (bqC BK443.out 1).trans rfl, (bqC BK443.out 2).trans rfl⟩ (fun hHeld => ?_); refine with_tabW spilelaw39_SealSame.tab8 spilelaw39_SealSame.bits8 (fun HT_ HW_ => ?_)
        generalize w26.drew = w27 at HO448 BK443 HB hHeld ⊢
        refine pure_ (i := 0) (N := some 38) (v := ?_) (a' := ?_) #[true, false, false, false, false, false, false, false, false, false, false, false] rfl rfl (any_of HT_.out (by kernel_rfl)) (fun _ _ _ h => h) (Or.inl ⟨by rfl, ?_⟩) ?_ ?_
        rotate_left
        ·intro w'
         go_simp
         with_reducible rfl
        rotate_left
        ·simp only [Act.put, List.setIfInBounds_toArray, List.set_cons_zero, List.set_cons_succ, i64_w, i32_w]
         rfl
        refine pure_ (i := 2) (N := some 40) (v := ?_) (a' := ?_) #[true, false, true, false, false, false, false, false, false, false, false, false] rfl rfl (any_of HT_.out (by kernel_rfl)) (fun _ _ _ h => h) (Or.inl ⟨by rfl, ?_⟩) ?_ ?_
        rotate_left
        ·intro w'
         go_simp
         with_reducible rfl
        rotate_left
        ·simp only [Act.put, List.setIfInBounds_toArray, List.set_cons_zero, List.set_cons_succ, i64_w, i32_w]
         rfl
        refine pure_ (i := 4) (N := some 42) (v := ?_) (a' := ?_) #[true, false, true, false, true, false, false, false, false, false, false, false] rfl rfl (any_of HT_.out (by kernel_rfl)) (fun _ _ _ h => h) (Or.inl ⟨by rfl, ?_⟩) ?_ ?_
        rotate_left
        ·intro w'
         go_simp
         with_reducible rfl
        rotate_left
        ·simp only [Act.put, List.setIfInBounds_toArray, List.set_cons_zero, List.set_cons_succ, i64_w, i32_w]
         rfl
        refine take_ (i := 3) (N := some 41) (v := ?_) (a' := ?_) #[true, false, true, true, true, false, false, false, false, false, false, false] rfl rfl (take_ofW HT_.out HW_.out (by kernel_rfl)) (fun _ _ _ h => h) (Or.inl ⟨by rfl, ?_⟩) hHeld ?_ ?_
        rotate_left
        ·rintro w' ⟨s0, s1, s2⟩
         go_simp
         with_reducible rfl
        rotate_left
        ·simp only [Act.put, List.setIfInBounds_toArray, List.set_cons_zero, List.set_cons_succ, i64_w, i32_w]
         rfl
        refine take_ (i := 5) (N := some 43) (v := ?_) (a' := ?_) #[true, false, true, true, true, true, false, false, false, false, false, false] rfl rfl (take_ofW HT_.out HW_.out (by kernel_rfl)) (fun _ _ _ h => h) (Or.inl ⟨by rfl, ?_⟩) hHeld ?_ ?_
        rotate_left
        ·rintro w' ⟨s0, s1, s2⟩
         go_simp
         with_reducible rfl
        rotate_left
        ·simp only [Act.put, List.setIfInBounds_toArray, List.set_cons_zero, List.set_cons_succ, i64_w, i32_w]
         rfl
        refine one_ (i := 1) (N := some 39) #[true, true, true, true, true, true, false, false, false, false, false, false] rfl rfl (one_of HT_.out (by kernel_rfl)) (by decide) (fun K hK => ?_)
        refine goes_ Try.func14 (by kernel_rfl) rfl #[.slice A0 l0.length c0] (by rfl) rfl rfl (by (try simp only [List.map_toArray, List.map_cons, List.map_nil]); first | done | rfl | (simp only [List.length_drop, List.length_take]; rfl)) ?_
        with_reducible refine (clone34.calls _ _ l0 t451 _ ?side1 ?side2 A16.out).mono ?_
        (case side1 => repeat (first | exact (Kd.C_below HR0.out HB.out) | (with_reducible refine Kd.C_alloc ?_ _) | (with_reducible refine Kd.C_drewN ?_ _) | (with_reducible refine Kd.C_drew ?_)))
        (case side2 => exact HC0.out)
        rintro e w28 ⟨v452, rfl, ho0, hb⟩
        refine ⟨_, rfl, ?_⟩
        have n0_ := Aside0.mk (Kd.R_elder' (by (with_reducible repeat (first | apply Kd.R_alloc | apply Kd.R_drewN | apply Kd.R_drew)); exact HO448.out) (Kd.R_base ho0) hb)
        have n1_ := Aside0.mk (Kd.R_lower (Kd.R_new' ho0 (Kd.R_lt (by (with_reducible repeat (first | apply Kd.R_alloc | apply Kd.R_drewN | apply Kd.R_drew)); exact HO448.out))) (lqZ (by repeat (first | (with_reducible first | exact HB.out | apply lqA | apply lqN | apply lqD | refine lqS ?_ GE443.out) | exact HB.out))))
        have n2_ := Aside0.mk (bqB (g := gb443) (o := .cells #[.int .i64 a1_0, .int .i64 a1_1, .int .i64 a1_2] 24 (0, 0)) (by (with_reducible repeat (first | refine bqN ?_ _ | refine bqD ?_ | refine bqA ?_ _)); exact BK443.out) hb)
        have n3_ := Aside0.mk (lqT (by repeat (first | (with_reducible first | exact HB.out | apply lqA | apply lqN | apply lqD | refine lqS ?_ GE443.out) | exact HB.out)) hb)
        clear HO448
        clear BK443
        clear HB
        have HO448 := n0_
        have HO453 := n1_
        have BK443 := n2_
        have HB := n3_
        clear n0_ n1_ n2_ n3_
        (try clear hb)
        (try clear hb2)
        (try clear hk)
        (try clear hi)
        (try clear ho0)
        obtain ⟨Ao29, co29, eo29⟩ := Kd.R_slice HO453.out
        (first | subst eo29 | (injection eo29 with f1_ f2_ f3_; have f4_ := f1_.symm; have f5_ := f3_.symm; clear f1_ f2_ f3_; subst f4_; subst f5_))
        refine hK.out _ _ ⟨(bqC BK443.out 0).trans rfl, (bqC BK443.out 1).trans rfl, (bqC BK443.out 2).trans rfl⟩ (fun hHeld => ?_)
        clear hK K
        refine norm_ (a' := ?_) ?_ ?_
        rotate_left
        ·show Act.put _ (some 39) _ = _
         simp only [Act.put, List.setIfInBounds_toArray, List.set_cons_zero, List.set_cons_succ, i64_w, i32_w]
         rfl
        refine one_ (i := 6) (N := some 44) #[true, true, true, true, true, true, true, false, false, false, false, false] rfl rfl (one_of HT_.out (by kernel_rfl)) (by decide) (fun K hK => ?_)
        refine goes_ Try.func13 (by kernel_rfl) rfl #[.slice Ao29 t451.length co29, .int .i64 a1_0, .int .i64 a1_1] (by rfl) rfl rfl (by (try simp only [List.map_toArray, List.map_cons, List.map_nil]); first | done | rfl | (simp only [List.length_drop, List.length_take]; rfl)) ?_
        with_reducible refine (seal_Intact.calls _ _ t451 a1_0 a1_1 t454 t455 _ ?side1 ?side2 A17.out).mono ?_
        (case side1 => repeat (first | exact (Kd.R_reads' HO453.out).2.2 | (with_reducible refine Kd.C_alloc ?_ _) | (with_reducible refine Kd.C_drewN ?_ _) | (with_reducible refine Kd.C_drew ?_)))
        (case side2 => exact (Kd.R_reads' HO453.out).2.1)
        rintro e w30 ⟨v456, rfl, ho0, hb⟩
        refine ⟨_, rfl, ?_⟩
        have n0_ := Aside0.mk (Kd.R_below (by (with_reducible repeat (first | apply Kd.R_alloc | apply Kd.R_drewN | apply Kd.R_drew)); exact HO448.out) hb)
        have n1_ := Aside0.mk (Kd.R_below (by (with_reducible repeat (first | apply Kd.R_alloc | apply Kd.R_drewN | apply Kd.R_drew)); exact HO453.out) hb)
        have n2_ := Aside0.mk (Kd.R_lower ho0 (lqZ (by repeat (first | (with_reducible first | exact HB.out | apply lqA | apply lqN | apply lqD | refine lqS ?_ GE443.out) | exact HB.out))))
        have n3_ := Aside0.mk (bqB (g := gb443) (o := .cells #[.int .i64 a1_0, .int .i64 a1_1, .int .i64 a1_2] 24 (0, 0)) (by (with_reducible repeat (first | refine bqN ?_ _ | refine bqD ?_ | refine bqA ?_ _)); exact BK443.out) hb)
        have n4_ := Aside0.mk (lqT (by repeat (first | (with_reducible first | exact HB.out | apply lqA | apply lqN | apply lqD | refine lqS ?_ GE443.out) | exact HB.out)) hb)
        clear HO448
        clear HO453
        clear BK443
        clear HB
        have HO448 := n0_
        have HO453 := n1_
        have HO457 := n2_
        have BK443 := n3_
        have HB := n4_
        clear n0_ n1_ n2_ n3_ n4_
        (try clear hb)
        (try clear hb2)
        (try clear hk)
        (try clear hi)
        (try clear ho0)
        refine hK.out _ _ ⟨(bqC BK443.out 0).trans rfl, (bqC BK443.out 1).trans rfl, (bqC BK443.out 2).trans rfl⟩ (fun hHeld => ?_)
        clear hK K
        refine norm_ (a' := ?_) ?_ ?_
        rotate_left
        ·show Act.put _ (some 44) _ = _
         simp only [Act.put, List.setIfInBounds_toArray, List.set_cons_zero, List.set_cons_succ, i64_w, i32_w]
         rfl
        refine pure_ (i := 7) (N := some 37) (v := ?_) (a' := ?_) #[true, true, true, true, true, true, true, true, false, false, false, false] rfl rfl (any_of HT_.out (by kernel_rfl)) (fun _ _ _ h => h) (Or.inl ⟨by rfl, ?_⟩) ?_ ?_
        rotate_left
        ·intro w'
         go_simp
         with_reducible rfl
        rotate_left
        ·simp only [Act.put, List.setIfInBounds_toArray, List.set_cons_zero, List.set_cons_succ, i64_w, i32_w]
         rfl
        refine pure_ (i := 8) (N := some 45) (v := ?_) (a' := ?_) #[true, true, true, true, true, true, true, true, true, false, false, false] rfl rfl (any_of HT_.out (by kernel_rfl)) (fun _ _ _ h => h) (Or.inl ⟨by rfl, ?_⟩) ?_ ?_
        rotate_left
        ·intro w'
         go_simp
         with_reducible rfl
        rotate_left
        ·simp only [Act.put, List.setIfInBounds_toArray, List.set_cons_zero, List.set_cons_succ, i64_w, i32_w]
         rfl
        refine pure_ (i := 9) (N := some 46) (v := ?_) (a' := ?_) #[true, true, true, true, true, true, true, true, true, true, false, false] rfl rfl (any_of HT_.out (by kernel_rfl)) (fun _ _ _ h => h) (Or.inl ⟨by rfl, ?_⟩) ?_ ?_
        rotate_left
        ·intro w'
         go_simp
         with_reducible rfl
        rotate_left
        ·simp only [Act.put, List.setIfInBounds_toArray, List.set_cons_zero, List.set_cons_succ, i64_w, i32_w]
         rfl
        refine pure_ (i := 10) (N := some 7) (v := ?_) (a' := ?_) #[true, true, true, true, true, true, true, true, true, true, true, false] rfl rfl (any_of HT_.out (by kernel_rfl)) (fun _ _ _ h => h) (Or.inl ⟨by rfl, ?_⟩) ?_ ?_
        rotate_left
        ·intro w'
         go_simp
         with_reducible rfl
        rotate_left
        ·simp only [Act.put, List.setIfInBounds_toArray, List.set_cons_zero, List.set_cons_succ, i64_w, i32_w]
         rfl
        refine pure_ (i := 11) (N := some 8) (v := ?_) (a' := ?_) #[true, true, true, true, true, true, true, true, true, true, true, true] rfl rfl (any_of HT_.out (by kernel_rfl)) (fun _ _ _ h => h) (Or.inl ⟨by rfl, ?_⟩) ?_ ?_
        rotate_left
        ·intro w'
         go_simp
         with_reducible rfl
        rotate_left
        ·simp only [Act.put, List.setIfInBounds_toArray, List.set_cons_zero, List.set_cons_succ, i64_w, i32_w]
         rfl
        refine done_ (done_of HT_.out (by kernel_rfl)) ?_
        try go_wp2
        have n0_ := Aside0.mk (Kd.R_drew HO448.out)
        have n1_ := Aside0.mk (Kd.R_drew HO453.out)
        have n2_ := Aside0.mk (Kd.R_drew HO457.out)
        have n3_ := Aside0.mk (bqD BK443.out)
        have n4_ := Aside0.mk (lqD HB.out)
        clear HO448
        clear HO453
        clear HO457
        clear BK443
        clear HB
        have HO448 := n0_
        have HO453 := n1_
        have HO457 := n2_
        have BK443 := n3_
        have HB := n4_
        clear n0_ n1_ n2_ n3_ n4_
        refine start_ (n := 13) (S := fun w' => True) (ds := []) #[false, false, false, false, false, false, false, false, false, false, false, false, false] (by kernel_rfl) rfl rfl trivial (fun hHeld => ?_); refine with_tabW spilelaw39_SealSame.tab9 spilelaw39_SealSame.bits9 (fun HT_ HW_ => ?_)
        generalize w30.drew = w31 at HO448 HO453 HO457 BK443 HB hHeld ⊢
        refine pure_ (i := 0) (N := some 48) (v := ?_) (a' := ?_) #[true, false, false, false, false, false, false, false, false, false, false, false, false] rfl rfl (any_of HT_.out (by kernel_rfl)) (fun _ _ _ h => h) (Or.inl ⟨by rfl, ?_⟩) ?_ ?_
        rotate_left
        ·intro w'
         go_simp
         with_reducible rfl
        rotate_left
        ·simp only [Act.put, List.setIfInBounds_toArray, List.set_cons_zero, List.set_cons_succ, i64_w, i32_w]
         rfl
        refine pure_ (i := 2) (N := some 50) (v := ?_) (a' := ?_) #[true, false, true, false, false, false, false, false, false, false, false, false, false] rfl rfl (any_of HT_.out (by kernel_rfl)) (fun _ _ _ h => h) (Or.inl ⟨by rfl, ?_⟩) ?_ ?_
        rotate_left
        ·intro w'
         go_simp
         with_reducible rfl
        rotate_left
        ·simp only [Act.put, List.setIfInBounds_toArray, List.set_cons_zero, List.set_cons_succ, i64_w, i32_w]
         rfl
        refine pure_ (i := 4) (N := some 52) (v := ?_) (a' := ?_) #[true, false, true, false, true, false, false, false, false, false, false, false, false] rfl rfl (any_of HT_.out (by kernel_rfl)) (fun _ _ _ h => h) (Or.inl ⟨by rfl, ?_⟩) ?_ ?_
        rotate_left
        ·intro w'
         go_simp
         with_reducible rfl
        rotate_left
        ·simp only [Act.put, List.setIfInBounds_toArray, List.set_cons_zero, List.set_cons_succ, i64_w, i32_w]
         rfl
        refine inv_at [1, 3, 5, 6, 7, 8, 9, 10, 11, 12] (fun a0_ b a w' => ∃ (v459 : Value) (v463 : Value) (gb465 : Nat) (m6_ : Value) (m7_ : Value) (m8_ : Value) (m10_ : Value), a = putSel a0_ b [(1, 49, v459), (3, 51, .int .i64 a1_0), (5, 53, .int .i64 a1_2), (6, 54, m6_), (7, 47, m7_), (8, 55, m8_), (9, 56, .int .i64 t462), (10, 9, m10_), (12, 10, .int .i64 t462)] ∧ (Kd.R (Kd.int .i64) 3 w' w.heap.size (fun _ => True) v456 t454) ∧ (w'.heap[gb443]? = some (.cells #[.int .i64 a1_0, .int .i64 a1_1, .int .i64 a1_2] 24 (0, 0))) ∧ (Below w.heap.size w w') ∧ (b 10 = true → w'.heap[gb465]? = some (.cells #[if b 11 = true then v463 else .slice none 0 0] 28 (0, 0))) ∧ (b 10 = true → w.heap.size ≤ gb465) ∧ (b 10 = true → w.heap.size ≤ gb465) ∧ (b 10 = true → gb443 ≠ gb465) ∧ (b 10 = true → gb465 ≠ gb443) ∧ (Kd.R k34 34 w' w.heap.size (fun _ => True) (.slice Ao25 t446.length co25) t446) ∧ (Kd.R k34 34 w' w.heap.size (fun _ => True) (.slice Ao29 t451.length co29) t451) ∧ (b 6 = true → Kd.R (Kd.int .i64) 3 w' w.heap.size (fun _ => True) v463 t461) ∧ (b 1 = true → Kd.R k34 34 w' w.heap.size (fun _ => True) v459 t458) ∧ (b 6 = true → (m6_ : Value) = .tuple #[v463, .int .i64 t462]) ∧ (b 7 = true → (m7_ : Value) = .tuple #[v463, .int .i64 t462]) ∧ (b 8 = true → (m8_ : Value) = v463) ∧ (b 10 = true → (m10_ : Value) = .pointer (some ⟨gb465, 0, none⟩))) HT_.out HW_.out (by kernel_rfl) (by kernel_rfl) ?_ ?_ ?_
        ·exact ⟨.bool false, .bool false, 0, .bool false, .bool false, .bool false, .bool false, by simp only [putSel, Bool.false_eq_true, if_false], Kd.R_mono HO457.out (fun _ _ => trivial), BK443.out, HB.out, fun h_ => absurd h_ (by decide), fun h_ => absurd h_ (by decide), fun h_ => absurd h_ (by decide), fun h_ => absurd h_ (by decide), fun h_ => absurd h_ (by decide), Kd.R_mono HO448.out (fun _ _ => trivial), Kd.R_mono HO453.out (fun _ _ => trivial), fun h_ => absurd h_ (by decide), fun h_ => absurd h_ (by decide), fun h_ => absurd h_ (by decide), fun h_ => absurd h_ (by decide), fun h_ => absurd h_ (by decide), fun h_ => absurd h_ (by decide)⟩
        ·skip
         clear BK443 HB HO448 HO453 HO457
         refine steps_cons ?_ ?_
         ·rintro b a w' ⟨v459, v463, gb465, m6_, m7_, m8_, m10_, ha, Q_HO457, Q_BK443, Q_HB, Q_BK465, Q_GW465, Q_GE465, Q_NB443_465, Q_NB465_443, Q_HO448, Q_HO453, Q_HO464, Q_HO460, Q_X6_, Q_X7_, Q_X8_, Q_X10_⟩ hb_ hon hoff
          refine ⟨_, rfl, fun K hK => ?_⟩
          have e48 : a.tmps[48]? = some (.slice A0 l0.length c0) := by rw [ha]; exact (putSel_off rfl).trans rfl
          replace ha := Aside0.mk ha
          have HO457 := Aside0.mk Q_HO457
          have BK443 := Aside0.mk Q_BK443
          have HB := Aside0.mk Q_HB
          have HO448 := Aside0.mk Q_HO448
          have HO453 := Aside0.mk Q_HO453
          refine goes_ Try.func14 (by kernel_rfl) rfl #[.slice A0 l0.length c0] (by rfl) rfl rfl (by first | (simp only [List.map_toArray, List.map_cons, List.map_nil, Act.eval, Array.getD_eq_getD_getElem?, Option.getD_some, e48]; done) | (simp only [List.map_toArray, List.map_cons, List.map_nil, Act.eval, Array.getD_eq_getD_getElem?, Option.getD_some, e48]; rfl)) ?_
          with_reducible refine (clone34.calls _ _ l0 t458 _ ?side1 ?side2 A18.out).mono ?_
          (case side1 => repeat (first | exact (Kd.C_below HR0.out HB.out) | (with_reducible refine Kd.C_alloc ?_ _) | (with_reducible refine Kd.C_drewN ?_ _) | (with_reducible refine Kd.C_drew ?_)))
          (case side2 => exact HC0.out)
          rintro e w32 ⟨v459, rfl, ho0, hb⟩
          refine ⟨_, rfl, ?_⟩
          have n0_ := Aside0.mk (Kd.R_elder' (by (with_reducible repeat (first | apply Kd.R_alloc | apply Kd.R_drewN | apply Kd.R_drew)); exact HO448.out) (Kd.R_base ho0) hb)
          have n1_ := Aside0.mk (Kd.R_elder' (by (with_reducible repeat (first | apply Kd.R_alloc | apply Kd.R_drewN | apply Kd.R_drew)); exact HO453.out) (Kd.R_base ho0) hb)
          have n2_ := Aside0.mk (Kd.R_below (by (with_reducible repeat (first | apply Kd.R_alloc | apply Kd.R_drewN | apply Kd.R_drew)); exact HO457.out) hb)
          have n3_ := Aside0.mk (Kd.R_lower (Kd.R_new' (Kd.R_new' ho0 (Kd.R_lt (by (with_reducible repeat (first | apply Kd.R_alloc | apply Kd.R_drewN | apply Kd.R_drew)); exact HO448.out))) (Kd.R_lt (by (with_reducible repeat (first | apply Kd.R_alloc | apply Kd.R_drewN | apply Kd.R_drew)); exact HO453.out))) (lqZ (by repeat (first | (with_reducible first | exact HB.out | apply lqA | apply lqN | apply lqD | refine lqS ?_ GE443.out) | exact HB.out))))
          have n4_ := Aside0.mk (bqB (g := gb443) (o := .cells #[.int .i64 a1_0, .int .i64 a1_1, .int .i64 a1_2] 24 (0, 0)) (by (with_reducible repeat (first | refine bqN ?_ _ | refine bqD ?_ | refine bqA ?_ _)); exact BK443.out) hb)
          have n5_ := Aside0.mk (lqT (by repeat (first | (with_reducible first | exact HB.out | apply lqA | apply lqN | apply lqD | refine lqS ?_ GE443.out) | exact HB.out)) hb)
          have z_BK465 := fun (h0_ : b 10 = true) => (show w32.heap[gb465]? = some (.cells #[if b 11 = true then v463 else .slice none 0 0] 28 (0, 0)) from by have h_ := Q_BK465 h0_; rw [if_neg (by rw [hoff 11 (by kernel_rfl)]; decide)] at h_ ⊢; first | exact (bqB (g := gb465) (o := .cells #[.slice none 0 0] 28 (0, 0)) (by (with_reducible repeat (first | refine bqN ?_ _ | refine bqD ?_ | refine bqA ?_ _)); exact h_) hb))
          clear HO448
          clear HO453
          clear HO457
          clear BK443
          clear HB
          have HO448 := n0_
          have HO453 := n1_
          have HO457 := n2_
          have HO460 := n3_
          have BK443 := n4_
          have HB := n5_
          clear n0_ n1_ n2_ n3_ n4_ n5_
          (try clear hb)
          (try clear hb2)
          (try clear hk)
          (try clear hi)
          (try clear ho0)
          refine hK.out _ _ ⟨v459, v463, gb465, m6_, m7_, m8_, m10_, (by rw [ha.out]; exact putSel_upk 0 hb_ rfl rfl rfl), (by (with_reducible repeat (first | apply Kd.R_alloc | apply Kd.R_drewN | apply Kd.R_drew)); exact Kd.R_mono HO457.out (fun _ _ => trivial)), (by (with_reducible repeat (first | refine bqN ?_ _ | refine bqD ?_ | refine bqA ?_ _)); exact BK443.out), (by repeat (first | (with_reducible first | exact HB.out | apply lqA | apply lqN | apply lqD | refine lqS ?_ GE443.out) | exact HB.out)), z_BK465, Q_GW465, Q_GE465, Q_NB443_465, Q_NB465_443, (by (with_reducible repeat (first | apply Kd.R_alloc | apply Kd.R_drewN | apply Kd.R_drew)); exact Kd.R_mono HO448.out (fun _ _ => trivial)), (by (with_reducible repeat (first | apply Kd.R_alloc | apply Kd.R_drewN | apply Kd.R_drew)); exact Kd.R_mono HO453.out (fun _ _ => trivial)), fun h0_ => absurd ((hoff 6 (by kernel_rfl)).symm.trans h0_) (by decide), fun _ => (by (with_reducible repeat (first | apply Kd.R_alloc | apply Kd.R_drewN | apply Kd.R_drew)); exact Kd.R_mono HO460.out (fun _ _ => trivial)), fun h0_ => absurd ((hoff 6 (by kernel_rfl)).symm.trans h0_) (by decide), fun h0_ => absurd ((hoff 7 (by kernel_rfl)).symm.trans h0_) (by decide), fun h0_ => absurd ((hoff 8 (by kernel_rfl)).symm.trans h0_) (by decide), Q_X10_⟩
         refine steps_cons ?_ ?_
         ·rintro b a w' ⟨v459, v463, gb465, m6_, m7_, m8_, m10_, ha, Q_HO457, Q_BK443, Q_HB, Q_BK465, Q_GW465, Q_GE465, Q_NB443_465, Q_NB465_443, Q_HO448, Q_HO453, Q_HO464, Q_HO460, Q_X6_, Q_X7_, Q_X8_, Q_X10_⟩ hb_ hon hoff
          refine ⟨_, rfl, fun K hK => ?_⟩
          have e50 : a.tmps[50]? = some (.pointer (some ⟨gb443, 0, none⟩)) := by rw [ha]; exact (putSel_off rfl).trans rfl
          replace ha := Aside0.mk ha
          have HO457 := Aside0.mk Q_HO457
          have BK443 := Aside0.mk Q_BK443
          have HB := Aside0.mk Q_HB
          have HO448 := Aside0.mk Q_HO448
          have HO453 := Aside0.mk Q_HO453
          have hc0_ : w'.cell? ⟨gb443, 0, none⟩ = some (.int .i64 a1_0) := (bqC BK443.out 0).trans rfl
          have hc1_ : w'.cell? ⟨gb443, 1, none⟩ = some (.int .i64 a1_1) := (bqC BK443.out 1).trans rfl
          have hc2_ : w'.cell? ⟨gb443, 2, none⟩ = some (.int .i64 a1_2) := (bqC BK443.out 2).trans rfl
          refine value_ (w1 := w') (v := .int .i64 a1_0) (by rfl) rfl ?_ ?_
          ·go_simp
           (try simp only [i64_w])
           try rfl
          refine hK.out _ _ ⟨v459, v463, gb465, m6_, m7_, m8_, m10_, (by rw [ha.out]; exact putSel_upk 1 hb_ rfl rfl rfl), Q_HO457, Q_BK443, Q_HB, Q_BK465, Q_GW465, Q_GE465, Q_NB443_465, Q_NB465_443, Q_HO448, Q_HO453, fun h0_ => absurd ((hoff 6 (by kernel_rfl)).symm.trans h0_) (by decide), Q_HO460, fun h0_ => absurd ((hoff 6 (by kernel_rfl)).symm.trans h0_) (by decide), fun h0_ => absurd ((hoff 7 (by kernel_rfl)).symm.trans h0_) (by decide), fun h0_ => absurd ((hoff 8 (by kernel_rfl)).symm.trans h0_) (by decide), Q_X10_⟩
         refine steps_cons ?_ ?_
         ·rintro b a w' ⟨v459, v463, gb465, m6_, m7_, m8_, m10_, ha, Q_HO457, Q_BK443, Q_HB, Q_BK465, Q_GW465, Q_GE465, Q_NB443_465, Q_NB465_443, Q_HO448, Q_HO453, Q_HO464, Q_HO460, Q_X6_, Q_X7_, Q_X8_, Q_X10_⟩ hb_ hon hoff
          refine ⟨_, rfl, fun K hK => ?_⟩
          have e52 : a.tmps[52]? = some (.pointer (some ⟨gb443, 2, none⟩)) := by rw [ha]; exact (putSel_off rfl).trans rfl
          replace ha := Aside0.mk ha
          have HO457 := Aside0.mk Q_HO457
          have BK443 := Aside0.mk Q_BK443
          have HB := Aside0.mk Q_HB
          have HO448 := Aside0.mk Q_HO448
          have HO453 := Aside0.mk Q_HO453
          have hc0_ : w'.cell? ⟨gb443, 0, none⟩ = some (.int .i64 a1_0) := (bqC BK443.out 0).trans rfl
          have hc1_ : w'.cell? ⟨gb443, 1, none⟩ = some (.int .i64 a1_1) := (bqC BK443.out 1).trans rfl
          have hc2_ : w'.cell? ⟨gb443, 2, none⟩ = some (.int .i64 a1_2) := (bqC BK443.out 2).trans rfl
          refine value_ (w1 := w') (v := .int .i64 a1_2) (by rfl) rfl ?_ ?_
          ·go_simp
           (try simp only [i64_w])
           try rfl
          refine hK.out _ _ ⟨v459, v463, gb465, m6_, m7_, m8_, m10_, (by rw [ha.out]; exact putSel_upk 2 hb_ rfl rfl rfl), Q_HO457, Q_BK443, Q_HB, Q_BK465, Q_GW465, Q_GE465, Q_NB443_465, Q_NB465_443, Q_HO448, Q_HO453, fun h0_ => absurd ((hoff 6 (by kernel_rfl)).symm.trans h0_) (by decide), Q_HO460, fun h0_ => absurd ((hoff 6 (by kernel_rfl)).symm.trans h0_) (by decide), fun h0_ => absurd ((hoff 7 (by kernel_rfl)).symm.trans h0_) (by decide), fun h0_ => absurd ((hoff 8 (by kernel_rfl)).symm.trans h0_) (by decide), Q_X10_⟩
         refine steps_cons ?_ ?_
         ·rintro b a w' ⟨v459, v463, gb465, m6_, m7_, m8_, m10_, ha, Q_HO457, Q_BK443, Q_HB, Q_BK465, Q_GW465, Q_GE465, Q_NB443_465, Q_NB465_443, Q_HO448, Q_HO453, Q_HO464, Q_HO460, Q_X6_, Q_X7_, Q_X8_, Q_X10_⟩ hb_ hon hoff
          refine ⟨_, rfl, fun K hK => ?_⟩
          have e49 : a.tmps[49]? = some (v459) := by rw [ha]; exact putSel_on (e := (1, 49, v459)) 0 rfl rfl (hon 1 (by kernel_rfl)) rfl
          have e51 : a.tmps[51]? = some (.int .i64 a1_0) := by rw [ha]; exact putSel_on (e := (3, 51, .int .i64 a1_0)) 1 rfl rfl (hon 3 (by kernel_rfl)) rfl
          have e53 : a.tmps[53]? = some (.int .i64 a1_2) := by rw [ha]; exact putSel_on (e := (5, 53, .int .i64 a1_2)) 2 rfl rfl (hon 5 (by kernel_rfl)) rfl
          replace ha := Aside0.mk ha
          have HO457 := Aside0.mk Q_HO457
          have BK443 := Aside0.mk Q_BK443
          have HB := Aside0.mk Q_HB
          have HO448 := Aside0.mk Q_HO448
          have HO453 := Aside0.mk Q_HO453
          have HO460 := Aside0.mk (Q_HO460 (hon 1 (by kernel_rfl)))
          obtain ⟨Ao34, co34, eo34⟩ := Kd.R_slice HO460.out
          (first | subst eo34 | (injection eo34 with f1_ f2_ f3_; have f4_ := f1_.symm; have f5_ := f3_.symm; clear f1_ f2_ f3_; subst f4_; subst f5_))
          refine goes_ Try.func13 (by kernel_rfl) rfl #[.slice Ao34 t458.length co34, .int .i64 a1_0, .int .i64 a1_2] (by rfl) rfl rfl (by first | (simp only [List.map_toArray, List.map_cons, List.map_nil, Act.eval, Array.getD_eq_getD_getElem?, Option.getD_some, e49, e51, e53]; done) | (simp only [List.map_toArray, List.map_cons, List.map_nil, Act.eval, Array.getD_eq_getD_getElem?, Option.getD_some, e49, e51, e53]; rfl)) ?_
          with_reducible refine (seal_Intact.calls _ _ t458 a1_0 a1_2 t461 t462 _ ?side1 ?side2 A19.out).mono ?_
          (case side1 => repeat (first | exact (Kd.R_reads' HO460.out).2.2 | (with_reducible refine Kd.C_alloc ?_ _) | (with_reducible refine Kd.C_drewN ?_ _) | (with_reducible refine Kd.C_drew ?_)))
          (case side2 => exact (Kd.R_reads' HO460.out).2.1)
          rintro e w35 ⟨v463, rfl, ho0, hb⟩
          refine ⟨_, rfl, ?_⟩
          have n0_ := Aside0.mk (Kd.R_below (by (with_reducible repeat (first | apply Kd.R_alloc | apply Kd.R_drewN | apply Kd.R_drew)); exact HO448.out) hb)
          have n1_ := Aside0.mk (Kd.R_below (by (with_reducible repeat (first | apply Kd.R_alloc | apply Kd.R_drewN | apply Kd.R_drew)); exact HO453.out) hb)
          have n2_ := Aside0.mk (Kd.R_elder' (by (with_reducible repeat (first | apply Kd.R_alloc | apply Kd.R_drewN | apply Kd.R_drew)); exact HO457.out) (Kd.R_base ho0) hb)
          have n3_ := Aside0.mk (Kd.R_below (by (with_reducible repeat (first | apply Kd.R_alloc | apply Kd.R_drewN | apply Kd.R_drew)); exact HO460.out) hb)
          have n4_ := Aside0.mk (Kd.R_lower (Kd.R_new' ho0 (Kd.R_lt (by (with_reducible repeat (first | apply Kd.R_alloc | apply Kd.R_drewN | apply Kd.R_drew)); exact HO457.out))) (lqZ (by repeat (first | (with_reducible first | exact HB.out | apply lqA | apply lqN | apply lqD | refine lqS ?_ GE443.out) | exact HB.out))))
          have n5_ := Aside0.mk (bqB (g := gb443) (o := .cells #[.int .i64 a1_0, .int .i64 a1_1, .int .i64 a1_2] 24 (0, 0)) (by (with_reducible repeat (first | refine bqN ?_ _ | refine bqD ?_ | refine bqA ?_ _)); exact BK443.out) hb)
          have n6_ := Aside0.mk (lqT (by repeat (first | (with_reducible first | exact HB.out | apply lqA | apply lqN | apply lqD | refine lqS ?_ GE443.out) | exact HB.out)) hb)
          have z_BK465 := fun (h0_ : b 10 = true) => (show w35.heap[gb465]? = some (.cells #[if b 11 = true then v463 else .slice none 0 0] 28 (0, 0)) from by have h_ := Q_BK465 h0_; rw [if_neg (by rw [hoff 11 (by kernel_rfl)]; decide)] at h_ ⊢; first | exact (bqB (g := gb465) (o := .cells #[.slice none 0 0] 28 (0, 0)) (by (with_reducible repeat (first | refine bqN ?_ _ | refine bqD ?_ | refine bqA ?_ _)); exact h_) hb))
          clear HO448
          clear HO453
          clear HO457
          clear HO460
          clear BK443
          clear HB
          have HO448 := n0_
          have HO453 := n1_
          have HO457 := n2_
          have HO460 := n3_
          have HO464 := n4_
          have BK443 := n5_
          have HB := n6_
          clear n0_ n1_ n2_ n3_ n4_ n5_ n6_
          (try clear hb)
          (try clear hb2)
          (try clear hk)
          (try clear hi)
          (try clear ho0)
          refine hK.out _ _ ⟨.slice Ao34 t458.length co34, v463, gb465, (.tuple #[v463, .int .i64 t462]), m7_, m8_, m10_, (by rw [ha.out]; exact putSel_upk 3 hb_ rfl rfl rfl), (by (with_reducible repeat (first | apply Kd.R_alloc | apply Kd.R_drewN | apply Kd.R_drew)); exact Kd.R_mono HO457.out (fun _ _ => trivial)), (by (with_reducible repeat (first | refine bqN ?_ _ | refine bqD ?_ | refine bqA ?_ _)); exact BK443.out), (by repeat (first | (with_reducible first | exact HB.out | apply lqA | apply lqN | apply lqD | refine lqS ?_ GE443.out) | exact HB.out)), z_BK465, Q_GW465, Q_GE465, Q_NB443_465, Q_NB465_443, (by (with_reducible repeat (first | apply Kd.R_alloc | apply Kd.R_drewN | apply Kd.R_drew)); exact Kd.R_mono HO448.out (fun _ _ => trivial)), (by (with_reducible repeat (first | apply Kd.R_alloc | apply Kd.R_drewN | apply Kd.R_drew)); exact Kd.R_mono HO453.out (fun _ _ => trivial)), fun _ => (by (with_reducible repeat (first | apply Kd.R_alloc | apply Kd.R_drewN | apply Kd.R_drew)); exact Kd.R_mono HO464.out (fun _ _ => trivial)), fun _ => (by (with_reducible repeat (first | apply Kd.R_alloc | apply Kd.R_drewN | apply Kd.R_drew)); exact Kd.R_mono HO460.out (fun _ _ => trivial)), fun _ => rfl, fun h0_ => absurd ((hoff 7 (by kernel_rfl)).symm.trans h0_) (by decide), fun h0_ => absurd ((hoff 8 (by kernel_rfl)).symm.trans h0_) (by decide), Q_X10_⟩
         refine steps_cons ?_ ?_
         ·rintro b a w' ⟨v459, v463, gb465, m6_, m7_, m8_, m10_, ha, Q_HO457, Q_BK443, Q_HB, Q_BK465, Q_GW465, Q_GE465, Q_NB443_465, Q_NB465_443, Q_HO448, Q_HO453, Q_HO464, Q_HO460, Q_X6_, Q_X7_, Q_X8_, Q_X10_⟩ hb_ hon hoff
          refine ⟨_, rfl, fun K hK => ?_⟩
          have e54 : a.tmps[54]? = some (m6_) := by rw [ha]; exact putSel_on (e := (6, 54, m6_)) 3 rfl rfl (hon 6 (by kernel_rfl)) rfl
          rw [Q_X6_ (hon 6 (by kernel_rfl))] at e54
          replace ha := Aside0.mk ha
          have HO457 := Aside0.mk Q_HO457
          have BK443 := Aside0.mk Q_BK443
          have HB := Aside0.mk Q_HB
          have HO448 := Aside0.mk Q_HO448
          have HO453 := Aside0.mk Q_HO453
          have HO464 := Aside0.mk (Q_HO464 (hon 6 (by kernel_rfl)))
          have HO460 := Aside0.mk (Q_HO460 (hon 1 (by kernel_rfl)))
          refine value_ (w1 := w') (v := .tuple #[v463, .int .i64 t462]) (by rfl) rfl ?_ ?_
          ·go_simp
           (try simp only [i64_w])
           try rfl
          refine hK.out _ _ ⟨v459, v463, gb465, m6_, (.tuple #[v463, .int .i64 t462]), m8_, m10_, (by rw [ha.out]; exact putSel_upk 4 hb_ rfl rfl rfl), Q_HO457, Q_BK443, Q_HB, Q_BK465, Q_GW465, Q_GE465, Q_NB443_465, Q_NB465_443, Q_HO448, Q_HO453, Q_HO464, Q_HO460, Q_X6_, fun _ => rfl, fun h0_ => absurd ((hoff 8 (by kernel_rfl)).symm.trans h0_) (by decide), Q_X10_⟩
         refine steps_cons ?_ ?_
         ·rintro b a w' ⟨v459, v463, gb465, m6_, m7_, m8_, m10_, ha, Q_HO457, Q_BK443, Q_HB, Q_BK465, Q_GW465, Q_GE465, Q_NB443_465, Q_NB465_443, Q_HO448, Q_HO453, Q_HO464, Q_HO460, Q_X6_, Q_X7_, Q_X8_, Q_X10_⟩ hb_ hon hoff
          refine ⟨_, rfl, fun K hK => ?_⟩
          have e47 : a.tmps[47]? = some (m7_) := by rw [ha]; exact putSel_on (e := (7, 47, m7_)) 4 rfl rfl (hon 7 (by kernel_rfl)) rfl
          rw [Q_X7_ (hon 7 (by kernel_rfl))] at e47
          replace ha := Aside0.mk ha
          have HO457 := Aside0.mk Q_HO457
          have BK443 := Aside0.mk Q_BK443
          have HB := Aside0.mk Q_HB
          have HO448 := Aside0.mk Q_HO448
          have HO453 := Aside0.mk Q_HO453
          have HO464 := Aside0.mk (Q_HO464 (hon 6 (by kernel_rfl)))
          have HO460 := Aside0.mk (Q_HO460 (hon 1 (by kernel_rfl)))
          obtain ⟨Ao8_0, co8_0, eo_⟩ := Kd.R_slice HO464.out
          subst eo_
          refine value_ (w1 := w') (v := .slice Ao8_0 t461.length co8_0) (by rfl) rfl ?_ ?_
          ·go_simp
           (try simp only [i64_w])
           try rfl
          refine hK.out _ _ ⟨v459, .slice Ao8_0 t461.length co8_0, gb465, m6_, m7_, (.slice Ao8_0 t461.length co8_0), m10_, (by rw [ha.out]; exact putSel_upk 5 hb_ rfl rfl rfl), Q_HO457, Q_BK443, Q_HB, Q_BK465, Q_GW465, Q_GE465, Q_NB443_465, Q_NB465_443, Q_HO448, Q_HO453, Q_HO464, Q_HO460, Q_X6_, Q_X7_, fun _ => rfl, Q_X10_⟩
         refine steps_cons ?_ ?_
         ·rintro b a w' ⟨v459, v463, gb465, m6_, m7_, m8_, m10_, ha, Q_HO457, Q_BK443, Q_HB, Q_BK465, Q_GW465, Q_GE465, Q_NB443_465, Q_NB465_443, Q_HO448, Q_HO453, Q_HO464, Q_HO460, Q_X6_, Q_X7_, Q_X8_, Q_X10_⟩ hb_ hon hoff
          refine ⟨_, rfl, fun K hK => ?_⟩
          have e47 : a.tmps[47]? = some (m7_) := by rw [ha]; exact putSel_on (e := (7, 47, m7_)) 4 rfl rfl (hon 7 (by kernel_rfl)) rfl
          rw [Q_X7_ (hon 7 (by kernel_rfl))] at e47
          replace ha := Aside0.mk ha
          have HO457 := Aside0.mk Q_HO457
          have BK443 := Aside0.mk Q_BK443
          have HB := Aside0.mk Q_HB
          have HO448 := Aside0.mk Q_HO448
          have HO453 := Aside0.mk Q_HO453
          have HO464 := Aside0.mk (Q_HO464 (hon 6 (by kernel_rfl)))
          have HO460 := Aside0.mk (Q_HO460 (hon 1 (by kernel_rfl)))
          obtain ⟨Ao9_0, co9_0, eo_⟩ := Kd.R_slice HO464.out
          subst eo_
          refine value_ (w1 := w') (v := .int .i64 t462) (by rfl) rfl ?_ ?_
          ·go_simp
           (try simp only [i64_w])
           try rfl
          refine hK.out _ _ ⟨v459, .slice Ao9_0 t461.length co9_0, gb465, m6_, m7_, m8_, m10_, (by rw [ha.out]; exact putSel_upk 6 hb_ rfl rfl rfl), Q_HO457, Q_BK443, Q_HB, Q_BK465, Q_GW465, Q_GE465, Q_NB443_465, Q_NB465_443, Q_HO448, Q_HO453, Q_HO464, Q_HO460, Q_X6_, Q_X7_, Q_X8_, Q_X10_⟩
         refine steps_cons ?_ ?_
         ·rintro b a w' ⟨v459, v463, gb465, m6_, m7_, m8_, m10_, ha, Q_HO457, Q_BK443, Q_HB, Q_BK465, Q_GW465, Q_GE465, Q_NB443_465, Q_NB465_443, Q_HO448, Q_HO453, Q_HO464, Q_HO460, Q_X6_, Q_X7_, Q_X8_, Q_X10_⟩ hb_ hon hoff
          refine ⟨_, rfl, fun K hK => ?_⟩
          replace ha := Aside0.mk ha
          have HO457 := Aside0.mk Q_HO457
          have BK443 := Aside0.mk Q_BK443
          have HB := Aside0.mk Q_HB
          have HO448 := Aside0.mk Q_HO448
          have HO453 := Aside0.mk Q_HO453
          refine box_step ?hg (N := 9) ?hd (cs := #[.slice none 0 0]) (t := 28) ?hr ?_; (case hd => rfl); (case hg => rfl); (case hr => first | (go_simp; done) | (go_simp; rfl))
          intro gb465 hg w32 hbox hb
          have n0_ := Aside0.mk (Kd.R_below (by (with_reducible repeat (first | apply Kd.R_alloc | apply Kd.R_drewN | apply Kd.R_drew)); exact HO448.out) hb)
          have n1_ := Aside0.mk (Kd.R_below (by (with_reducible repeat (first | apply Kd.R_alloc | apply Kd.R_drewN | apply Kd.R_drew)); exact HO453.out) hb)
          have n2_ := Aside0.mk (Kd.R_below (by (with_reducible repeat (first | apply Kd.R_alloc | apply Kd.R_drewN | apply Kd.R_drew)); exact HO457.out) hb)
          have n3_ := Aside0.mk (bqB (g := gb443) (o := .cells #[.int .i64 a1_0, .int .i64 a1_1, .int .i64 a1_2] 24 (0, 0)) (by (with_reducible repeat (first | refine bqN ?_ _ | refine bqD ?_ | refine bqA ?_ _)); exact BK443.out) hb)
          have n4_ := Aside0.mk (lqT (by repeat (first | (with_reducible first | exact HB.out | apply lqA | apply lqN | apply lqD | refine lqS ?_ GE443.out) | exact HB.out)) hb)
          have n5_ := Aside0.mk (hbox)
          have n6_ := Aside0.mk ((by rw [hg]; exact (lqZ (by repeat (first | (with_reducible first | exact HB.out | apply lqA | apply lqN | apply lqD | refine lqS ?_ GE443.out) | exact HB.out))) : w.heap.size ≤ gb465))
          have n7_ := Aside0.mk ((by rw [hg]; exact (lqZ (by repeat (first | (with_reducible first | exact HB.out | apply lqA | apply lqN | apply lqD | refine lqS ?_ GE443.out) | exact HB.out))) : w.heap.size ≤ gb465))
          have n8_ := Aside0.mk ((by rw [hg]; exact Nat.ne_of_lt (blk_lt (g := gb443) (o := .cells #[.int .i64 a1_0, .int .i64 a1_1, .int .i64 a1_2] 24 (0, 0)) (by (with_reducible repeat (first | refine bqN ?_ _ | refine bqD ?_ | refine bqA ?_ _)); exact BK443.out)) : gb443 ≠ gb465))
          have n9_ := Aside0.mk ((by rw [hg]; exact Nat.ne_of_gt (blk_lt (g := gb443) (o := .cells #[.int .i64 a1_0, .int .i64 a1_1, .int .i64 a1_2] 24 (0, 0)) (by (with_reducible repeat (first | refine bqN ?_ _ | refine bqD ?_ | refine bqA ?_ _)); exact BK443.out)) : gb465 ≠ gb443))
          have z_HO464 := fun (h0_ : b 6 = true) => (show Kd.R (Kd.int .i64) 3 w32 w.heap.size (fun _ => True) v463 t461 from by first | exact (Kd.R_below (by (with_reducible repeat (first | apply Kd.R_alloc | apply Kd.R_drewN | apply Kd.R_drew)); exact (Q_HO464 h0_)) hb) | exact Kd.R_mono (Kd.R_below (by (with_reducible repeat (first | apply Kd.R_alloc | apply Kd.R_drewN | apply Kd.R_drew)); exact (Q_HO464 h0_)) hb) (fun _ h_ => by first | trivial | exact h_ | exact h_.1 | exact ⟨h_.1, h_.2.1⟩ | exact ⟨h_.1, h_.2.1, h_.2.2.1⟩ | simp_all))
          have z_HO460 := fun (h0_ : b 1 = true) => (show Kd.R k34 34 w32 w.heap.size (fun _ => True) v459 t458 from by first | exact (Kd.R_below (by (with_reducible repeat (first | apply Kd.R_alloc | apply Kd.R_drewN | apply Kd.R_drew)); exact (Q_HO460 h0_)) hb) | exact Kd.R_mono (Kd.R_below (by (with_reducible repeat (first | apply Kd.R_alloc | apply Kd.R_drewN | apply Kd.R_drew)); exact (Q_HO460 h0_)) hb) (fun _ h_ => by first | trivial | exact h_ | exact h_.1 | exact ⟨h_.1, h_.2.1⟩ | exact ⟨h_.1, h_.2.1, h_.2.2.1⟩ | simp_all))
          clear HO448
          clear HO453
          clear HO457
          clear BK443
          clear HB
          have HO448 := n0_
          have HO453 := n1_
          have HO457 := n2_
          have BK443 := n3_
          have HB := n4_
          have BK465 := n5_
          have GW465 := n6_
          have GE465 := n7_
          have NB443_465 := n8_
          have NB465_443 := n9_
          clear n0_ n1_ n2_ n3_ n4_ n5_ n6_ n7_ n8_ n9_
          clear hb hbox hg
          refine hK.out _ _ ⟨v459, v463, gb465, m6_, m7_, m8_, (.pointer (some ⟨gb465, 0, none⟩)), (by rw [ha.out]; exact putSel_upk 7 hb_ rfl rfl rfl), (by (with_reducible repeat (first | apply Kd.R_alloc | apply Kd.R_drewN | apply Kd.R_drew)); exact Kd.R_mono HO457.out (fun _ _ => trivial)), (by (with_reducible repeat (first | refine bqN ?_ _ | refine bqD ?_ | refine bqA ?_ _)); exact BK443.out), (by repeat (first | (with_reducible first | exact HB.out | apply lqA | apply lqN | apply lqD | refine lqS ?_ GE443.out | refine lqS ?_ GE465.out) | exact HB.out)), fun _ => (by have h11_ : b 11 = false := hoff 11 (by kernel_rfl); show (_ : Option Obj) = some (Obj.cells #[if b 11 = true then v463 else .slice none 0 0] 28 (0, 0)); rw [if_neg (by rw [h11_]; decide)]; (with_reducible repeat (first | refine bqN ?_ _ | refine bqD ?_ | refine bqA ?_ _)); exact BK465.out), fun _ => GW465.out, fun _ => GE465.out, fun _ => NB443_465.out, fun _ => NB465_443.out, (by (with_reducible repeat (first | apply Kd.R_alloc | apply Kd.R_drewN | apply Kd.R_drew)); exact Kd.R_mono HO448.out (fun _ _ => trivial)), (by (with_reducible repeat (first | apply Kd.R_alloc | apply Kd.R_drewN | apply Kd.R_drew)); exact Kd.R_mono HO453.out (fun _ _ => trivial)), z_HO464, z_HO460, Q_X6_, Q_X7_, Q_X8_, fun _ => rfl⟩
         refine steps_cons ?_ ?_
         ·rintro b a w' ⟨v459, v463, gb465, m6_, m7_, m8_, m10_, ha, Q_HO457, Q_BK443, Q_HB, Q_BK465, Q_GW465, Q_GE465, Q_NB443_465, Q_NB465_443, Q_HO448, Q_HO453, Q_HO464, Q_HO460, Q_X6_, Q_X7_, Q_X8_, Q_X10_⟩ hb_ hon hoff
          refine ⟨_, rfl, fun K hK => ?_⟩
          have e9 : a.tmps[9]? = some (m10_) := by rw [ha]; exact putSel_on (e := (10, 9, m10_)) 7 rfl rfl (hon 10 (by kernel_rfl)) rfl
          rw [Q_X10_ (hon 10 (by kernel_rfl))] at e9
          have e55 : a.tmps[55]? = some (m8_) := by rw [ha]; exact putSel_on (e := (8, 55, m8_)) 5 rfl rfl (hon 8 (by kernel_rfl)) rfl
          rw [Q_X8_ (hon 8 (by kernel_rfl))] at e55
          replace ha := Aside0.mk ha
          have HO457 := Aside0.mk Q_HO457
          have BK443 := Aside0.mk Q_BK443
          have HB := Aside0.mk Q_HB
          have BK465 := Aside0.mk (show w'.heap[gb465]? = some (.cells #[.slice none 0 0] 28 (0, 0)) from by have h_ := Q_BK465 (hon 10 (by kernel_rfl)); rw [if_neg (by rw [hb_]; decide)] at h_; exact h_)
          have GW465 := Aside0.mk (Q_GW465 (hon 10 (by kernel_rfl)))
          have GE465 := Aside0.mk (Q_GE465 (hon 10 (by kernel_rfl)))
          have NB443_465 := Aside0.mk (Q_NB443_465 (hon 10 (by kernel_rfl)))
          have NB465_443 := Aside0.mk (Q_NB465_443 (hon 10 (by kernel_rfl)))
          have HO448 := Aside0.mk Q_HO448
          have HO453 := Aside0.mk Q_HO453
          have HO464 := Aside0.mk (Q_HO464 (hon 6 (by kernel_rfl)))
          have HO460 := Aside0.mk (Q_HO460 (hon 1 (by kernel_rfl)))
          have hs37 : w'.cell? ⟨gb465, 0, none⟩ = some (.slice none 0 0) := (bqC BK465.out 0).trans rfl
          have hfs37 := bqF BK465.out 0
          have hns37_0 := NB443_465.out
          have hms37_0 := NB465_443.out
          obtain ⟨Aob_, cob_, eob_⟩ := Kd.R_slice HO464.out
          subst eob_
          refine skip_ (w1 := ?_) (by rfl) rfl ?_ ?_
          rotate_left
          ·go_simp
           rfl
          refine hK.out _ _ ⟨v459, .slice Aob_ t461.length cob_, gb465, m6_, m7_, m8_, m10_, (by rw [ha.out]; exact putSel_none (v := undef) rfl), (by (with_reducible repeat (first | apply Kd.R_alloc | apply Kd.R_drewN | apply Kd.R_drew)); exact Kd.R_mono (Kd.R_far (p := ⟨gb465, 0, none⟩) (Kd.R_types HO457.out BK465.out (by decide)) (fun _ hk => hk.2) (.slice Aob_ t461.length cob_)) (fun _ _ => trivial)), (by (with_reducible repeat (first | refine bqN ?_ _ | refine bqD ?_ | refine bqA ?_ _)); refine blk_far ?_ NB443_465.out _; (with_reducible repeat (first | refine bqN ?_ _ | refine bqD ?_ | refine bqA ?_ _)); exact BK443.out), (by repeat (first | (with_reducible first | exact HB.out | apply lqA | apply lqN | apply lqD | refine lqS ?_ GE443.out | refine lqS ?_ GE465.out) | exact HB.out)), fun _ => (by (with_reducible repeat (first | refine bqN ?_ _ | refine bqD ?_ | refine bqA ?_ _)); refine bqP (cs := #[.slice none 0 0]) ?_ 0 _ rfl; (with_reducible repeat (first | refine bqN ?_ _ | refine bqD ?_ | refine bqA ?_ _)); exact BK465.out), fun _ => GW465.out, fun _ => GE465.out, fun _ => NB443_465.out, fun _ => NB465_443.out, (by (with_reducible repeat (first | apply Kd.R_alloc | apply Kd.R_drewN | apply Kd.R_drew)); exact Kd.R_mono (Kd.R_far (p := ⟨gb465, 0, none⟩) (Kd.R_types HO448.out BK465.out (by decide)) (fun _ hk => hk.2) (.slice Aob_ t461.length cob_)) (fun _ _ => trivial)), (by (with_reducible repeat (first | apply Kd.R_alloc | apply Kd.R_drewN | apply Kd.R_drew)); exact Kd.R_mono (Kd.R_far (p := ⟨gb465, 0, none⟩) (Kd.R_types HO453.out BK465.out (by decide)) (fun _ hk => hk.2) (.slice Aob_ t461.length cob_)) (fun _ _ => trivial)), fun _ => (by (with_reducible repeat (first | apply Kd.R_alloc | apply Kd.R_drewN | apply Kd.R_drew)); exact Kd.R_mono (Kd.R_far (p := ⟨gb465, 0, none⟩) (Kd.R_types HO464.out BK465.out (by decide)) (fun _ hk => hk.2) (.slice Aob_ t461.length cob_)) (fun _ _ => trivial)), fun _ => (by (with_reducible repeat (first | apply Kd.R_alloc | apply Kd.R_drewN | apply Kd.R_drew)); exact Kd.R_mono (Kd.R_far (p := ⟨gb465, 0, none⟩) (Kd.R_types HO460.out BK465.out (by decide)) (fun _ hk => hk.2) (.slice Aob_ t461.length cob_)) (fun _ _ => trivial)), Q_X6_, Q_X7_, Q_X8_, Q_X10_⟩
         refine steps_cons ?_ ?_
         ·rintro b a w' ⟨v459, v463, gb465, m6_, m7_, m8_, m10_, ha, Q_HO457, Q_BK443, Q_HB, Q_BK465, Q_GW465, Q_GE465, Q_NB443_465, Q_NB465_443, Q_HO448, Q_HO453, Q_HO464, Q_HO460, Q_X6_, Q_X7_, Q_X8_, Q_X10_⟩ hb_ hon hoff
          refine ⟨_, rfl, fun K hK => ?_⟩
          have e56 : a.tmps[56]? = some (.int .i64 t462) := by rw [ha]; exact putSel_on (e := (9, 56, .int .i64 t462)) 6 rfl rfl (hon 9 (by kernel_rfl)) rfl
          replace ha := Aside0.mk ha
          have HO457 := Aside0.mk Q_HO457
          have BK443 := Aside0.mk Q_BK443
          have HB := Aside0.mk Q_HB
          have BK465 := Aside0.mk (Q_BK465 (hon 10 (by kernel_rfl)))
          have GW465 := Aside0.mk (Q_GW465 (hon 10 (by kernel_rfl)))
          have GE465 := Aside0.mk (Q_GE465 (hon 10 (by kernel_rfl)))
          have NB443_465 := Aside0.mk (Q_NB443_465 (hon 10 (by kernel_rfl)))
          have NB465_443 := Aside0.mk (Q_NB465_443 (hon 10 (by kernel_rfl)))
          have HO448 := Aside0.mk Q_HO448
          have HO453 := Aside0.mk Q_HO453
          have HO464 := Aside0.mk (Q_HO464 (hon 6 (by kernel_rfl)))
          have HO460 := Aside0.mk (Q_HO460 (hon 1 (by kernel_rfl)))
          refine value_ (w1 := w') (v := .int .i64 t462) (by rfl) rfl ?_ ?_
          ·go_simp
           (try simp only [i64_w])
           try rfl
          refine hK.out _ _ ⟨v459, v463, gb465, m6_, m7_, m8_, m10_, (by rw [ha.out]; exact putSel_upk 8 hb_ rfl rfl rfl), Q_HO457, Q_BK443, Q_HB, Q_BK465, Q_GW465, Q_GE465, Q_NB443_465, Q_NB465_443, Q_HO448, Q_HO453, Q_HO464, Q_HO460, Q_X6_, Q_X7_, Q_X8_, Q_X10_⟩
         exact steps_nil
        rintro b a w37 hall ⟨v459, v463, gb465, m6_, m7_, m8_, m10_, ha, Q_HO457, Q_BK443, Q_HB, Q_BK465, Q_GW465, Q_GE465, Q_NB443_465, Q_NB465_443, Q_HO448, Q_HO453, Q_HO464, Q_HO460, Q_X6_, Q_X7_, Q_X8_, Q_X10_⟩
        clear BK443 HB HO448 HO453 HO457
        have hb1_ := hall 1 (by kernel_rfl)
        have hb3_ := hall 3 (by kernel_rfl)
        have hb5_ := hall 5 (by kernel_rfl)
        have hb6_ := hall 6 (by kernel_rfl)
        have hb7_ := hall 7 (by kernel_rfl)
        have hb8_ := hall 8 (by kernel_rfl)
        have hb9_ := hall 9 (by kernel_rfl)
        have hb10_ := hall 10 (by kernel_rfl)
        have hb11_ := hall 11 (by kernel_rfl)
        have hb12_ := hall 12 (by kernel_rfl)
        subst ha
        obtain rfl := Q_X6_ hb6_
        obtain rfl := Q_X7_ hb7_
        obtain rfl := Q_X8_ hb8_
        obtain rfl := Q_X10_ hb10_
        simp only [putSel, hb1_, hb3_, hb5_, hb6_, hb7_, hb8_, hb9_, hb10_, hb11_, hb12_, if_true, Act.put, List.setIfInBounds_toArray, List.set_cons_zero, List.set_cons_succ]
        have HO457 := Aside0.mk Q_HO457
        clear Q_HO457
        have BK443 := Aside0.mk Q_BK443
        clear Q_BK443
        have HB := Aside0.mk Q_HB
        clear Q_HB
        have BK465 := Aside0.mk (by have h_ := Q_BK465 hb10_; rw [if_pos hb11_] at h_; exact h_)
        clear Q_BK465
        have GW465 := Aside0.mk (Q_GW465 hb10_)
        clear Q_GW465
        have GE465 := Aside0.mk (Q_GE465 hb10_)
        clear Q_GE465
        have NB443_465 := Aside0.mk (Q_NB443_465 hb10_)
        clear Q_NB443_465
        have NB465_443 := Aside0.mk (Q_NB465_443 hb10_)
        clear Q_NB465_443
        have HO448 := Aside0.mk Q_HO448
        clear Q_HO448
        have HO453 := Aside0.mk Q_HO453
        clear Q_HO453
        have HO464 := Aside0.mk (Q_HO464 hb6_)
        clear Q_HO464
        have HO460 := Aside0.mk (Q_HO460 hb1_)
        clear Q_HO460
        clear hall hb1_ hb3_ hb5_ hb6_ hb7_ hb8_ hb9_ hb10_ hb11_ hb12_
        obtain ⟨Ao38, co38, eo38⟩ := Kd.R_slice HO457.out
        subst eo38
        obtain ⟨Ao39, co39, eo39⟩ := Kd.R_slice HO464.out
        subst eo39
        try go_wp2_with (first | (go_at_call 23; (with_reducible refine (contB.calls _ _ t454 Ao39 co39 t461 t466 _ ?side1 ?side2 ?side3 ?side4 A22.out 27 gb465 (.inr rfl) ?side5).mono ?_); (case side5 => (with_reducible repeat (first | refine bqN ?_ _ | refine bqD ?_ | refine bqA ?_ _)); exact BK465.out); (case side1 => repeat (first | exact (Kd.R_reads' HO457.out).2.2 | (with_reducible refine Kd.C_alloc ?_ _) | (with_reducible refine Kd.C_drewN ?_ _) | (with_reducible refine Kd.C_drew ?_))); (case side2 => exact (Kd.R_reads' HO457.out).2.1); (case side3 => repeat (first | exact (Kd.R_reads' HO464.out).2.2 | (with_reducible refine Kd.C_alloc ?_ _) | (with_reducible refine Kd.C_drewN ?_ _) | (with_reducible refine Kd.C_drew ?_))); (case side4 => exact (Kd.R_reads' HO464.out).2.1); rintro e w40 ⟨rfl, hb⟩; have n0_ := Aside0.mk (Kd.R_below (by (with_reducible repeat (first | apply Kd.R_alloc | apply Kd.R_drewN | apply Kd.R_drew)); exact HO448.out) hb); have n1_ := Aside0.mk (Kd.R_below (by (with_reducible repeat (first | apply Kd.R_alloc | apply Kd.R_drewN | apply Kd.R_drew)); exact HO453.out) hb); have n2_ := Aside0.mk (Kd.R_below (by (with_reducible repeat (first | apply Kd.R_alloc | apply Kd.R_drewN | apply Kd.R_drew)); exact HO457.out) hb); have n3_ := Aside0.mk (Kd.R_below (by (with_reducible repeat (first | apply Kd.R_alloc | apply Kd.R_drewN | apply Kd.R_drew)); exact HO460.out) hb); have n4_ := Aside0.mk (Kd.R_below (by (with_reducible repeat (first | apply Kd.R_alloc | apply Kd.R_drewN | apply Kd.R_drew)); exact HO464.out) hb); have n5_ := Aside0.mk (bqB (g := gb443) (o := .cells #[.int .i64 a1_0, .int .i64 a1_1, .int .i64 a1_2] 24 (0, 0)) (by (with_reducible repeat (first | refine bqN ?_ _ | refine bqD ?_ | refine bqA ?_ _)); exact BK443.out) hb); have n6_ := Aside0.mk (bqB (g := gb465) (o := .cells #[.slice Ao39 t461.length co39] 28 (0, 0)) (by (with_reducible repeat (first | refine bqN ?_ _ | refine bqD ?_ | refine bqA ?_ _)); exact BK465.out) hb); have n7_ := Aside0.mk (lqT (by repeat (first | (with_reducible first | exact HB.out | apply lqA | apply lqN | apply lqD | refine lqS ?_ GE443.out | refine lqS ?_ GE465.out) | exact HB.out)) hb); clear HO448; clear HO453; clear HO457; clear HO460; clear HO464; clear BK443; clear BK465; clear HB; have HO448 := n0_; have HO453 := n1_; have HO457 := n2_; have HO460 := n3_; have HO464 := n4_; have BK443 := n5_; have BK465 := n6_; have HB := n7_; clear n0_ n1_ n2_ n3_ n4_ n5_ n6_ n7_; (try clear hb); (try clear hb2); (try clear hk); (try clear hi)))
        go_ret
        exact ⟨by first | rfl | (simp [errW_none, errW_some] <;> rfl) | (simp [*, errW_none, errW_some] <;> rfl), by repeat (first | (with_reducible first | exact HB.out | apply lqA | apply lqN | apply lqD | refine lqS ?_ GE443.out | refine lqS ?_ GE465.out) | exact HB.out)⟩
       ·rw [if_neg c21] at H
        exact absurd H (by simp)
      ·rw [if_neg c20] at H
       exact absurd H (by simp)
     ·rw [if_neg c15] at H
      have c15b0 : (t450 == 0) = false := beq_eq_false_iff_ne.mpr c15
      try simp only [beq_self_eq_true, Bool.not_true, Bool.false_or, Bool.true_and] at c15b0
      have c15b1 : (t450 != 0) = true := bne_iff_ne.mpr c15
      obtain rfl := Option.some.inj H
      try go_wp2
      have n0_ := Aside0.mk (bqD BK443.out)
      have n1_ := Aside0.mk (lqD HB.out)
      clear BK443
      clear HB
      have BK443 := n0_
      have HB := n1_
      clear n0_ n1_
      refine start_ (n := 14) (S := fun w' => w'.cell? ⟨gb443, 0, none⟩ = some (.int .i64 a1_0) ∧ w'.cell? ⟨gb443, 1, none⟩ = some (.int .i64 a1_1) ∧ w'.cell? ⟨gb443, 2, none⟩ = some (.int .i64 a1_2)) (ds := []) #[false, false, false, false, false, false, false, false, false, false, false, false, false, false] (by kernel_rfl) rfl rfl ⟨(bqC BK443.out 0).trans rfl, (bqC BK443.out 1).trans rfl, (bqC BK443.out 2).trans rfl⟩ (fun hHeld => ?_); refine with_tabW spilelaw39_SealSame.tab5 spilelaw39_SealSame.bits5 (fun HT_ HW_ => ?_)
      generalize wc.drew = w41 at BK443 HB hHeld ⊢
      refine pure_ (i := 0) (N := some 22) (v := ?_) (a' := ?_) #[true, false, false, false, false, false, false, false, false, false, false, false, false, false] rfl rfl (any_of HT_.out (by kernel_rfl)) (fun _ _ _ h => h) (Or.inl ⟨by rfl, ?_⟩) ?_ ?_
      rotate_left
      ·intro w'
       go_simp
       with_reducible rfl
      rotate_left
      ·simp only [Act.put, List.setIfInBounds_toArray, List.set_cons_zero, List.set_cons_succ, i64_w, i32_w]
       rfl
      refine pure_ (i := 2) (N := some 24) (v := ?_) (a' := ?_) #[true, false, true, false, false, false, false, false, false, false, false, false, false, false] rfl rfl (any_of HT_.out (by kernel_rfl)) (fun _ _ _ h => h) (Or.inl ⟨by rfl, ?_⟩) ?_ ?_
      rotate_left
      ·intro w'
       go_simp
       with_reducible rfl
      rotate_left
      ·simp only [Act.put, List.setIfInBounds_toArray, List.set_cons_zero, List.set_cons_succ, i64_w, i32_w]
       rfl
      refine pure_ (i := 4) (N := some 26) (v := ?_) (a' := ?_) #[true, false, true, false, true, false, false, false, false, false, false, false, false, false] rfl rfl (any_of HT_.out (by kernel_rfl)) (fun _ _ _ h => h) (Or.inl ⟨by rfl, ?_⟩) ?_ ?_
      rotate_left
      ·intro w'
       go_simp
       with_reducible rfl
      rotate_left
      ·simp only [Act.put, List.setIfInBounds_toArray, List.set_cons_zero, List.set_cons_succ, i64_w, i32_w]
       rfl
      refine pure_ (i := 6) (N := some 28) (v := ?_) (a' := ?_) #[true, false, true, false, true, false, true, false, false, false, false, false, false, false] rfl rfl (any_of HT_.out (by kernel_rfl)) (fun _ _ _ h => h) (Or.inl ⟨by rfl, ?_⟩) ?_ ?_
      rotate_left
      ·intro w'
       go_simp
       with_reducible rfl
      rotate_left
      ·simp only [Act.put, List.setIfInBounds_toArray, List.set_cons_zero, List.set_cons_succ, i64_w, i32_w]
       rfl
      refine take_ (i := 3) (N := some 25) (v := ?_) (a' := ?_) #[true, false, true, true, true, false, true, false, false, false, false, false, false, false] rfl rfl (take_ofW HT_.out HW_.out (by kernel_rfl)) (fun _ _ _ h => h) (Or.inl ⟨by rfl, ?_⟩) hHeld ?_ ?_
      rotate_left
      ·rintro w' ⟨s0, s1, s2⟩
       go_simp
       with_reducible rfl
      rotate_left
      ·simp only [Act.put, List.setIfInBounds_toArray, List.set_cons_zero, List.set_cons_succ, i64_w, i32_w]
       rfl
      refine take_ (i := 5) (N := some 27) (v := ?_) (a' := ?_) #[true, false, true, true, true, true, true, false, false, false, false, false, false, false] rfl rfl (take_ofW HT_.out HW_.out (by kernel_rfl)) (fun _ _ _ h => h) (Or.inl ⟨by rfl, ?_⟩) hHeld ?_ ?_
      rotate_left
      ·rintro w' ⟨s0, s1, s2⟩
       go_simp
       with_reducible rfl
      rotate_left
      ·simp only [Act.put, List.setIfInBounds_toArray, List.set_cons_zero, List.set_cons_succ, i64_w, i32_w]
       rfl
      refine take_ (i := 7) (N := some 29) (v := ?_) (a' := ?_) #[true, false, true, true, true, true, true, true, false, false, false, false, false, false] rfl rfl (take_ofW HT_.out HW_.out (by kernel_rfl)) (fun _ _ _ h => h) (Or.inl ⟨by rfl, ?_⟩) hHeld ?_ ?_
      rotate_left
      ·rintro w' ⟨s0, s1, s2⟩
       go_simp
       with_reducible rfl
      rotate_left
      ·simp only [Act.put, List.setIfInBounds_toArray, List.set_cons_zero, List.set_cons_succ, i64_w, i32_w]
       rfl
      refine one_ (i := 1) (N := some 23) #[true, true, true, true, true, true, true, true, false, false, false, false, false, false] rfl rfl (one_of HT_.out (by kernel_rfl)) (by decide) (fun K hK => ?_)
      refine goes_ Try.func14 (by kernel_rfl) rfl #[.slice A0 l0.length c0] (by rfl) rfl rfl (by (try simp only [List.map_toArray, List.map_cons, List.map_nil]); first | done | rfl | (simp only [List.length_drop, List.length_take]; rfl)) ?_
      with_reducible refine (clone34.calls _ _ l0 t446 _ ?side1 ?side2 A13.out).mono ?_
      (case side1 => repeat (first | exact (Kd.C_below HR0.out HB.out) | (with_reducible refine Kd.C_alloc ?_ _) | (with_reducible refine Kd.C_drewN ?_ _) | (with_reducible refine Kd.C_drew ?_)))
      (case side2 => exact HC0.out)
      rintro e w42 ⟨v447, rfl, ho0, hb⟩
      refine ⟨_, rfl, ?_⟩
      have n0_ := Aside0.mk (Kd.R_lower ho0 (lqZ (by repeat (first | (with_reducible first | exact HB.out | apply lqA | apply lqN | apply lqD | refine lqS ?_ GE443.out) | exact HB.out))))
      have n1_ := Aside0.mk (bqB (g := gb443) (o := .cells #[.int .i64 a1_0, .int .i64 a1_1, .int .i64 a1_2] 24 (0, 0)) (by (with_reducible repeat (first | refine bqN ?_ _ | refine bqD ?_ | refine bqA ?_ _)); exact BK443.out) hb)
      have n2_ := Aside0.mk (lqT (by repeat (first | (with_reducible first | exact HB.out | apply lqA | apply lqN | apply lqD | refine lqS ?_ GE443.out) | exact HB.out)) hb)
      clear BK443
      clear HB
      have HO448 := n0_
      have BK443 := n1_
      have HB := n2_
      clear n0_ n1_ n2_
      (try clear hb)
      (try clear hb2)
      (try clear hk)
      (try clear hi)
      (try clear ho0)
      obtain ⟨Ao43, co43, eo43⟩ := Kd.R_slice HO448.out
      (first | subst eo43 | (injection eo43 with f1_ f2_ f3_; have f4_ := f1_.symm; have f5_ := f3_.symm; clear f1_ f2_ f3_; subst f4_; subst f5_))
      refine hK.out _ _ ⟨(bqC BK443.out 0).trans rfl, (bqC BK443.out 1).trans rfl, (bqC BK443.out 2).trans rfl⟩ (fun hHeld => ?_)
      clear hK K
      refine norm_ (a' := ?_) ?_ ?_
      rotate_left
      ·show Act.put _ (some 23) _ = _
       simp only [Act.put, List.setIfInBounds_toArray, List.set_cons_zero, List.set_cons_succ, i64_w, i32_w]
       rfl
      refine one_ (i := 8) (N := some 30) #[true, true, true, true, true, true, true, true, true, false, false, false, false, false] rfl rfl (one_of HT_.out (by kernel_rfl)) (by decide) (fun K hK => ?_)
      refine goes_ Try.func16 (by kernel_rfl) rfl #[.slice Ao43 t446.length co43, .int .i64 a1_0, .int .i64 a1_1, .int .i64 a1_2] (by rfl) rfl rfl (by (try simp only [List.map_toArray, List.map_cons, List.map_nil]); first | done | rfl | (simp only [List.length_drop, List.length_take]; rfl)) ?_
      with_reducible refine (seal_Unbroken.calls _ _ t446 a1_0 a1_1 a1_2 t449 t450 _ ?side1 ?side2 A14.out).mono ?_
      (case side1 => repeat (first | exact (Kd.R_reads' HO448.out).2.2 | (with_reducible refine Kd.C_alloc ?_ _) | (with_reducible refine Kd.C_drewN ?_ _) | (with_reducible refine Kd.C_drew ?_)))
      (case side2 => exact (Kd.R_reads' HO448.out).2.1)
      rintro e w44 ⟨rfl, hb⟩
      refine ⟨_, rfl, ?_⟩
      have n0_ := Aside0.mk (Kd.R_below (by (with_reducible repeat (first | apply Kd.R_alloc | apply Kd.R_drewN | apply Kd.R_drew)); exact HO448.out) hb)
      have n1_ := Aside0.mk (bqB (g := gb443) (o := .cells #[.int .i64 a1_0, .int .i64 a1_1, .int .i64 a1_2] 24 (0, 0)) (by (with_reducible repeat (first | refine bqN ?_ _ | refine bqD ?_ | refine bqA ?_ _)); exact BK443.out) hb)
      have n2_ := Aside0.mk (lqT (by repeat (first | (with_reducible first | exact HB.out | apply lqA | apply lqN | apply lqD | refine lqS ?_ GE443.out) | exact HB.out)) hb)
      clear HO448
      clear BK443
      clear HB
      have HO448 := n0_
      have BK443 := n1_
      have HB := n2_
      clear n0_ n1_ n2_
      (try clear hb)
      (try clear hb2)
      (try clear hk)
      (try clear hi)
      refine hK.out _ _ ⟨(bqC BK443.out 0).trans rfl, (bqC BK443.out 1).trans rfl, (bqC BK443.out 2).trans rfl⟩ (fun hHeld => ?_)
      clear hK K
      refine norm_ (a' := ?_) ?_ ?_
      rotate_left
      ·show Act.put _ (some 30) _ = _
       simp only [Act.put, List.setIfInBounds_toArray, List.set_cons_zero, List.set_cons_succ, i64_w, i32_w]
       rfl
      refine pure_ (i := 9) (N := some 21) (v := ?_) (a' := ?_) #[true, true, true, true, true, true, true, true, true, true, false, false, false, false] rfl rfl (any_of HT_.out (by kernel_rfl)) (fun _ _ _ h => h) (Or.inl ⟨by rfl, ?_⟩) ?_ ?_
      rotate_left
      ·intro w'
       go_simp
       with_reducible rfl
      rotate_left
      ·simp only [Act.put, List.setIfInBounds_toArray, List.set_cons_zero, List.set_cons_succ, i64_w, i32_w]
       rfl
      refine pure_ (i := 10) (N := some 31) (v := ?_) (a' := ?_) #[true, true, true, true, true, true, true, true, true, true, true, false, false, false] rfl rfl (any_of HT_.out (by kernel_rfl)) (fun _ _ _ h => h) (Or.inl ⟨by rfl, ?_⟩) ?_ ?_
      rotate_left
      ·intro w'
       go_simp
       with_reducible rfl
      rotate_left
      ·simp only [Act.put, List.setIfInBounds_toArray, List.set_cons_zero, List.set_cons_succ, i64_w, i32_w]
       rfl
      refine pure_ (i := 11) (N := some 32) (v := ?_) (a' := ?_) #[true, true, true, true, true, true, true, true, true, true, true, true, false, false] rfl rfl (any_of HT_.out (by kernel_rfl)) (fun _ _ _ h => h) (Or.inl ⟨by rfl, ?_⟩) ?_ ?_
      rotate_left
      ·intro w'
       go_simp
       with_reducible rfl
      rotate_left
      ·simp only [Act.put, List.setIfInBounds_toArray, List.set_cons_zero, List.set_cons_succ, i64_w, i32_w]
       rfl
      refine pure_ (i := 12) (N := some 5) (v := ?_) (a' := ?_) #[true, true, true, true, true, true, true, true, true, true, true, true, true, false] rfl rfl (any_of HT_.out (by kernel_rfl)) (fun _ _ _ h => h) (Or.inl ⟨by rfl, ?_⟩) ?_ ?_
      rotate_left
      ·intro w'
       go_simp
       with_reducible rfl
      rotate_left
      ·simp only [Act.put, List.setIfInBounds_toArray, List.set_cons_zero, List.set_cons_succ, i64_w, i32_w]
       rfl
      refine pure_ (i := 13) (N := some 6) (v := ?_) (a' := ?_) #[true, true, true, true, true, true, true, true, true, true, true, true, true, true] rfl rfl (any_of HT_.out (by kernel_rfl)) (fun _ _ _ h => h) (Or.inl ⟨by rfl, ?_⟩) ?_ ?_
      rotate_left
      ·intro w'
       go_simp
       with_reducible rfl
      rotate_left
      ·simp only [Act.put, List.setIfInBounds_toArray, List.set_cons_zero, List.set_cons_succ, i64_w, i32_w]
       rfl
      refine done_ (done_of HT_.out (by kernel_rfl)) ?_
      try go_wp2
      go_ret
      exact ⟨by first | rfl | (simp [errW_none, errW_some] <;> rfl) | (simp [*, errW_none, errW_some] <;> rfl), by repeat (first | (with_reducible first | exact HB.out | apply lqA | apply lqN | apply lqD | refine lqS ?_ GE443.out) | exact HB.out)⟩
 ·replace c4 := Bool.eq_false_iff.mpr c4
  subst c4
  have H1 : (none) = some r := by rw [if_neg (show ¬ (false = true) by decide)] at H; exact H
  clear H
  have H := H1
  clear H1
  exact absurd H (by simp)

end Go.Proofs.Ytfjenooajbdcmaa.K
