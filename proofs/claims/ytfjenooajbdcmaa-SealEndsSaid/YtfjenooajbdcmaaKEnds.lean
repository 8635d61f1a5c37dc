-- PRINTED by print.py (a twelfth state) out of the translation. Not trusted: Lean checks it.
import Derived.Test.YtfjenooajbdcmaaK0
import Derived.Test.YtfjenooajbdcmaaGShort
import Derived.Test.YtfjenooajbdcmaaK9
import Derived.Test.YtfjenooajbdcmaaGHistory
import Derived.Test.YtfjenooajbdcmaaGContB
import Derived.Test.YtfjenooajbdcmaaGIntact
namespace Go.Proofs.Ytfjenooajbdcmaa.K
open Go.RowKit Go.Proofs.YtfjenooajbdcmaaW.PrintWords Go.Proofs.YtfjenooajbdcmaaW.PrintLast Go.Proofs.YtfjenooajbdcmaaW.PrintMore
attribute [local go_sem] max2_int min2_int max_two min_two max_three min_three max_four min_four   -- for this text's walks alone
set_option linter.unusedVariables false
set_option linter.unusedSimpArgs false

/-! ### spilelaw39_SealEnds: function 6 -/
mutual
def spilelaw39_SealEnds.j0 : Nat → List (S34) → Int → Bool → Int → Int → Int → Option (Bool)
 | 0, _, _, _, _, _, _ => none
 | k + 1, x0, x2, x30, x407000, x407001, x407002 => if x30 = true then (some true) else ((clone34.f x0).bind fun t408 => ((seal_Intact.f t408 x407000 x407001).bind fun bt411 => ((clone34.f x0).bind fun t415 => ((seal_Intact.f t415 x407000 x407002).bind fun bt418 => ((clone34.f x0).bind fun t423 => ((seal_Intact.f t423 x407000 x2).bind fun bt426 => (if bt411.2 = 0 then (if bt418.2 = 0 then (spilelaw39_SealEnds.j1 k bt411.1 bt411.2 bt418.2 bt418.1 bt426.1 (bt426.2 != 0)) else (spilelaw39_SealEnds.j1 k bt411.1 bt411.2 bt418.2 bt418.1 bt426.1 true)) else (spilelaw39_SealEnds.j1 k bt411.1 bt411.2 bt418.2 bt418.1 bt426.1 true))))))))
def spilelaw39_SealEnds.j1 : Nat → List Int → Int → Int → List Int → List Int → Bool → Option (Bool)
 | 0, _, _, _, _, _, _ => none
 | k + 1, x7, x8, x10, x49, x58, x69 => if x69 = true then (if x8 = 0 then (if x10 = 0 then (some ((x58.length : Int) == 0)) else (if (x49.length : Int) = 0 then (some true) else (some ((x58.length : Int) == 0)))) else (if (x7.length : Int) = 0 then (some true) else (if x10 = 0 then (some ((x58.length : Int) == 0)) else (if (x49.length : Int) = 0 then (some true) else (some ((x58.length : Int) == 0)))))) else ((contC.f x7 x49 x58).bind fun t431 => (some (!t431)))
end
def spilelaw39_SealEnds.f (k : Nat) (l0 : List (S34)) (a1_0 : Int) (a1_1 : Int) (a1_2 : Int) (a2 : Int) : Option (Bool) := (spilelaw39_awake.f k).bind fun t407 => (if t407 = true then (if (l0.length : Int) > 20 then (spilelaw39_SealEnds.j0 k l0 a2 true a1_0 a1_1 a1_2) else (if a2 < a1_2 then (spilelaw39_SealEnds.j0 k l0 a2 true a1_0 a1_1 a1_2) else (spilelaw39_SealEnds.j0 k l0 a2 (decide (a1_2 < a1_1)) a1_0 a1_1 a1_2))) else (none))
theorem spilelaw39_SealEnds.mono_l : ∀ k, (∀ y0 y1 y2 y3 y4 y5, LeO (spilelaw39_SealEnds.j0 k y0 y1 y2 y3 y4 y5) (spilelaw39_SealEnds.j0 (k + 1) y0 y1 y2 y3 y4 y5)) ∧ (∀ y0 y1 y2 y3 y4 y5, LeO (spilelaw39_SealEnds.j1 k y0 y1 y2 y3 y4 y5) (spilelaw39_SealEnds.j1 (k + 1) y0 y1 y2 y3 y4 y5))
 | 0 => ⟨fun _ _ _ _ _ _ r h => by simp [spilelaw39_SealEnds.j0] at h, fun _ _ _ _ _ _ r h => by simp [spilelaw39_SealEnds.j1] at h⟩
 | k + 1 => by
  obtain ⟨ih0, ih1⟩ := spilelaw39_SealEnds.mono_l k
  refine ⟨?_, ?_⟩
  ·intro y0 y1 y2 y3 y4 y5
   unfold spilelaw39_SealEnds.j0
   repeat' first
   | (with_reducible exact ih0 _ _ _ _ _ _)
   | (with_reducible exact ih1 _ _ _ _ _ _)
   | (with_reducible exact spilelaw39_awake.mono _)
   | (with_reducible exact LeO.refl _)
   | (with_reducible exact LeO.none _)
   | (with_reducible refine LeO.ite ?_ ?_)
   | (with_reducible refine LeO.bind ?_ (fun _ => ?_))
   | exact ih0 _ _ _ _ _ _
   | exact ih1 _ _ _ _ _ _
   | exact spilelaw39_awake.mono _
   | exact LeO.none _
   | refine LeO.ite ?_ ?_
   | refine LeO.bind ?_ (fun _ => ?_)
  ·intro y0 y1 y2 y3 y4 y5
   unfold spilelaw39_SealEnds.j1
   repeat' first
   | (with_reducible exact ih0 _ _ _ _ _ _)
   | (with_reducible exact ih1 _ _ _ _ _ _)
   | (with_reducible exact spilelaw39_awake.mono _)
   | (with_reducible exact LeO.refl _)
   | (with_reducible exact LeO.none _)
   | (with_reducible refine LeO.ite ?_ ?_)
   | (with_reducible refine LeO.bind ?_ (fun _ => ?_))
   | exact ih0 _ _ _ _ _ _
   | exact ih1 _ _ _ _ _ _
   | exact spilelaw39_awake.mono _
   | exact LeO.none _
   | refine LeO.ite ?_ ?_
   | refine LeO.bind ?_ (fun _ => ?_)
theorem spilelaw39_SealEnds.mono : ∀ a0 a1 a2 a3 a4 k, LeO (spilelaw39_SealEnds.f k a0 a1 a2 a3 a4) (spilelaw39_SealEnds.f (k + 1) a0 a1 a2 a3 a4) := by
 intro a0 a1 a2 a3 a4 k
 obtain ⟨ih0, ih1⟩ := spilelaw39_SealEnds.mono_l k
 unfold spilelaw39_SealEnds.f
 repeat' first
   | (with_reducible exact ih0 _ _ _ _ _ _)
   | (with_reducible exact ih1 _ _ _ _ _ _)
   | (with_reducible exact spilelaw39_awake.mono _)
   | (with_reducible exact LeO.refl _)
   | (with_reducible exact LeO.none _)
   | (with_reducible refine LeO.ite ?_ ?_)
   | (with_reducible refine LeO.bind ?_ (fun _ => ?_))
   | exact ih0 _ _ _ _ _ _
   | exact ih1 _ _ _ _ _ _
   | exact spilelaw39_awake.mono _
   | exact LeO.none _
   | refine LeO.ite ?_ ?_
   | refine LeO.bind ?_ (fun _ => ?_)
def spilelaw39_SealEnds.T5 : Bool × List (List Nat × List Nat) := (true, [([], []), ([0], [0]), ([], []), ([2], [2]), ([], []), ([4], [4]), ([1, 3, 5, 1], [1, 3, 5]), ([6], [6]), ([7], [7]), ([7], [7]), ([8, 6, 0, 1, 2, 3, 4, 5, 6, 7, 8], [8]), ([9, 10, 0, 1, 2, 3, 4, 5, 6, 7, 8, 9, 10], [9])])
def spilelaw39_SealEnds.B5 : List Nat := [0, 1, 0, 4, 0, 16, 63, 127, 255, 255, 511, 2047]
theorem spilelaw39_SealEnds.tab5 : rtab .any (opsOf Try.f6 5) = spilelaw39_SealEnds.T5 := by kernel_rfl
theorem spilelaw39_SealEnds.bits5 : waitsOk spilelaw39_SealEnds.T5.2 spilelaw39_SealEnds.B5 = true := by kernel_rfl
def spilelaw39_SealEnds.T6 : Bool × List (List Nat × List Nat) := (true, [([], []), ([0], [0]), ([], []), ([2], [2]), ([], []), ([4], [4]), ([1, 3, 5, 1], [1, 3, 5]), ([6], [6]), ([7], [7]), ([7], [7]), ([], []), ([10, 8, 6, 0, 1, 2, 3, 4, 5, 6, 7, 8, 10], [8, 10]), ([9, 11, 0, 1, 2, 3, 4, 5, 6, 7, 8, 9, 10, 11], [9])])
def spilelaw39_SealEnds.B6 : List Nat := [0, 1, 0, 4, 0, 16, 63, 127, 255, 255, 0, 1535, 4095]
theorem spilelaw39_SealEnds.tab6 : rtab .any (opsOf Try.f6 6) = spilelaw39_SealEnds.T6 := by kernel_rfl
theorem spilelaw39_SealEnds.bits6 : waitsOk spilelaw39_SealEnds.T6.2 spilelaw39_SealEnds.B6 = true := by kernel_rfl
def spilelaw39_SealEnds.T7 : Bool × List (List Nat × List Nat) := (true, [([], []), ([0], [0]), ([], []), ([2], [2]), ([], []), ([1, 3, 4, 1], [1, 3, 4]), ([5], [5]), ([6], [6]), ([6], [6]), ([], []), ([9, 7, 5, 0, 1, 2, 3, 4, 5, 6, 7, 9], [7, 9]), ([8, 10, 0, 1, 2, 3, 4, 5, 6, 7, 8, 9, 10], [8])])
def spilelaw39_SealEnds.B7 : List Nat := [0, 1, 0, 4, 0, 31, 63, 127, 127, 0, 767, 2047]
theorem spilelaw39_SealEnds.tab7 : rtab .any (opsOf Try.f6 7) = spilelaw39_SealEnds.T7 := by kernel_rfl
theorem spilelaw39_SealEnds.bits7 : waitsOk spilelaw39_SealEnds.T7.2 spilelaw39_SealEnds.B7 = true := by kernel_rfl
set_option maxHeartbeats 8000000 in
set_option maxRecDepth 100000 in
theorem spilelaw39_SealEnds.calls (k : Nat) (A0 : Option Addr) (c0 : Nat) (l0 : List (S34)) (a1_0 : Int) (a1_1 : Int) (a1_2 : Int) (a2 : Int) (r : Bool) (w : World) (hr0 : Kd.C k34 w A0 l0.length l0) (hc0 : l0.length ≤ c0) (h : spilelaw39_SealEnds.f k l0 a1_0 a1_1 a1_2 a2 = some r) :
  Calls Try.prog 6 #[.slice A0 l0.length c0, .agg #[.int .i64 a1_0, .int .i64 a1_1, .int .i64 a1_2], .int .i64 a2] w fun e w' => e = .returned (.bool r) ∧ Below w.heap.size w w' := by
 have hu24 := Try.underlying24
 have HR0 := Aside0.mk hr0
 have HC0 := Aside0.mk hc0
 clear hr0 hc0
 have HB := Aside0.mk (Below.refl w.heap.size w)
 have H : ((spilelaw39_awake.f k).bind fun t407 => (if t407 = true then (if (l0.length : Int) > 20 then (spilelaw39_SealEnds.j0 k l0 a2 true a1_0 a1_1 a1_2) else (if a2 < a1_2 then (spilelaw39_SealEnds.j0 k l0 a2 true a1_0 a1_1 a1_2) else (spilelaw39_SealEnds.j0 k l0 a2 (decide (a1_2 < a1_1)) a1_0 a1_1 a1_2))) else (none))) = some r := h
 clear h
 replace H := Option.bind_eq_some_iff.mp H
 obtain ⟨t407, A40, H⟩ := H
 replace H : (if t407 = true then (if (l0.length : Int) > 20 then (spilelaw39_SealEnds.j0 k l0 a2 true a1_0 a1_1 a1_2) else (if a2 < a1_2 then (spilelaw39_SealEnds.j0 k l0 a2 true a1_0 a1_1 a1_2) else (spilelaw39_SealEnds.j0 k l0 a2 (decide (a1_2 < a1_1)) a1_0 a1_1 a1_2))) else (none)) = some r := H
 have A4 := Aside0.mk A40
 clear A40
 by_cases c5 : t407 = true
 ·subst c5
  have H1 : (if (l0.length : Int) > 20 then (spilelaw39_SealEnds.j0 k l0 a2 true a1_0 a1_1 a1_2) else (if a2 < a1_2 then (spilelaw39_SealEnds.j0 k l0 a2 true a1_0 a1_1 a1_2) else (spilelaw39_SealEnds.j0 k l0 a2 (decide (a1_2 < a1_1)) a1_0 a1_1 a1_2))) = some r := by rw [if_pos rfl] at H; exact H
  clear H
  have H := H1
  clear H1
  have HC6 := Aside0.mk H
  clear H
  go_enter Try.func6, Try.ntmps6
  go_upto_region 3 with (first | ((with_reducible refine gqD (N := 4) rfl ?_); (try (refine gate_guard (by rfl) ?_; dsimp only)); refine box_event ?hg (N := 4) ?hd (cs := #[.int .i64 a1_0, .int .i64 a1_1, .int .i64 a1_2]) (t := 24) ?hr ?_; (case hd => rfl); (case hg => rfl); (case hr => first | (go_simp; done) | (go_simp; rfl)); intro gb406 hg w7 hbox hb; have n0_ := Aside0.mk (lqT (by repeat (first | (with_reducible first | exact HB.out | apply lqA | apply lqN | apply lqD) | exact HB.out)) hb); have n1_ := Aside0.mk (hbox); have n2_ := Aside0.mk ((by rw [hg]; exact (lqZ (by repeat (first | (with_reducible first | exact HB.out | apply lqA | apply lqN | apply lqD) | exact HB.out))) : w.heap.size ≤ gb406)); have n3_ := Aside0.mk ((by rw [hg]; exact (lqZ (by repeat (first | (with_reducible first | exact HB.out | apply lqA | apply lqN | apply lqD) | exact HB.out))) : w.heap.size ≤ gb406)); clear HB; have HB := n0_; have BK406 := n1_; have GW406 := n2_; have GE406 := n3_; clear n0_ n1_ n2_ n3_; clear hb hbox hg) | ((with_reducible refine gqC (f := 10) rfl ?_); refine goesL_ (some 13) rfl rfl Try.func10 (by kernel_rfl) rfl #[] rfl (by (try simp only [List.map_toArray, List.map_cons, List.map_nil]); first | done | rfl | (simp only [List.length_drop, List.length_take]; rfl)) ?_; (with_reducible refine (spilelaw39_awake.calls k  true _ A4.out).mono ?_); rintro e w8 ⟨rfl, hb⟩; refine ⟨_, rfl, ?_⟩; have n0_ := Aside0.mk (bqB (g := gb406) (o := .cells #[.int .i64 a1_0, .int .i64 a1_1, .int .i64 a1_2] 24 (0, 0)) (by (with_reducible repeat (first | refine bqN ?_ _ | refine bqD ?_ | refine bqA ?_ _)); exact BK406.out) hb); have n1_ := Aside0.mk (lqT (by repeat (first | (with_reducible first | exact HB.out | apply lqA | apply lqN | apply lqD | refine lqS ?_ GE406.out) | exact HB.out)) hb); clear BK406; clear HB; have BK406 := n0_; have HB := n1_; clear n0_ n1_; (try clear hb); (try clear hb2); (try clear hk); (try clear hi)))
  (try simp only [Act.put, List.setIfInBounds_toArray, List.set_cons_zero, List.set_cons_succ])
  go_cut [30] (fun v30 wc => ∃ (kq : Nat) (x30_5 : Bool), v30 = .bool x30_5 ∧ Aside0 (spilelaw39_SealEnds.j0 kq l0 a2 x30_5 a1_0 a1_1 a1_2 = some r) ∧ Aside0 (kq ≤ k) ∧ Aside0 (wc.heap[gb406]? = some (.cells #[.int .i64 a1_0, .int .i64 a1_1, .int .i64 a1_2] 24 (0, 0))) ∧ Aside0 (Below w.heap.size w wc))
  case first =>
   have H := HC6.out
   clear HC6
   by_cases c9 : (l0.length : Int) > 20
   ·rw [if_pos c9] at H
    have c9b0 : decide (20 < (l0.length : Int)) = true := decide_eq_true c9
    have c9b1 : decide (20 < l0.length) = true := decide_eq_true (by omega)
    clear c9
    (first | rw [c9b0] | (simp only [i64_w, i32_w]; rw [c9b0]) | skip)
    have H' := Aside0.mk H
    clear H
    go_wp2
    go_meet
    case rel => exact ⟨_, (true), (by first | rfl | (simp; done) | (simp [*]; done)), H', ⟨by first | omega | exact Nat.le_refl _⟩, ⟨by (with_reducible repeat (first | refine bqN ?_ _ | refine bqD ?_ | refine bqA ?_ _)); exact BK406.out⟩, ⟨by repeat (first | (with_reducible first | exact HB.out | apply lqA | apply lqN | apply lqD | refine lqS ?_ GE406.out) | exact HB.out)⟩⟩
   ·rw [if_neg c9] at H
    have c9b0 : decide (20 < (l0.length : Int)) = false := decide_eq_false c9
    have c9b1 : decide (20 < l0.length) = false := decide_eq_false (by omega)
    clear c9
    (first | rw [c9b0] | (simp only [i64_w, i32_w]; rw [c9b0]) | skip)
    by_cases c10 : a2 < a1_2
    ·rw [if_pos c10] at H
     have c10b0 : decide (a2 < a1_2) = true := decide_eq_true c10
     clear c10
     have H' := Aside0.mk H
     clear H
     have hcz11_0 : w8.cell? ⟨gb406, 0, none⟩ = some (.int .i64 a1_0) := (bqC BK406.out 0).trans rfl
     have hcz11_1 : w8.cell? ⟨gb406, 1, none⟩ = some (.int .i64 a1_1) := (bqC BK406.out 1).trans rfl
     have hcz11_2 : w8.cell? ⟨gb406, 2, none⟩ = some (.int .i64 a1_2) := (bqC BK406.out 2).trans rfl
     have hfz11_0 := bqF BK406.out 0
     have hfz11_1 := bqF BK406.out 1
     have hfz11_2 := bqF BK406.out 2
     go_wp2
     go_meet
     case rel => exact ⟨_, (true), (by first | rfl | (simp; done) | (simp [*]; done)), H', ⟨by first | omega | exact Nat.le_refl _⟩, ⟨by (with_reducible repeat (first | refine bqN ?_ _ | refine bqD ?_ | refine bqA ?_ _)); exact BK406.out⟩, ⟨by repeat (first | (with_reducible first | exact HB.out | apply lqA | apply lqN | apply lqD | refine lqS ?_ GE406.out) | exact HB.out)⟩⟩
    ·rw [if_neg c10] at H
     have c10b0 : decide (a2 < a1_2) = false := decide_eq_false c10
     clear c10
     have H' := Aside0.mk H
     clear H
     have hcz12_0 : w8.cell? ⟨gb406, 0, none⟩ = some (.int .i64 a1_0) := (bqC BK406.out 0).trans rfl
     have hcz12_1 : w8.cell? ⟨gb406, 1, none⟩ = some (.int .i64 a1_1) := (bqC BK406.out 1).trans rfl
     have hcz12_2 : w8.cell? ⟨gb406, 2, none⟩ = some (.int .i64 a1_2) := (bqC BK406.out 2).trans rfl
     have hfz12_0 := bqF BK406.out 0
     have hfz12_1 := bqF BK406.out 1
     have hfz12_2 := bqF BK406.out 2
     go_wp2
     go_meet
     case rel => exact ⟨_, (decide (a1_2 < a1_1)), (by first | rfl | (simp; done) | (simp [*]; done)), H', ⟨by first | omega | exact Nat.le_refl _⟩, ⟨by (with_reducible repeat (first | refine bqN ?_ _ | refine bqD ?_ | refine bqA ?_ _)); exact BK406.out⟩, ⟨by repeat (first | (with_reducible first | exact HB.out | apply lqA | apply lqN | apply lqD | refine lqS ?_ GE406.out) | exact HB.out)⟩⟩
  case rest =>
   clear HC6
   try clear c1
   try clear p2
   try clear c5
   try clear c6
   try clear c9
   try clear c9b0
   try clear c9b1
   try clear c10
   try clear c10b0
   try clear hcz11_0
   try clear hcz11_1
   try clear hcz11_2
   try clear hcz12_0
   try clear hcz12_1
   try clear hcz12_2
   try clear hfz11_0
   try clear hfz11_1
   try clear hfz11_2
   try clear hfz12_0
   try clear hfz12_1
   try clear hfz12_2
   obtain ⟨kq, x30_5, rfl, HA, HJ5, BK406, HB⟩ := hcut
   cases kq with
   | zero => exact absurd HA.out (by simp [spilelaw39_SealEnds.j0])
   | succ kj5 =>
    have H := HA.out
    clear HA
    simp only [spilelaw39_SealEnds.j0] at H
    by_cases c13 : x30_5 = true
    ·subst c13
     have H1 : (some true) = some r := by rw [if_pos rfl] at H; exact H
     clear H
     have H := H1
     clear H1
     obtain rfl := Option.some.inj H
     go_wp2
     go_ret
     exact ⟨by first | rfl | (simp [errW_none, errW_some] <;> rfl) | (simp [*, errW_none, errW_some] <;> rfl), by repeat (first | (with_reducible first | exact HB.out | apply lqA | apply lqN | apply lqD | refine lqS ?_ GE406.out) | exact HB.out)⟩
    ·replace c13 := Bool.eq_false_iff.mpr c13
     subst c13
     have H1 : ((clone34.f l0).bind fun t408 => ((seal_Intact.f t408 a1_0 a1_1).bind fun bt411 => ((clone34.f l0).bind fun t415 => ((seal_Intact.f t415 a1_0 a1_2).bind fun bt418 => ((clone34.f l0).bind fun t423 => ((seal_Intact.f t423 a1_0 a2).bind fun bt426 => (if bt411.2 = 0 then (if bt418.2 = 0 then (spilelaw39_SealEnds.j1 kj5 bt411.1 bt411.2 bt418.2 bt418.1 bt426.1 (bt426.2 != 0)) else (spilelaw39_SealEnds.j1 kj5 bt411.1 bt411.2 bt418.2 bt418.1 bt426.1 true)) else (spilelaw39_SealEnds.j1 kj5 bt411.1 bt411.2 bt418.2 bt418.1 bt426.1 true)))))))) = some r := by rw [if_neg (show ¬ (false = true) by decide)] at H; exact H
     clear H
     have H := H1
     clear H1
     replace H := Option.bind_eq_some_iff.mp H
     obtain ⟨t408, A140, H⟩ := H
     replace H : ((seal_Intact.f t408 a1_0 a1_1).bind fun bt411 => ((clone34.f l0).bind fun t415 => ((seal_Intact.f t415 a1_0 a1_2).bind fun bt418 => ((clone34.f l0).bind fun t423 => ((seal_Intact.f t423 a1_0 a2).bind fun bt426 => (if bt411.2 = 0 then (if bt418.2 = 0 then (spilelaw39_SealEnds.j1 kj5 bt411.1 bt411.2 bt418.2 bt418.1 bt426.1 (bt426.2 != 0)) else (spilelaw39_SealEnds.j1 kj5 bt411.1 bt411.2 bt418.2 bt418.1 bt426.1 true)) else (spilelaw39_SealEnds.j1 kj5 bt411.1 bt411.2 bt418.2 bt418.1 bt426.1 true))))))) = some r := H
     have A14 := Aside0.mk A140
     clear A140
     replace H := Option.bind_eq_some_iff.mp H
     obtain ⟨⟨t411, t412⟩, A150, H⟩ := H
     replace H : ((clone34.f l0).bind fun t415 => ((seal_Intact.f t415 a1_0 a1_2).bind fun bt418 => ((clone34.f l0).bind fun t423 => ((seal_Intact.f t423 a1_0 a2).bind fun bt426 => (if t412 = 0 then (if bt418.2 = 0 then (spilelaw39_SealEnds.j1 kj5 t411 t412 bt418.2 bt418.1 bt426.1 (bt426.2 != 0)) else (spilelaw39_SealEnds.j1 kj5 t411 t412 bt418.2 bt418.1 bt426.1 true)) else (spilelaw39_SealEnds.j1 kj5 t411 t412 bt418.2 bt418.1 bt426.1 true)))))) = some r := H
     have A15 := Aside0.mk A150
     clear A150
     replace H := Option.bind_eq_some_iff.mp H
     obtain ⟨t415, A160, H⟩ := H
     replace H : ((seal_Intact.f t415 a1_0 a1_2).bind fun bt418 => ((clone34.f l0).bind fun t423 => ((seal_Intact.f t423 a1_0 a2).bind fun bt426 => (if t412 = 0 then (if bt418.2 = 0 then (spilelaw39_SealEnds.j1 kj5 t411 t412 bt418.2 bt418.1 bt426.1 (bt426.2 != 0)) else (spilelaw39_SealEnds.j1 kj5 t411 t412 bt418.2 bt418.1 bt426.1 true)) else (spilelaw39_SealEnds.j1 kj5 t411 t412 bt418.2 bt418.1 bt426.1 true))))) = some r := H
     have A16 := Aside0.mk A160
     clear A160
     replace H := Option.bind_eq_some_iff.mp H
     obtain ⟨⟨t418, t419⟩, A170, H⟩ := H
     replace H : ((clone34.f l0).bind fun t423 => ((seal_Intact.f t423 a1_0 a2).bind fun bt426 => (if t412 = 0 then (if t419 = 0 then (spilelaw39_SealEnds.j1 kj5 t411 t412 t419 t418 bt426.1 (bt426.2 != 0)) else (spilelaw39_SealEnds.j1 kj5 t411 t412 t419 t418 bt426.1 true)) else (spilelaw39_SealEnds.j1 kj5 t411 t412 t419 t418 bt426.1 true)))) = some r := H
     have A17 := Aside0.mk A170
     clear A170
     replace H := Option.bind_eq_some_iff.mp H
     obtain ⟨t423, A180, H⟩ := H
     replace H : ((seal_Intact.f t423 a1_0 a2).bind fun bt426 => (if t412 = 0 then (if t419 = 0 then (spilelaw39_SealEnds.j1 kj5 t411 t412 t419 t418 bt426.1 (bt426.2 != 0)) else (spilelaw39_SealEnds.j1 kj5 t411 t412 t419 t418 bt426.1 true)) else (spilelaw39_SealEnds.j1 kj5 t411 t412 t419 t418 bt426.1 true))) = some r := H
     have A18 := Aside0.mk A180
     clear A180
     replace H := Option.bind_eq_some_iff.mp H
     obtain ⟨⟨t426, t427⟩, A190, H⟩ := H
     replace H : (if t412 = 0 then (if t419 = 0 then (spilelaw39_SealEnds.j1 kj5 t411 t412 t419 t418 t426 (t427 != 0)) else (spilelaw39_SealEnds.j1 kj5 t411 t412 t419 t418 t426 true)) else (spilelaw39_SealEnds.j1 kj5 t411 t412 t419 t418 t426 true)) = some r := H
     have A19 := Aside0.mk A190
     clear A190
     have HC20 := Aside0.mk H
     clear H
     try go_wp2
     have n0_ := Aside0.mk (bqD BK406.out)
     have n1_ := Aside0.mk (lqD HB.out)
     clear BK406
     clear HB
     have BK406 := n0_
     have HB := n1_
     clear n0_ n1_
     refine start_ (n := 12) (S := fun w' => w'.cell? ⟨gb406, 0, none⟩ = some (.int .i64 a1_0) ∧ w'.cell? ⟨gb406, 1, none⟩ = some (.int .i64 a1_1) ∧ w'.cell? ⟨gb406, 2, none⟩ = some (.int .i64 a1_2)) (ds := []) #[false, false, false, false, false, false, false, false, false, false, false, false] (by kernel_rfl) rfl rfl ⟨(bqC BK406.out 0).trans rfl, (bqC BK406.out 1).trans rfl, (bqC BK406.out 2).trans rfl⟩ (fun hHeld => ?_); refine with_tabW spilelaw39_SealEnds.tab5 spilelaw39_SealEnds.bits5 (fun HT_ HW_ => ?_)
     generalize wc.drew = w21 at BK406 HB hHeld ⊢
     refine pure_ (i := 0) (N := some 32) (v := ?_) (a' := ?_) #[true, false, false, false, false, false, false, false, false, false, false, false] rfl rfl (any_of HT_.out (by kernel_rfl)) (fun _ _ _ h => h) (Or.inl ⟨by rfl, ?_⟩) ?_ ?_
     rotate_left
     ·intro w'
      go_simp
      with_reducible rfl
     rotate_left
     ·simp only [Act.put, List.setIfInBounds_toArray, List.set_cons_zero, List.set_cons_succ, i64_w, i32_w]
      rfl
     refine pure_ (i := 2) (N := some 34) (v := ?_) (a' := ?_) #[true, false, true, false, false, false, false, false, false, false, false, false] rfl rfl (any_of HT_.out (by kernel_rfl)) (fun _ _ _ h => h) (Or.inl ⟨by rfl, ?_⟩) ?_ ?_
     rotate_left
     ·intro w'
      go_simp
      with_reducible rfl
     rotate_left
     ·simp only [Act.put, List.setIfInBounds_toArray, List.set_cons_zero, List.set_cons_succ, i64_w, i32_w]
      rfl
     refine pure_ (i := 4) (N := some 36) (v := ?_) (a' := ?_) #[true, false, true, false, true, false, false, false, false, false, false, false] rfl rfl (any_of HT_.out (by kernel_rfl)) (fun _ _ _ h => h) (Or.inl ⟨by rfl, ?_⟩) ?_ ?_
     rotate_left
     ·intro w'
      go_simp
      with_reducible rfl
     rotate_left
     ·simp only [Act.put, List.setIfInBounds_toArray, List.set_cons_zero, List.set_cons_succ, i64_w, i32_w]
      rfl
     refine take_ (i := 3) (N := some 35) (v := ?_) (a' := ?_) #[true, false, true, true, true, false, false, false, false, false, false, false] rfl rfl (take_ofW HT_.out HW_.out (by kernel_rfl)) (fun _ _ _ h => h) (Or.inl ⟨by rfl, ?_⟩) hHeld ?_ ?_
     rotate_left
     ·rintro w' ⟨s0, s1, s2⟩
      go_simp
      with_reducible rfl
     rotate_left
     ·simp only [Act.put, List.setIfInBounds_toArray, List.set_cons_zero, List.set_cons_succ, i64_w, i32_w]
      rfl
     refine take_ (i := 5) (N := some 37) (v := ?_) (a' := ?_) #[true, false, true, true, true, true, false, false, false, false, false, false] rfl rfl (take_ofW HT_.out HW_.out (by kernel_rfl)) (fun _ _ _ h => h) (Or.inl ⟨by rfl, ?_⟩) hHeld ?_ ?_
     rotate_left
     ·rintro w' ⟨s0, s1, s2⟩
      go_simp
      with_reducible rfl
     rotate_left
     ·simp only [Act.put, List.setIfInBounds_toArray, List.set_cons_zero, List.set_cons_succ, i64_w, i32_w]
      rfl
     refine one_ (i := 1) (N := some 33) #[true, true, true, true, true, true, false, false, false, false, false, false] rfl rfl (one_of HT_.out (by kernel_rfl)) (by decide) (fun K hK => ?_)
     refine goes_ Try.func14 (by kernel_rfl) rfl #[.slice A0 l0.length c0] (by rfl) rfl rfl (by (try simp only [List.map_toArray, List.map_cons, List.map_nil]); first | done | rfl | (simp only [List.length_drop, List.length_take]; rfl)) ?_
     with_reducible refine (clone34.calls _ _ l0 t408 _ ?side1 ?side2 A14.out).mono ?_
     (case side1 => repeat (first | exact (Kd.C_below HR0.out HB.out) | (with_reducible refine Kd.C_alloc ?_ _) | (with_reducible refine Kd.C_drewN ?_ _) | (with_reducible refine Kd.C_drew ?_)))
     (case side2 => exact HC0.out)
     rintro e w22 ⟨v409, rfl, ho0, hb⟩
     refine ⟨_, rfl, ?_⟩
     have n0_ := Aside0.mk (Kd.R_lower ho0 (lqZ (by repeat (first | (with_reducible first | exact HB.out | apply lqA | apply lqN | apply lqD | refine lqS ?_ GE406.out) | exact HB.out))))
     have n1_ := Aside0.mk (bqB (g := gb406) (o := .cells #[.int .i64 a1_0, .int .i64 a1_1, .int .i64 a1_2] 24 (0, 0)) (by (with_reducible repeat (first | refine bqN ?_ _ | refine bqD ?_ | refine bqA ?_ _)); exact BK406.out) hb)
     have n2_ := Aside0.mk (lqT (by repeat (first | (with_reducible first | exact HB.out | apply lqA | apply lqN | apply lqD | refine lqS ?_ GE406.out) | exact HB.out)) hb)
     clear BK406
     clear HB
     have HO410 := n0_
     have BK406 := n1_
     have HB := n2_
     clear n0_ n1_ n2_
     (try clear hb)
     (try clear hb2)
     (try clear hk)
     (try clear hi)
     (try clear ho0)
     obtain ⟨Ao23, co23, eo23⟩ := Kd.R_slice HO410.out
     (first | subst eo23 | (injection eo23 with f1_ f2_ f3_; have f4_ := f1_.symm; have f5_ := f3_.symm; clear f1_ f2_ f3_; subst f4_; subst f5_))
     refine hK.out _ _ ⟨(bqC BK406.out 0).trans rfl, (bqC BK406.out 1).trans rfl, (bqC BK406.out 2).trans rfl⟩ (fun hHeld => ?_)
     clear hK K
     refine norm_ (a' := ?_) ?_ ?_
     rotate_left
     ·show Act.put _ (some 33) _ = _
      simp only [Act.put, List.setIfInBounds_toArray, List.set_cons_zero, List.set_cons_succ, i64_w, i32_w]
      rfl
     refine one_ (i := 6) (N := some 38) #[true, true, true, true, true, true, true, false, false, false, false, false] rfl rfl (one_of HT_.out (by kernel_rfl)) (by decide) (fun K hK => ?_)
     refine goes_ Try.func13 (by kernel_rfl) rfl #[.slice Ao23 t408.length co23, .int .i64 a1_0, .int .i64 a1_1] (by rfl) rfl rfl (by (try simp only [List.map_toArray, List.map_cons, List.map_nil]); first | done | rfl | (simp only [List.length_drop, List.length_take]; rfl)) ?_
     with_reducible refine (seal_Intact.calls _ _ t408 a1_0 a1_1 t411 t412 _ ?side1 ?side2 A15.out).mono ?_
     (case side1 => repeat (first | exact (Kd.R_reads' HO410.out).2.2 | (with_reducible refine Kd.C_alloc ?_ _) | (with_reducible refine Kd.C_drewN ?_ _) | (with_reducible refine Kd.C_drew ?_)))
     (case side2 => exact (Kd.R_reads' HO410.out).2.1)
     rintro e w24 ⟨v413, rfl, ho0, hb⟩
     refine ⟨_, rfl, ?_⟩
     have n0_ := Aside0.mk (Kd.R_below (by (with_reducible repeat (first | apply Kd.R_alloc | apply Kd.R_drewN | apply Kd.R_drew)); exact HO410.out) hb)
     have n1_ := Aside0.mk (Kd.R_lower ho0 (lqZ (by repeat (first | (with_reducible first | exact HB.out | apply lqA | apply lqN | apply lqD | refine lqS ?_ GE406.out) | exact HB.out))))
     have n2_ := Aside0.mk (bqB (g := gb406) (o := .cells #[.int .i64 a1_0, .int .i64 a1_1, .int .i64 a1_2] 24 (0, 0)) (by (with_reducible repeat (first | refine bqN ?_ _ | refine bqD ?_ | refine bqA ?_ _)); exact BK406.out) hb)
     have n3_ := Aside0.mk (lqT (by repeat (first | (with_reducible first | exact HB.out | apply lqA | apply lqN | apply lqD | refine lqS ?_ GE406.out) | exact HB.out)) hb)
     clear HO410
     clear BK406
     clear HB
     have HO410 := n0_
     have HO414 := n1_
     have BK406 := n2_
     have HB := n3_
     clear n0_ n1_ n2_ n3_
     (try clear hb)
     (try clear hb2)
     (try clear hk)
     (try clear hi)
     (try clear ho0)
     refine hK.out _ _ ⟨(bqC BK406.out 0).trans rfl, (bqC BK406.out 1).trans rfl, (bqC BK406.out 2).trans rfl⟩ (fun hHeld => ?_)
     clear hK K
     refine norm_ (a' := ?_) ?_ ?_
     rotate_left
     ·show Act.put _ (some 38) _ = _
      simp only [Act.put, List.setIfInBounds_toArray, List.set_cons_zero, List.set_cons_succ, i64_w, i32_w]
      rfl
     refine pure_ (i := 7) (N := some 31) (v := ?_) (a' := ?_) #[true, true, true, true, true, true, true, true, false, false, false, false] rfl rfl (any_of HT_.out (by kernel_rfl)) (fun _ _ _ h => h) (Or.inl ⟨by rfl, ?_⟩) ?_ ?_
     rotate_left
     ·intro w'
      go_simp
      with_reducible rfl
     rotate_left
     ·simp only [Act.put, List.setIfInBounds_toArray, List.set_cons_zero, List.set_cons_succ, i64_w, i32_w]
      rfl
     refine pure_ (i := 8) (N := some 39) (v := ?_) (a' := ?_) #[true, true, true, true, true, true, true, true, true, false, false, false] rfl rfl (any_of HT_.out (by kernel_rfl)) (fun _ _ _ h => h) (Or.inl ⟨by rfl, ?_⟩) ?_ ?_
     rotate_left
     ·intro w'
      go_simp
      with_reducible rfl
     rotate_left
     ·simp only [Act.put, List.setIfInBounds_toArray, List.set_cons_zero, List.set_cons_succ, i64_w, i32_w]
      rfl
     refine pure_ (i := 9) (N := some 40) (v := ?_) (a' := ?_) #[true, true, true, true, true, true, true, true, true, true, false, false] rfl rfl (any_of HT_.out (by kernel_rfl)) (fun _ _ _ h => h) (Or.inl ⟨by rfl, ?_⟩) ?_ ?_
     rotate_left
     ·intro w'
      go_simp
      with_reducible rfl
     rotate_left
     ·simp only [Act.put, List.setIfInBounds_toArray, List.set_cons_zero, List.set_cons_succ, i64_w, i32_w]
      rfl
     refine pure_ (i := 10) (N := some 7) (v := ?_) (a' := ?_) #[true, true, true, true, true, true, true, true, true, true, true, false] rfl rfl (any_of HT_.out (by kernel_rfl)) (fun _ _ _ h => h) (Or.inl ⟨by rfl, ?_⟩) ?_ ?_
     rotate_left
     ·intro w'
      go_simp
      with_reducible rfl
     rotate_left
     ·simp only [Act.put, List.setIfInBounds_toArray, List.set_cons_zero, List.set_cons_succ, i64_w, i32_w]
      rfl
     refine pure_ (i := 11) (N := some 8) (v := ?_) (a' := ?_) #[true, true, true, true, true, true, true, true, true, true, true, true] rfl rfl (any_of HT_.out (by kernel_rfl)) (fun _ _ _ h => h) (Or.inl ⟨by rfl, ?_⟩) ?_ ?_
     rotate_left
     ·intro w'
      go_simp
      with_reducible rfl
     rotate_left
     ·simp only [Act.put, List.setIfInBounds_toArray, List.set_cons_zero, List.set_cons_succ, i64_w, i32_w]
      rfl
     refine done_ (done_of HT_.out (by kernel_rfl)) ?_
     try go_wp2
     have n0_ := Aside0.mk (Kd.R_drew HO410.out)
     have n1_ := Aside0.mk (Kd.R_drew HO414.out)
     have n2_ := Aside0.mk (bqD BK406.out)
     have n3_ := Aside0.mk (lqD HB.out)
     clear HO410
     clear HO414
     clear BK406
     clear HB
     have HO410 := n0_
     have HO414 := n1_
     have BK406 := n2_
     have HB := n3_
     clear n0_ n1_ n2_ n3_
     refine start_ (n := 13) (S := fun w' => True) (ds := []) #[false, false, false, false, false, false, false, false, false, false, false, false, false] (by kernel_rfl) rfl rfl trivial (fun hHeld => ?_); refine with_tabW spilelaw39_SealEnds.tab6 spilelaw39_SealEnds.bits6 (fun HT_ HW_ => ?_)
     generalize w24.drew = w25 at HO410 HO414 BK406 HB hHeld ⊢
     refine pure_ (i := 0) (N := some 42) (v := ?_) (a' := ?_) #[true, false, false, false, false, false, false, false, false, false, false, false, false] rfl rfl (any_of HT_.out (by kernel_rfl)) (fun _ _ _ h => h) (Or.inl ⟨by rfl, ?_⟩) ?_ ?_
     rotate_left
     ·intro w'
      go_simp
      with_reducible rfl
     rotate_left
     ·simp only [Act.put, List.setIfInBounds_toArray, List.set_cons_zero, List.set_cons_succ, i64_w, i32_w]
      rfl
     refine pure_ (i := 2) (N := some 44) (v := ?_) (a' := ?_) #[true, false, true, false, false, false, false, false, false, false, false, false, false] rfl rfl (any_of HT_.out (by kernel_rfl)) (fun _ _ _ h => h) (Or.inl ⟨by rfl, ?_⟩) ?_ ?_
     rotate_left
     ·intro w'
      go_simp
      with_reducible rfl
     rotate_left
     ·simp only [Act.put, List.setIfInBounds_toArray, List.set_cons_zero, List.set_cons_succ, i64_w, i32_w]
      rfl
     refine pure_ (i := 4) (N := some 46) (v := ?_) (a' := ?_) #[true, false, true, false, true, false, false, false, false, false, false, false, false] rfl rfl (any_of HT_.out (by kernel_rfl)) (fun _ _ _ h => h) (Or.inl ⟨by rfl, ?_⟩) ?_ ?_
     rotate_left
     ·intro w'
      go_simp
      with_reducible rfl
     rotate_left
     ·simp only [Act.put, List.setIfInBounds_toArray, List.set_cons_zero, List.set_cons_succ, i64_w, i32_w]
      rfl
     refine inv_at [1, 3, 5, 6, 7, 8, 9, 10, 11, 12] (fun a0_ b a w' => ∃ (v416 : Value) (v420 : Value) (gb422 : Nat) (m6_ : Value) (m7_ : Value) (m8_ : Value) (m10_ : Value), a = putSel a0_ b [(1, 43, v416), (3, 45, .int .i64 a1_0), (5, 47, .int .i64 a1_2), (6, 48, m6_), (7, 41, m7_), (8, 49, m8_), (9, 50, .int .i64 t419), (10, 9, m10_), (12, 10, .int .i64 t419)] ∧ (Kd.R k34 34 w' w.heap.size (fun _ => True) (.slice Ao23 t408.length co23) t408) ∧ (Kd.R (Kd.int .i64) 3 w' w.heap.size (fun _ => True) v413 t411) ∧ (w'.heap[gb406]? = some (.cells #[.int .i64 a1_0, .int .i64 a1_1, .int .i64 a1_2] 24 (0, 0))) ∧ (Below w.heap.size w w') ∧ (b 10 = true → w'.heap[gb422]? = some (.cells #[if b 11 = true then v420 else .slice none 0 0] 28 (0, 0))) ∧ (b 10 = true → w.heap.size ≤ gb422) ∧ (b 10 = true → w.heap.size ≤ gb422) ∧ (b 10 = true → gb406 ≠ gb422) ∧ (b 10 = true → gb422 ≠ gb406) ∧ (b 1 = true → Kd.R k34 34 w' w.heap.size (fun _ => True) v416 t415) ∧ (b 6 = true → Kd.R (Kd.int .i64) 3 w' w.heap.size (fun _ => True) v420 t418) ∧ (b 6 = true → (m6_ : Value) = .tuple #[v420, .int .i64 t419]) ∧ (b 7 = true → (m7_ : Value) = .tuple #[v420, .int .i64 t419]) ∧ (b 8 = true → (m8_ : Value) = v420) ∧ (b 10 = true → (m10_ : Value) = .pointer (some ⟨gb422, 0, none⟩))) HT_.out HW_.out (by kernel_rfl) (by kernel_rfl) ?_ ?_ ?_
     ·exact ⟨.bool false, .bool false, 0, .bool false, .bool false, .bool false, .bool false, by simp only [putSel, Bool.false_eq_true, if_false], Kd.R_mono HO410.out (fun _ _ => trivial), Kd.R_mono HO414.out (fun _ _ => trivial), BK406.out, HB.out, fun h_ => absurd h_ (by decide), fun h_ => absurd h_ (by decide), fun h_ => absurd h_ (by decide), fun h_ => absurd h_ (by decide), fun h_ => absurd h_ (by decide), fun h_ => absurd h_ (by decide), fun h_ => absurd h_ (by decide), fun h_ => absurd h_ (by decide), fun h_ => absurd h_ (by decide), fun h_ => absurd h_ (by decide), fun h_ => absurd h_ (by decide)⟩
     ·skip
      clear BK406 HB HO410 HO414
      refine steps_cons ?_ ?_
      ·rintro b a w' ⟨v416, v420, gb422, m6_, m7_, m8_, m10_, ha, Q_HO410, Q_HO414, Q_BK406, Q_HB, Q_BK422, Q_GW422, Q_GE422, Q_NB406_422, Q_NB422_406, Q_HO417, Q_HO421, Q_X6_, Q_X7_, Q_X8_, Q_X10_⟩ hb_ hon hoff
       refine ⟨_, rfl, fun K hK => ?_⟩
       have e42 : a.tmps[42]? = some (.slice A0 l0.length c0) := by rw [ha]; exact (putSel_off rfl).trans rfl
       replace ha := Aside0.mk ha
       have HO410 := Aside0.mk Q_HO410
       have HO414 := Aside0.mk Q_HO414
       have BK406 := Aside0.mk Q_BK406
       have HB := Aside0.mk Q_HB
       refine goes_ Try.func14 (by kernel_rfl) rfl #[.slice A0 l0.length c0] (by rfl) rfl rfl (by first | (simp only [List.map_toArray, List.map_cons, List.map_nil, Act.eval, Array.getD_eq_getD_getElem?, Option.getD_some, e42]; done) | (simp only [List.map_toArray, List.map_cons, List.map_nil, Act.eval, Array.getD_eq_getD_getElem?, Option.getD_some, e42]; rfl)) ?_
       with_reducible refine (clone34.calls _ _ l0 t415 _ ?side1 ?side2 A16.out).mono ?_
       (case side1 => repeat (first | exact (Kd.C_below HR0.out HB.out) | (with_reducible refine Kd.C_alloc ?_ _) | (with_reducible refine Kd.C_drewN ?_ _) | (with_reducible refine Kd.C_drew ?_)))
       (case side2 => exact HC0.out)
       rintro e w26 ⟨v416, rfl, ho0, hb⟩
       refine ⟨_, rfl, ?_⟩
       have n0_ := Aside0.mk (Kd.R_elder' (by (with_reducible repeat (first | apply Kd.R_alloc | apply Kd.R_drewN | apply Kd.R_drew)); exact HO410.out) (Kd.R_base ho0) hb)
       have n1_ := Aside0.mk (Kd.R_below (by (with_reducible repeat (first | apply Kd.R_alloc | apply Kd.R_drewN | apply Kd.R_drew)); exact HO414.out) hb)
       have n2_ := Aside0.mk (Kd.R_lower (Kd.R_new' ho0 (Kd.R_lt (by (with_reducible repeat (first | apply Kd.R_alloc | apply Kd.R_drewN | apply Kd.R_drew)); exact HO410.out))) (lqZ (by repeat (first | (with_reducible first | exact HB.out | apply lqA | apply lqN | apply lqD | refine lqS ?_ GE406.out) | exact HB.out))))
       have n3_ := Aside0.mk (bqB (g := gb406) (o := .cells #[.int .i64 a1_0, .int .i64 a1_1, .int .i64 a1_2] 24 (0, 0)) (by (with_reducible repeat (first | refine bqN ?_ _ | refine bqD ?_ | refine bqA ?_ _)); exact BK406.out) hb)
       have n4_ := Aside0.mk (lqT (by repeat (first | (with_reducible first | exact HB.out | apply lqA | apply lqN | apply lqD | refine lqS ?_ GE406.out) | exact HB.out)) hb)
       have z_BK422 := fun (h0_ : b 10 = true) => (show w26.heap[gb422]? = some (.cells #[if b 11 = true then v420 else .slice none 0 0] 28 (0, 0)) from by have h_ := Q_BK422 h0_; rw [if_neg (by rw [hoff 11 (by kernel_rfl)]; decide)] at h_ ⊢; first | exact (bqB (g := gb422) (o := .cells #[.slice none 0 0] 28 (0, 0)) (by (with_reducible repeat (first | refine bqN ?_ _ | refine bqD ?_ | refine bqA ?_ _)); exact h_) hb))
       clear HO410
       clear HO414
       clear BK406
       clear HB
       have HO410 := n0_
       have HO414 := n1_
       have HO417 := n2_
       have BK406 := n3_
       have HB := n4_
       clear n0_ n1_ n2_ n3_ n4_
       (try clear hb)
       (try clear hb2)
       (try clear hk)
       (try clear hi)
       (try clear ho0)
       refine hK.out _ _ ⟨v416, v420, gb422, m6_, m7_, m8_, m10_, (by rw [ha.out]; exact putSel_upk 0 hb_ rfl rfl rfl), (by (with_reducible repeat (first | apply Kd.R_alloc | apply Kd.R_drewN | apply Kd.R_drew)); exact Kd.R_mono HO410.out (fun _ _ => trivial)), (by (with_reducible repeat (first | apply Kd.R_alloc | apply Kd.R_drewN | apply Kd.R_drew)); exact Kd.R_mono HO414.out (fun _ _ => trivial)), (by (with_reducible repeat (first | refine bqN ?_ _ | refine bqD ?_ | refine bqA ?_ _)); exact BK406.out), (by repeat (first | (with_reducible first | exact HB.out | apply lqA | apply lqN | apply lqD | refine lqS ?_ GE406.out) | exact HB.out)), z_BK422, Q_GW422, Q_GE422, Q_NB406_422, Q_NB422_406, fun _ => (by (with_reducible repeat (first | apply Kd.R_alloc | apply Kd.R_drewN | apply Kd.R_drew)); exact Kd.R_mono HO417.out (fun _ _ => trivial)), fun h0_ => absurd ((hoff 6 (by kernel_rfl)).symm.trans h0_) (by decide), fun h0_ => absurd ((hoff 6 (by kernel_rfl)).symm.trans h0_) (by decide), fun h0_ => absurd ((hoff 7 (by kernel_rfl)).symm.trans h0_) (by decide), fun h0_ => absurd ((hoff 8 (by kernel_rfl)).symm.trans h0_) (by decide), Q_X10_⟩
      refine steps_cons ?_ ?_
      ·rintro b a w' ⟨v416, v420, gb422, m6_, m7_, m8_, m10_, ha, Q_HO410, Q_HO414, Q_BK406, Q_HB, Q_BK422, Q_GW422, Q_GE422, Q_NB406_422, Q_NB422_406, Q_HO417, Q_HO421, Q_X6_, Q_X7_, Q_X8_, Q_X10_⟩ hb_ hon hoff
       refine ⟨_, rfl, fun K hK => ?_⟩
       have e44 : a.tmps[44]? = some (.pointer (some ⟨gb406, 0, none⟩)) := by rw [ha]; exact (putSel_off rfl).trans rfl
       replace ha := Aside0.mk ha
       have HO410 := Aside0.mk Q_HO410
       have HO414 := Aside0.mk Q_HO414
       have BK406 := Aside0.mk Q_BK406
       have HB := Aside0.mk Q_HB
       have hc0_ : w'.cell? ⟨gb406, 0, none⟩ = some (.int .i64 a1_0) := (bqC BK406.out 0).trans rfl
       have hc1_ : w'.cell? ⟨gb406, 1, none⟩ = some (.int .i64 a1_1) := (bqC BK406.out 1).trans rfl
       have hc2_ : w'.cell? ⟨gb406, 2, none⟩ = some (.int .i64 a1_2) := (bqC BK406.out 2).trans rfl
       refine value_ (w1 := w') (v := .int .i64 a1_0) (by rfl) rfl ?_ ?_
       ·go_simp
        (try simp only [i64_w])
        try rfl
       refine hK.out _ _ ⟨v416, v420, gb422, m6_, m7_, m8_, m10_, (by rw [ha.out]; exact putSel_upk 1 hb_ rfl rfl rfl), Q_HO410, Q_HO414, Q_BK406, Q_HB, Q_BK422, Q_GW422, Q_GE422, Q_NB406_422, Q_NB422_406, Q_HO417, fun h0_ => absurd ((hoff 6 (by kernel_rfl)).symm.trans h0_) (by decide), fun h0_ => absurd ((hoff 6 (by kernel_rfl)).symm.trans h0_) (by decide), fun h0_ => absurd ((hoff 7 (by kernel_rfl)).symm.trans h0_) (by decide), fun h0_ => absurd ((hoff 8 (by kernel_rfl)).symm.trans h0_) (by decide), Q_X10_⟩
      refine steps_cons ?_ ?_
      ·rintro b a w' ⟨v416, v420, gb422, m6_, m7_, m8_, m10_, ha, Q_HO410, Q_HO414, Q_BK406, Q_HB, Q_BK422, Q_GW422, Q_GE422, Q_NB406_422, Q_NB422_406, Q_HO417, Q_HO421, Q_X6_, Q_X7_, Q_X8_, Q_X10_⟩ hb_ hon hoff
       refine ⟨_, rfl, fun K hK => ?_⟩
       have e46 : a.tmps[46]? = some (.pointer (some ⟨gb406, 2, none⟩)) := by rw [ha]; exact (putSel_off rfl).trans rfl
       replace ha := Aside0.mk ha
       have HO410 := Aside0.mk Q_HO410
       have HO414 := Aside0.mk Q_HO414
       have BK406 := Aside0.mk Q_BK406
       have HB := Aside0.mk Q_HB
       have hc0_ : w'.cell? ⟨gb406, 0, none⟩ = some (.int .i64 a1_0) := (bqC BK406.out 0).trans rfl
       have hc1_ : w'.cell? ⟨gb406, 1, none⟩ = some (.int .i64 a1_1) := (bqC BK406.out 1).trans rfl
       have hc2_ : w'.cell? ⟨gb406, 2, none⟩ = some (.int .i64 a1_2) := (bqC BK406.out 2).trans rfl
       refine value_ (w1 := w') (v := .int .i64 a1_2) (by rfl) rfl ?_ ?_
       ·go_simp
        (try simp only [i64_w])
        try rfl
       refine hK.out _ _ ⟨v416, v420, gb422, m6_, m7_, m8_, m10_, (by rw [ha.out]; exact putSel_upk 2 hb_ rfl rfl rfl), Q_HO410, Q_HO414, Q_BK406, Q_HB, Q_BK422, Q_GW422, Q_GE422, Q_NB406_422, Q_NB422_406, Q_HO417, fun h0_ => absurd ((hoff 6 (by kernel_rfl)).symm.trans h0_) (by decide), fun h0_ => absurd ((hoff 6 (by kernel_rfl)).symm.trans h0_) (by decide), fun h0_ => absurd ((hoff 7 (by kernel_rfl)).symm.trans h0_) (by decide), fun h0_ => absurd ((hoff 8 (by kernel_rfl)).symm.trans h0_) (by decide), Q_X10_⟩
      refine steps_cons ?_ ?_
      ·rintro b a w' ⟨v416, v420, gb422, m6_, m7_, m8_, m10_, ha, Q_HO410, Q_HO414, Q_BK406, Q_HB, Q_BK422, Q_GW422, Q_GE422, Q_NB406_422, Q_NB422_406, Q_HO417, Q_HO421, Q_X6_, Q_X7_, Q_X8_, Q_X10_⟩ hb_ hon hoff
       refine ⟨_, rfl, fun K hK => ?_⟩
       have e43 : a.tmps[43]? = some (v416) := by rw [ha]; exact putSel_on (e := (1, 43, v416)) 0 rfl rfl (hon 1 (by kernel_rfl)) rfl
       have e45 : a.tmps[45]? = some (.int .i64 a1_0) := by rw [ha]; exact putSel_on (e := (3, 45, .int .i64 a1_0)) 1 rfl rfl (hon 3 (by kernel_rfl)) rfl
       have e47 : a.tmps[47]? = some (.int .i64 a1_2) := by rw [ha]; exact putSel_on (e := (5, 47, .int .i64 a1_2)) 2 rfl rfl (hon 5 (by kernel_rfl)) rfl
       replace ha := Aside0.mk ha
       have HO410 := Aside0.mk Q_HO410
       have HO414 := Aside0.mk Q_HO414
       have BK406 := Aside0.mk Q_BK406
       have HB := Aside0.mk Q_HB
       have HO417 := Aside0.mk (Q_HO417 (hon 1 (by kernel_rfl)))
       obtain ⟨Ao28, co28, eo28⟩ := Kd.R_slice HO417.out
       (first | subst eo28 | (injection eo28 with f1_ f2_ f3_; have f4_ := f1_.symm; have f5_ := f3_.symm; clear f1_ f2_ f3_; subst f4_; subst f5_))
       refine goes_ Try.func13 (by kernel_rfl) rfl #[.slice Ao28 t415.length co28, .int .i64 a1_0, .int .i64 a1_2] (by rfl) rfl rfl (by first | (simp only [List.map_toArray, List.map_cons, List.map_nil, Act.eval, Array.getD_eq_getD_getElem?, Option.getD_some, e43, e45, e47]; done) | (simp only [List.map_toArray, List.map_cons, List.map_nil, Act.eval, Array.getD_eq_getD_getElem?, Option.getD_some, e43, e45, e47]; rfl)) ?_
       with_reducible refine (seal_Intact.calls _ _ t415 a1_0 a1_2 t418 t419 _ ?side1 ?side2 A17.out).mono ?_
       (case side1 => repeat (first | exact (Kd.R_reads' HO417.out).2.2 | (with_reducible refine Kd.C_alloc ?_ _) | (with_reducible refine Kd.C_drewN ?_ _) | (with_reducible refine Kd.C_drew ?_)))
       (case side2 => exact (Kd.R_reads' HO417.out).2.1)
       rintro e w29 ⟨v420, rfl, ho0, hb⟩
       refine ⟨_, rfl, ?_⟩
       have n0_ := Aside0.mk (Kd.R_below (by (with_reducible repeat (first | apply Kd.R_alloc | apply Kd.R_drewN | apply Kd.R_drew)); exact HO410.out) hb)
       have n1_ := Aside0.mk (Kd.R_elder' (by (with_reducible repeat (first | apply Kd.R_alloc | apply Kd.R_drewN | apply Kd.R_drew)); exact HO414.out) (Kd.R_base ho0) hb)
       have n2_ := Aside0.mk (Kd.R_below (by (with_reducible repeat (first | apply Kd.R_alloc | apply Kd.R_drewN | apply Kd.R_drew)); exact HO417.out) hb)
       have n3_ := Aside0.mk (Kd.R_lower (Kd.R_new' ho0 (Kd.R_lt (by (with_reducible repeat (first | apply Kd.R_alloc | apply Kd.R_drewN | apply Kd.R_drew)); exact HO414.out))) (lqZ (by repeat (first | (with_reducible first | exact HB.out | apply lqA | apply lqN | apply lqD | refine lqS ?_ GE406.out) | exact HB.out))))
       have n4_ := Aside0.mk (bqB (g := gb406) (o := .cells #[.int .i64 a1_0, .int .i64 a1_1, .int .i64 a1_2] 24 (0, 0)) (by (with_reducible repeat (first | refine bqN ?_ _ | refine bqD ?_ | refine bqA ?_ _)); exact BK406.out) hb)
       have n5_ := Aside0.mk (lqT (by repeat (first | (with_reducible first | exact HB.out | apply lqA | apply lqN | apply lqD | refine lqS ?_ GE406.out) | exact HB.out)) hb)
       have z_BK422 := fun (h0_ : b 10 = true) => (show w29.heap[gb422]? = some (.cells #[if b 11 = true then v420 else .slice none 0 0] 28 (0, 0)) from by have h_ := Q_BK422 h0_; rw [if_neg (by rw [hoff 11 (by kernel_rfl)]; decide)] at h_ ⊢; first | exact (bqB (g := gb422) (o := .cells #[.slice none 0 0] 28 (0, 0)) (by (with_reducible repeat (first | refine bqN ?_ _ | refine bqD ?_ | refine bqA ?_ _)); exact h_) hb))
       clear HO410
       clear HO414
       clear HO417
       clear BK406
       clear HB
       have HO410 := n0_
       have HO414 := n1_
       have HO417 := n2_
       have HO421 := n3_
       have BK406 := n4_
       have HB := n5_
       clear n0_ n1_ n2_ n3_ n4_ n5_
       (try clear hb)
       (try clear hb2)
       (try clear hk)
       (try clear hi)
       (try clear ho0)
       refine hK.out _ _ ⟨.slice Ao28 t415.length co28, v420, gb422, (.tuple #[v420, .int .i64 t419]), m7_, m8_, m10_, (by rw [ha.out]; exact putSel_upk 3 hb_ rfl rfl rfl), (by (with_reducible repeat (first | apply Kd.R_alloc | apply Kd.R_drewN | apply Kd.R_drew)); exact Kd.R_mono HO410.out (fun _ _ => trivial)), (by (with_reducible repeat (first | apply Kd.R_alloc | apply Kd.R_drewN | apply Kd.R_drew)); exact Kd.R_mono HO414.out (fun _ _ => trivial)), (by (with_reducible repeat (first | refine bqN ?_ _ | refine bqD ?_ | refine bqA ?_ _)); exact BK406.out), (by repeat (first | (with_reducible first | exact HB.out | apply lqA | apply lqN | apply lqD | refine lqS ?_ GE406.out) | exact HB.out)), z_BK422, Q_GW422, Q_GE422, Q_NB406_422, Q_NB422_406, fun _ => (by (with_reducible repeat (first | apply Kd.R_alloc | apply Kd.R_drewN | apply Kd.R_drew)); exact Kd.R_mono HO417.out (fun _ _ => trivial)), fun _ => (by (with_reducible repeat (first | apply Kd.R_alloc | apply Kd.R_drewN | apply Kd.R_drew)); exact Kd.R_mono HO421.out (fun _ _ => trivial)), fun _ => rfl, fun h0_ => absurd ((hoff 7 (by kernel_rfl)).symm.trans h0_) (by decide), fun h0_ => absurd ((hoff 8 (by kernel_rfl)).symm.trans h0_) (by decide), Q_X10_⟩
      refine steps_cons ?_ ?_
      ·rintro b a w' ⟨v416, v420, gb422, m6_, m7_, m8_, m10_, ha, Q_HO410, Q_HO414, Q_BK406, Q_HB, Q_BK422, Q_GW422, Q_GE422, Q_NB406_422, Q_NB422_406, Q_HO417, Q_HO421, Q_X6_, Q_X7_, Q_X8_, Q_X10_⟩ hb_ hon hoff
       refine ⟨_, rfl, fun K hK => ?_⟩
       have e48 : a.tmps[48]? = some (m6_) := by rw [ha]; exact putSel_on (e := (6, 48, m6_)) 3 rfl rfl (hon 6 (by kernel_rfl)) rfl
       rw [Q_X6_ (hon 6 (by kernel_rfl))] at e48
       replace ha := Aside0.mk ha
       have HO410 := Aside0.mk Q_HO410
       have HO414 := Aside0.mk Q_HO414
       have BK406 := Aside0.mk Q_BK406
       have HB := Aside0.mk Q_HB
       have HO417 := Aside0.mk (Q_HO417 (hon 1 (by kernel_rfl)))
       have HO421 := Aside0.mk (Q_HO421 (hon 6 (by kernel_rfl)))
       refine value_ (w1 := w') (v := .tuple #[v420, .int .i64 t419]) (by rfl) rfl ?_ ?_
       ·go_simp
        (try simp only [i64_w])
        try rfl
       refine hK.out _ _ ⟨v416, v420, gb422, m6_, (.tuple #[v420, .int .i64 t419]), m8_, m10_, (by rw [ha.out]; exact putSel_upk 4 hb_ rfl rfl rfl), Q_HO410, Q_HO414, Q_BK406, Q_HB, Q_BK422, Q_GW422, Q_GE422, Q_NB406_422, Q_NB422_406, Q_HO417, Q_HO421, Q_X6_, fun _ => rfl, fun h0_ => absurd ((hoff 8 (by kernel_rfl)).symm.trans h0_) (by decide), Q_X10_⟩
      refine steps_cons ?_ ?_
      ·rintro b a w' ⟨v416, v420, gb422, m6_, m7_, m8_, m10_, ha, Q_HO410, Q_HO414, Q_BK406, Q_HB, Q_BK422, Q_GW422, Q_GE422, Q_NB406_422, Q_NB422_406, Q_HO417, Q_HO421, Q_X6_, Q_X7_, Q_X8_, Q_X10_⟩ hb_ hon hoff
       refine ⟨_, rfl, fun K hK => ?_⟩
       have e41 : a.tmps[41]? = some (m7_) := by rw [ha]; exact putSel_on (e := (7, 41, m7_)) 4 rfl rfl (hon 7 (by kernel_rfl)) rfl
       rw [Q_X7_ (hon 7 (by kernel_rfl))] at e41
       replace ha := Aside0.mk ha
       have HO410 := Aside0.mk Q_HO410
       have HO414 := Aside0.mk Q_HO414
       have BK406 := Aside0.mk Q_BK406
       have HB := Aside0.mk Q_HB
       have HO417 := Aside0.mk (Q_HO417 (hon 1 (by kernel_rfl)))
       have HO421 := Aside0.mk (Q_HO421 (hon 6 (by kernel_rfl)))
       obtain ⟨Ao8_0, co8_0, eo_⟩ := Kd.R_slice HO421.out
       subst eo_
       refine value_ (w1 := w') (v := .slice Ao8_0 t418.length co8_0) (by rfl) rfl ?_ ?_
       ·go_simp
        (try simp only [i64_w])
        try rfl
       refine hK.out _ _ ⟨v416, .slice Ao8_0 t418.length co8_0, gb422, m6_, m7_, (.slice Ao8_0 t418.length co8_0), m10_, (by rw [ha.out]; exact putSel_upk 5 hb_ rfl rfl rfl), Q_HO410, Q_HO414, Q_BK406, Q_HB, Q_BK422, Q_GW422, Q_GE422, Q_NB406_422, Q_NB422_406, Q_HO417, Q_HO421, Q_X6_, Q_X7_, fun _ => rfl, Q_X10_⟩
      refine steps_cons ?_ ?_
      ·rintro b a w' ⟨v416, v420, gb422, m6_, m7_, m8_, m10_, ha, Q_HO410, Q_HO414, Q_BK406, Q_HB, Q_BK422, Q_GW422, Q_GE422, Q_NB406_422, Q_NB422_406, Q_HO417, Q_HO421, Q_X6_, Q_X7_, Q_X8_, Q_X10_⟩ hb_ hon hoff
       refine ⟨_, rfl, fun K hK => ?_⟩
       have e41 : a.tmps[41]? = some (m7_) := by rw [ha]; exact putSel_on (e := (7, 41, m7_)) 4 rfl rfl (hon 7 (by kernel_rfl)) rfl
       rw [Q_X7_ (hon 7 (by kernel_rfl))] at e41
       replace ha := Aside0.mk ha
       have HO410 := Aside0.mk Q_HO410
       have HO414 := Aside0.mk Q_HO414
       have BK406 := Aside0.mk Q_BK406
       have HB := Aside0.mk Q_HB
       have HO417 := Aside0.mk (Q_HO417 (hon 1 (by kernel_rfl)))
       have HO421 := Aside0.mk (Q_HO421 (hon 6 (by kernel_rfl)))
       obtain ⟨Ao9_0, co9_0, eo_⟩ := Kd.R_slice HO421.out
       subst eo_
       refine value_ (w1 := w') (v := .int .i64 t419) (by rfl) rfl ?_ ?_
       ·go_simp
        (try simp only [i64_w])
        try rfl
       refine hK.out _ _ ⟨v416, .slice Ao9_0 t418.length co9_0, gb422, m6_, m7_, m8_, m10_, (by rw [ha.out]; exact putSel_upk 6 hb_ rfl rfl rfl), Q_HO410, Q_HO414, Q_BK406, Q_HB, Q_BK422, Q_GW422, Q_GE422, Q_NB406_422, Q_NB422_406, Q_HO417, Q_HO421, Q_X6_, Q_X7_, Q_X8_, Q_X10_⟩
      refine steps_cons ?_ ?_
      ·rintro b a w' ⟨v416, v420, gb422, m6_, m7_, m8_, m10_, ha, Q_HO410, Q_HO414, Q_BK406, Q_HB, Q_BK422, Q_GW422, Q_GE422, Q_NB406_422, Q_NB422_406, Q_HO417, Q_HO421, Q_X6_, Q_X7_, Q_X8_, Q_X10_⟩ hb_ hon hoff
       refine ⟨_, rfl, fun K hK => ?_⟩
       replace ha := Aside0.mk ha
       have HO410 := Aside0.mk Q_HO410
       have HO414 := Aside0.mk Q_HO414
       have BK406 := Aside0.mk Q_BK406
       have HB := Aside0.mk Q_HB
       refine box_step ?hg (N := 9) ?hd (cs := #[.slice none 0 0]) (t := 28) ?hr ?_; (case hd => rfl); (case hg => rfl); (case hr => first | (go_simp; done) | (go_simp; rfl))
       intro gb422 hg w26 hbox hb
       have n0_ := Aside0.mk (Kd.R_below (by (with_reducible repeat (first | apply Kd.R_alloc | apply Kd.R_drewN | apply Kd.R_drew)); exact HO410.out) hb)
       have n1_ := Aside0.mk (Kd.R_below (by (with_reducible repeat (first | apply Kd.R_alloc | apply Kd.R_drewN | apply Kd.R_drew)); exact HO414.out) hb)
       have n2_ := Aside0.mk (bqB (g := gb406) (o := .cells #[.int .i64 a1_0, .int .i64 a1_1, .int .i64 a1_2] 24 (0, 0)) (by (with_reducible repeat (first | refine bqN ?_ _ | refine bqD ?_ | refine bqA ?_ _)); exact BK406.out) hb)
       have n3_ := Aside0.mk (lqT (by repeat (first | (with_reducible first | exact HB.out | apply lqA | apply lqN | apply lqD | refine lqS ?_ GE406.out) | exact HB.out)) hb)
       have n4_ := Aside0.mk (hbox)
       have n5_ := Aside0.mk ((by rw [hg]; exact (lqZ (by repeat (first | (with_reducible first | exact HB.out | apply lqA | apply lqN | apply lqD | refine lqS ?_ GE406.out) | exact HB.out))) : w.heap.size ≤ gb422))
       have n6_ := Aside0.mk ((by rw [hg]; exact (lqZ (by repeat (first | (with_reducible first | exact HB.out | apply lqA | apply lqN | apply lqD | refine lqS ?_ GE406.out) | exact HB.out))) : w.heap.size ≤ gb422))
       have n7_ := Aside0.mk ((by rw [hg]; exact Nat.ne_of_lt (blk_lt (g := gb406) (o := .cells #[.int .i64 a1_0, .int .i64 a1_1, .int .i64 a1_2] 24 (0, 0)) (by (with_reducible repeat (first | refine bqN ?_ _ | refine bqD ?_ | refine bqA ?_ _)); exact BK406.out)) : gb406 ≠ gb422))
       have n8_ := Aside0.mk ((by rw [hg]; exact Nat.ne_of_gt (blk_lt (g := gb406) (o := .cells #[.int .i64 a1_0, .int .i64 a1_1, .int .i64 a1_2] 24 (0, 0)) (by (with_reducible repeat (first | refine bqN ?_ _ | refine bqD ?_ | refine bqA ?_ _)); exact BK406.out)) : gb422 ≠ gb406))
       have z_HO417 := fun (h0_ : b 1 = true) => (show Kd.R k34 34 w26 w.heap.size (fun _ => True) v416 t415 from by first | exact (Kd.R_below (by (with_reducible repeat (first | apply Kd.R_alloc | apply Kd.R_drewN | apply Kd.R_drew)); exact (Q_HO417 h0_)) hb) | exact Kd.R_mono (Kd.R_below (by (with_reducible repeat (first | apply Kd.R_alloc | apply Kd.R_drewN | apply Kd.R_drew)); exact (Q_HO417 h0_)) hb) (fun _ h_ => by first | trivial | exact h_ | exact h_.1 | exact ⟨h_.1, h_.2.1⟩ | exact ⟨h_.1, h_.2.1, h_.2.2.1⟩ | simp_all))
       have z_HO421 := fun (h0_ : b 6 = true) => (show Kd.R (Kd.int .i64) 3 w26 w.heap.size (fun _ => True) v420 t418 from by first | exact (Kd.R_below (by (with_reducible repeat (first | apply Kd.R_alloc | apply Kd.R_drewN | apply Kd.R_drew)); exact (Q_HO421 h0_)) hb) | exact Kd.R_mono (Kd.R_below (by (with_reducible repeat (first | apply Kd.R_alloc | apply Kd.R_drewN | apply Kd.R_drew)); exact (Q_HO421 h0_)) hb) (fun _ h_ => by first | trivial | exact h_ | exact h_.1 | exact ⟨h_.1, h_.2.1⟩ | exact ⟨h_.1, h_.2.1, h_.2.2.1⟩ | simp_all))
       clear HO410
       clear HO414
       clear BK406
       clear HB
       have HO410 := n0_
       have HO414 := n1_
       have BK406 := n2_
       have HB := n3_
       have BK422 := n4_
       have GW422 := n5_
       have GE422 := n6_
       have NB406_422 := n7_
       have NB422_406 := n8_
       clear n0_ n1_ n2_ n3_ n4_ n5_ n6_ n7_ n8_
       clear hb hbox hg
       refine hK.out _ _ ⟨v416, v420, gb422, m6_, m7_, m8_, (.pointer (some ⟨gb422, 0, none⟩)), (by rw [ha.out]; exact putSel_upk 7 hb_ rfl rfl rfl), (by (with_reducible repeat (first | apply Kd.R_alloc | apply Kd.R_drewN | apply Kd.R_drew)); exact Kd.R_mono HO410.out (fun _ _ => trivial)), (by (with_reducible repeat (first | apply Kd.R_alloc | apply Kd.R_drewN | apply Kd.R_drew)); exact Kd.R_mono HO414.out (fun _ _ => trivial)), (by (with_reducible repeat (first | refine bqN ?_ _ | refine bqD ?_ | refine bqA ?_ _)); exact BK406.out), (by repeat (first | (with_reducible first | exact HB.out | apply lqA | apply lqN | apply lqD | refine lqS ?_ GE406.out | refine lqS ?_ GE422.out) | exact HB.out)), fun _ => (by have h11_ : b 11 = false := hoff 11 (by kernel_rfl); show (_ : Option Obj) = some (Obj.cells #[if b 11 = true then v420 else .slice none 0 0] 28 (0, 0)); rw [if_neg (by rw [h11_]; decide)]; (with_reducible repeat (first | refine bqN ?_ _ | refine bqD ?_ | refine bqA ?_ _)); exact BK422.out), fun _ => GW422.out, fun _ => GE422.out, fun _ => NB406_422.out, fun _ => NB422_406.out, z_HO417, z_HO421, Q_X6_, Q_X7_, Q_X8_, fun _ => rfl⟩
      refine steps_cons ?_ ?_
      ·rintro b a w' ⟨v416, v420, gb422, m6_, m7_, m8_, m10_, ha, Q_HO410, Q_HO414, Q_BK406, Q_HB, Q_BK422, Q_GW422, Q_GE422, Q_NB406_422, Q_NB422_406, Q_HO417, Q_HO421, Q_X6_, Q_X7_, Q_X8_, Q_X10_⟩ hb_ hon hoff
       refine ⟨_, rfl, fun K hK => ?_⟩
       have e9 : a.tmps[9]? = some (m10_) := by rw [ha]; exact putSel_on (e := (10, 9, m10_)) 7 rfl rfl (hon 10 (by kernel_rfl)) rfl
       rw [Q_X10_ (hon 10 (by kernel_rfl))] at e9
       have e49 : a.tmps[49]? = some (m8_) := by rw [ha]; exact putSel_on (e := (8, 49, m8_)) 5 rfl rfl (hon 8 (by kernel_rfl)) rfl
       rw [Q_X8_ (hon 8 (by kernel_rfl))] at e49
       replace ha := Aside0.mk ha
       have HO410 := Aside0.mk Q_HO410
       have HO414 := Aside0.mk Q_HO414
       have BK406 := Aside0.mk Q_BK406
       have HB := Aside0.mk Q_HB
       have BK422 := Aside0.mk (show w'.heap[gb422]? = some (.cells #[.slice none 0 0] 28 (0, 0)) from by have h_ := Q_BK422 (hon 10 (by kernel_rfl)); rw [if_neg (by rw [hb_]; decide)] at h_; exact h_)
       have GW422 := Aside0.mk (Q_GW422 (hon 10 (by kernel_rfl)))
       have GE422 := Aside0.mk (Q_GE422 (hon 10 (by kernel_rfl)))
       have NB406_422 := Aside0.mk (Q_NB406_422 (hon 10 (by kernel_rfl)))
       have NB422_406 := Aside0.mk (Q_NB422_406 (hon 10 (by kernel_rfl)))
       have HO417 := Aside0.mk (Q_HO417 (hon 1 (by kernel_rfl)))
       have HO421 := Aside0.mk (Q_HO421 (hon 6 (by kernel_rfl)))
       have hs31 : w'.cell? ⟨gb422, 0, none⟩ = some (.slice none 0 0) := (bqC BK422.out 0).trans rfl
       have hfs31 := bqF BK422.out 0
       have hns31_0 := NB406_422.out
       have hms31_0 := NB422_406.out
       obtain ⟨Aob_, cob_, eob_⟩ := Kd.R_slice HO421.out
       subst eob_
       refine skip_ (w1 := ?_) (by rfl) rfl ?_ ?_
       rotate_left
       ·go_simp
        rfl
       refine hK.out _ _ ⟨v416, .slice Aob_ t418.length cob_, gb422, m6_, m7_, m8_, m10_, (by rw [ha.out]; exact putSel_none (v := undef) rfl), (by (with_reducible repeat (first | apply Kd.R_alloc | apply Kd.R_drewN | apply Kd.R_drew)); exact Kd.R_mono (Kd.R_far (p := ⟨gb422, 0, none⟩) (Kd.R_types HO410.out BK422.out (by decide)) (fun _ hk => hk.2) (.slice Aob_ t418.length cob_)) (fun _ _ => trivial)), (by (with_reducible repeat (first | apply Kd.R_alloc | apply Kd.R_drewN | apply Kd.R_drew)); exact Kd.R_mono (Kd.R_far (p := ⟨gb422, 0, none⟩) (Kd.R_types HO414.out BK422.out (by decide)) (fun _ hk => hk.2) (.slice Aob_ t418.length cob_)) (fun _ _ => trivial)), (by (with_reducible repeat (first | refine bqN ?_ _ | refine bqD ?_ | refine bqA ?_ _)); refine blk_far ?_ NB406_422.out _; (with_reducible repeat (first | refine bqN ?_ _ | refine bqD ?_ | refine bqA ?_ _)); exact BK406.out), (by repeat (first | (with_reducible first | exact HB.out | apply lqA | apply lqN | apply lqD | refine lqS ?_ GE406.out | refine lqS ?_ GE422.out) | exact HB.out)), fun _ => (by (with_reducible repeat (first | refine bqN ?_ _ | refine bqD ?_ | refine bqA ?_ _)); refine bqP (cs := #[.slice none 0 0]) ?_ 0 _ rfl; (with_reducible repeat (first | refine bqN ?_ _ | refine bqD ?_ | refine bqA ?_ _)); exact BK422.out), fun _ => GW422.out, fun _ => GE422.out, fun _ => NB406_422.out, fun _ => NB422_406.out, fun _ => (by (with_reducible repeat (first | apply Kd.R_alloc | apply Kd.R_drewN | apply Kd.R_drew)); exact Kd.R_mono (Kd.R_far (p := ⟨gb422, 0, none⟩) (Kd.R_types HO417.out BK422.out (by decide)) (fun _ hk => hk.2) (.slice Aob_ t418.length cob_)) (fun _ _ => trivial)), fun _ => (by (with_reducible repeat (first | apply Kd.R_alloc | apply Kd.R_drewN | apply Kd.R_drew)); exact Kd.R_mono (Kd.R_far (p := ⟨gb422, 0, none⟩) (Kd.R_types HO421.out BK422.out (by decide)) (fun _ hk => hk.2) (.slice Aob_ t418.length cob_)) (fun _ _ => trivial)), Q_X6_, Q_X7_, Q_X8_, Q_X10_⟩
      refine steps_cons ?_ ?_
      ·rintro b a w' ⟨v416, v420, gb422, m6_, m7_, m8_, m10_, ha, Q_HO410, Q_HO414, Q_BK406, Q_HB, Q_BK422, Q_GW422, Q_GE422, Q_NB406_422, Q_NB422_406, Q_HO417, Q_HO421, Q_X6_, Q_X7_, Q_X8_, Q_X10_⟩ hb_ hon hoff
       refine ⟨_, rfl, fun K hK => ?_⟩
       have e50 : a.tmps[50]? = some (.int .i64 t419) := by rw [ha]; exact putSel_on (e := (9, 50, .int .i64 t419)) 6 rfl rfl (hon 9 (by kernel_rfl)) rfl
       replace ha := Aside0.mk ha
       have HO410 := Aside0.mk Q_HO410
       have HO414 := Aside0.mk Q_HO414
       have BK406 := Aside0.mk Q_BK406
       have HB := Aside0.mk Q_HB
       have BK422 := Aside0.mk (Q_BK422 (hon 10 (by kernel_rfl)))
       have GW422 := Aside0.mk (Q_GW422 (hon 10 (by kernel_rfl)))
       have GE422 := Aside0.mk (Q_GE422 (hon 10 (by kernel_rfl)))
       have NB406_422 := Aside0.mk (Q_NB406_422 (hon 10 (by kernel_rfl)))
       have NB422_406 := Aside0.mk (Q_NB422_406 (hon 10 (by kernel_rfl)))
       have HO417 := Aside0.mk (Q_HO417 (hon 1 (by kernel_rfl)))
       have HO421 := Aside0.mk (Q_HO421 (hon 6 (by kernel_rfl)))
       refine value_ (w1 := w') (v := .int .i64 t419) (by rfl) rfl ?_ ?_
       ·go_simp
        (try simp only [i64_w])
        try rfl
       refine hK.out _ _ ⟨v416, v420, gb422, m6_, m7_, m8_, m10_, (by rw [ha.out]; exact putSel_upk 8 hb_ rfl rfl rfl), Q_HO410, Q_HO414, Q_BK406, Q_HB, Q_BK422, Q_GW422, Q_GE422, Q_NB406_422, Q_NB422_406, Q_HO417, Q_HO421, Q_X6_, Q_X7_, Q_X8_, Q_X10_⟩
      exact steps_nil
     rintro b a w31 hall ⟨v416, v420, gb422, m6_, m7_, m8_, m10_, ha, Q_HO410, Q_HO414, Q_BK406, Q_HB, Q_BK422, Q_GW422, Q_GE422, Q_NB406_422, Q_NB422_406, Q_HO417, Q_HO421, Q_X6_, Q_X7_, Q_X8_, Q_X10_⟩
     clear BK406 HB HO410 HO414
     have hb1_ := hall 1 (by kernel_rfl)
     have hb3_ := hall 3 (by kernel_rfl)
     have hb5_ := hall 5 (by kernel_rfl)
     have hb6_ := hall 6 (by kernel_rfl)
     have hb7_ := hall 7 (by kernel_rfl)
     have hb8_ := hall 8 (by kernel_rfl)
     have hb9_ := hall 9 (by kernel_rfl)
     have hb10_ := hall 10 (by kernel_rfl)
     have hb11_ := hall 11 (by kernel_rfl)
     have hb12_ := hall 12 (by kernel_rfl)
     subst ha
     obtain rfl := Q_X6_ hb6_
     obtain rfl := Q_X7_ hb7_
     obtain rfl := (Q_X8_ hb8_).symm
     obtain rfl := Q_X10_ hb10_
     simp only [putSel, hb1_, hb3_, hb5_, hb6_, hb7_, hb8_, hb9_, hb10_, hb11_, hb12_, if_true, Act.put, List.setIfInBounds_toArray, List.set_cons_zero, List.set_cons_succ]
     have HO410 := Aside0.mk Q_HO410
     clear Q_HO410
     have HO414 := Aside0.mk Q_HO414
     clear Q_HO414
     have BK406 := Aside0.mk Q_BK406
     clear Q_BK406
     have HB := Aside0.mk Q_HB
     clear Q_HB
     have BK422 := Aside0.mk (by have h_ := Q_BK422 hb10_; rw [if_pos hb11_] at h_; exact h_)
     clear Q_BK422
     have GW422 := Aside0.mk (Q_GW422 hb10_)
     clear Q_GW422
     have GE422 := Aside0.mk (Q_GE422 hb10_)
     clear Q_GE422
     have NB406_422 := Aside0.mk (Q_NB406_422 hb10_)
     clear Q_NB406_422
     have NB422_406 := Aside0.mk (Q_NB422_406 hb10_)
     clear Q_NB422_406
     have HO417 := Aside0.mk (Q_HO417 hb1_)
     clear Q_HO417
     have HO421 := Aside0.mk (Q_HO421 hb6_)
     clear Q_HO421
     clear hall hb1_ hb3_ hb5_ hb6_ hb7_ hb8_ hb9_ hb10_ hb11_ hb12_
     try go_wp2
     have n0_ := Aside0.mk (Kd.R_drew HO410.out)
     have n1_ := Aside0.mk (Kd.R_drew HO414.out)
     have n2_ := Aside0.mk (Kd.R_drew HO417.out)
     have n3_ := Aside0.mk (Kd.R_drew HO421.out)
     have n4_ := Aside0.mk (bqD BK406.out)
     have n5_ := Aside0.mk (bqD BK422.out)
     have n6_ := Aside0.mk (lqD HB.out)
     clear HO410
     clear HO414
     clear HO417
     clear HO421
     clear BK406
     clear BK422
     clear HB
     have HO410 := n0_
     have HO414 := n1_
     have HO417 := n2_
     have HO421 := n3_
     have BK406 := n4_
     have BK422 := n5_
     have HB := n6_
     clear n0_ n1_ n2_ n3_ n4_ n5_ n6_
     refine start_ (n := 12) (S := fun w' => True) (ds := []) #[false, false, false, false, false, false, false, false, false, false, false, false] (by kernel_rfl) rfl rfl trivial (fun hHeld => ?_); refine with_tabW spilelaw39_SealEnds.tab7 spilelaw39_SealEnds.bits7 (fun HT_ HW_ => ?_)
     generalize w31.drew = w32 at HO410 HO414 HO417 HO421 BK406 BK422 HB hHeld ⊢
     refine pure_ (i := 0) (N := some 52) (v := ?_) (a' := ?_) #[true, false, false, false, false, false, false, false, false, false, false, false] rfl rfl (any_of HT_.out (by kernel_rfl)) (fun _ _ _ h => h) (Or.inl ⟨by rfl, ?_⟩) ?_ ?_
     rotate_left
     ·intro w'
      go_simp
      with_reducible rfl
     rotate_left
     ·simp only [Act.put, List.setIfInBounds_toArray, List.set_cons_zero, List.set_cons_succ, i64_w, i32_w]
      rfl
     refine pure_ (i := 2) (N := some 54) (v := ?_) (a' := ?_) #[true, false, true, false, false, false, false, false, false, false, false, false] rfl rfl (any_of HT_.out (by kernel_rfl)) (fun _ _ _ h => h) (Or.inl ⟨by rfl, ?_⟩) ?_ ?_
     rotate_left
     ·intro w'
      go_simp
      with_reducible rfl
     rotate_left
     ·simp only [Act.put, List.setIfInBounds_toArray, List.set_cons_zero, List.set_cons_succ, i64_w, i32_w]
      rfl
     refine pure_ (i := 4) (N := some 56) (v := ?_) (a' := ?_) #[true, false, true, false, true, false, false, false, false, false, false, false] rfl rfl (any_of HT_.out (by kernel_rfl)) (fun _ _ _ h => h) (Or.inl ⟨by rfl, ?_⟩) ?_ ?_
     rotate_left
     ·intro w'
      go_simp
      with_reducible rfl
     rotate_left
     ·simp only [Act.put, List.setIfInBounds_toArray, List.set_cons_zero, List.set_cons_succ, i64_w, i32_w]
      rfl
     refine inv_at [1, 3, 5, 6, 7, 8, 9, 10, 11] (fun a0_ b a w' => ∃ (v424 : Value) (v428 : Value) (gb430 : Nat) (m5_ : Value) (m6_ : Value) (m7_ : Value) (m9_ : Value), a = putSel a0_ b [(1, 53, v424), (3, 55, .int .i64 a1_0), (5, 57, m5_), (6, 51, m6_), (7, 58, m7_), (8, 59, .int .i64 t427), (9, 11, m9_), (11, 12, .int .i64 t427)] ∧ (w'.heap[gb406]? = some (.cells #[.int .i64 a1_0, .int .i64 a1_1, .int .i64 a1_2] 24 (0, 0))) ∧ (w'.heap[gb422]? = some (.cells #[v420] 28 (0, 0))) ∧ (Below w.heap.size w w') ∧ (b 9 = true → w'.heap[gb430]? = some (.cells #[if b 10 = true then v428 else .slice none 0 0] 28 (0, 0))) ∧ (b 9 = true → w.heap.size ≤ gb430) ∧ (b 9 = true → w.heap.size ≤ gb430) ∧ (b 9 = true → gb406 ≠ gb430) ∧ (b 9 = true → gb430 ≠ gb406) ∧ (b 9 = true → gb422 ≠ gb430) ∧ (b 9 = true → gb430 ≠ gb422) ∧ (Kd.R k34 34 w' w.heap.size (fun _ => True) (.slice Ao23 t408.length co23) t408) ∧ (Kd.R (Kd.int .i64) 3 w' w.heap.size (fun _ => True) v413 t411) ∧ (Kd.R k34 34 w' w.heap.size (fun _ => True) v416 t415) ∧ (Kd.R (Kd.int .i64) 3 w' w.heap.size (fun _ => True) v420 t418) ∧ (b 1 = true → Kd.R k34 34 w' w.heap.size (fun _ => True) v424 t423) ∧ (b 5 = true → Kd.R (Kd.int .i64) 3 w' w.heap.size (fun _ => True) v428 t426) ∧ (b 5 = true → (m5_ : Value) = .tuple #[v428, .int .i64 t427]) ∧ (b 6 = true → (m6_ : Value) = .tuple #[v428, .int .i64 t427]) ∧ (b 7 = true → (m7_ : Value) = v428) ∧ (b 9 = true → (m9_ : Value) = .pointer (some ⟨gb430, 0, none⟩))) HT_.out HW_.out (by kernel_rfl) (by kernel_rfl) ?_ ?_ ?_
     ·exact ⟨.bool false, .bool false, 0, .bool false, .bool false, .bool false, .bool false, by simp only [putSel, Bool.false_eq_true, if_false], BK406.out, BK422.out, HB.out, fun h_ => absurd h_ (by decide), fun h_ => absurd h_ (by decide), fun h_ => absurd h_ (by decide), fun h_ => absurd h_ (by decide), fun h_ => absurd h_ (by decide), fun h_ => absurd h_ (by decide), fun h_ => absurd h_ (by decide), Kd.R_mono HO410.out (fun _ _ => trivial), Kd.R_mono HO414.out (fun _ _ => trivial), Kd.R_mono HO417.out (fun _ _ => trivial), Kd.R_mono HO421.out (fun _ _ => trivial), fun h_ => absurd h_ (by decide), fun h_ => absurd h_ (by decide), fun h_ => absurd h_ (by decide), fun h_ => absurd h_ (by decide), fun h_ => absurd h_ (by decide), fun h_ => absurd h_ (by decide)⟩
     ·skip
      clear BK406 BK422 HB HO410 HO414 HO417 HO421
      refine steps_cons ?_ ?_
      ·rintro b a w' ⟨v424, v428, gb430, m5_, m6_, m7_, m9_, ha, Q_BK406, Q_BK422, Q_HB, Q_BK430, Q_GW430, Q_GE430, Q_NB406_430, Q_NB430_406, Q_NB422_430, Q_NB430_422, Q_HO410, Q_HO414, Q_HO417, Q_HO421, Q_HO425, Q_HO429, Q_X5_, Q_X6_, Q_X7_, Q_X9_⟩ hb_ hon hoff
       refine ⟨_, rfl, fun K hK => ?_⟩
       have e52 : a.tmps[52]? = some (.slice A0 l0.length c0) := by rw [ha]; exact (putSel_off rfl).trans rfl
       replace ha := Aside0.mk ha
       have BK406 := Aside0.mk Q_BK406
       have BK422 := Aside0.mk Q_BK422
       have HB := Aside0.mk Q_HB
       have HO410 := Aside0.mk Q_HO410
       have HO414 := Aside0.mk Q_HO414
       have HO417 := Aside0.mk Q_HO417
       have HO421 := Aside0.mk Q_HO421
       refine goes_ Try.func14 (by kernel_rfl) rfl #[.slice A0 l0.length c0] (by rfl) rfl rfl (by first | (simp only [List.map_toArray, List.map_cons, List.map_nil, Act.eval, Array.getD_eq_getD_getElem?, Option.getD_some, e52]; done) | (simp only [List.map_toArray, List.map_cons, List.map_nil, Act.eval, Array.getD_eq_getD_getElem?, Option.getD_some, e52]; rfl)) ?_
       with_reducible refine (clone34.calls _ _ l0 t423 _ ?side1 ?side2 A18.out).mono ?_
       (case side1 => repeat (first | exact (Kd.C_below HR0.out HB.out) | (with_reducible refine Kd.C_alloc ?_ _) | (with_reducible refine Kd.C_drewN ?_ _) | (with_reducible refine Kd.C_drew ?_)))
       (case side2 => exact HC0.out)
       rintro e w33 ⟨v424, rfl, ho0, hb⟩
       refine ⟨_, rfl, ?_⟩
       have n0_ := Aside0.mk (Kd.R_elder' (by (with_reducible repeat (first | apply Kd.R_alloc | apply Kd.R_drewN | apply Kd.R_drew)); exact HO410.out) (Kd.R_base ho0) hb)
       have n1_ := Aside0.mk (Kd.R_below (by (with_reducible repeat (first | apply Kd.R_alloc | apply Kd.R_drewN | apply Kd.R_drew)); exact HO414.out) hb)
       have n2_ := Aside0.mk (Kd.R_elder' (by (with_reducible repeat (first | apply Kd.R_alloc | apply Kd.R_drewN | apply Kd.R_drew)); exact HO417.out) (Kd.R_base ho0) hb)
       have n3_ := Aside0.mk (Kd.R_below (by (with_reducible repeat (first | apply Kd.R_alloc | apply Kd.R_drewN | apply Kd.R_drew)); exact HO421.out) hb)
       have n4_ := Aside0.mk (Kd.R_lower (Kd.R_new' (Kd.R_new' ho0 (Kd.R_lt (by (with_reducible repeat (first | apply Kd.R_alloc | apply Kd.R_drewN | apply Kd.R_drew)); exact HO410.out))) (Kd.R_lt (by (with_reducible repeat (first | apply Kd.R_alloc | apply Kd.R_drewN | apply Kd.R_drew)); exact HO417.out))) (lqZ (by repeat (first | (with_reducible first | exact HB.out | apply lqA | apply lqN | apply lqD | refine lqS ?_ GE406.out | refine lqS ?_ GE422.out) | exact HB.out))))
       have n5_ := Aside0.mk (bqB (g := gb406) (o := .cells #[.int .i64 a1_0, .int .i64 a1_1, .int .i64 a1_2] 24 (0, 0)) (by (with_reducible repeat (first | refine bqN ?_ _ | refine bqD ?_ | refine bqA ?_ _)); exact BK406.out) hb)
       have n6_ := Aside0.mk (bqB (g := gb422) (o := .cells #[v420] 28 (0, 0)) (by (with_reducible repeat (first | refine bqN ?_ _ | refine bqD ?_ | refine bqA ?_ _)); exact BK422.out) hb)
       have n7_ := Aside0.mk (lqT (by repeat (first | (with_reducible first | exact HB.out | apply lqA | apply lqN | apply lqD | refine lqS ?_ GE406.out | refine lqS ?_ GE422.out) | exact HB.out)) hb)
       have z_BK430 := fun (h0_ : b 9 = true) => (show w33.heap[gb430]? = some (.cells #[if b 10 = true then v428 else .slice none 0 0] 28 (0, 0)) from by have h_ := Q_BK430 h0_; rw [if_neg (by rw [hoff 10 (by kernel_rfl)]; decide)] at h_ ⊢; first | exact (bqB (g := gb430) (o := .cells #[.slice none 0 0] 28 (0, 0)) (by (with_reducible repeat (first | refine bqN ?_ _ | refine bqD ?_ | refine bqA ?_ _)); exact h_) hb))
       clear HO410
       clear HO414
       clear HO417
       clear HO421
       clear BK406
       clear BK422
       clear HB
       have HO410 := n0_
       have HO414 := n1_
       have HO417 := n2_
       have HO421 := n3_
       have HO425 := n4_
       have BK406 := n5_
       have BK422 := n6_
       have HB := n7_
       clear n0_ n1_ n2_ n3_ n4_ n5_ n6_ n7_
       (try clear hb)
       (try clear hb2)
       (try clear hk)
       (try clear hi)
       (try clear ho0)
       refine hK.out _ _ ⟨v424, v428, gb430, m5_, m6_, m7_, m9_, (by rw [ha.out]; exact putSel_upk 0 hb_ rfl rfl rfl), (by (with_reducible repeat (first | refine bqN ?_ _ | refine bqD ?_ | refine bqA ?_ _)); exact BK406.out), (by (with_reducible repeat (first | refine bqN ?_ _ | refine bqD ?_ | refine bqA ?_ _)); exact BK422.out), (by repeat (first | (with_reducible first | exact HB.out | apply lqA | apply lqN | apply lqD | refine lqS ?_ GE406.out | refine lqS ?_ GE422.out) | exact HB.out)), z_BK430, Q_GW430, Q_GE430, Q_NB406_430, Q_NB430_406, Q_NB422_430, Q_NB430_422, (by (with_reducible repeat (first | apply Kd.R_alloc | apply Kd.R_drewN | apply Kd.R_drew)); exact Kd.R_mono HO410.out (fun _ _ => trivial)), (by (with_reducible repeat (first | apply Kd.R_alloc | apply Kd.R_drewN | apply Kd.R_drew)); exact Kd.R_mono HO414.out (fun _ _ => trivial)), (by (with_reducible repeat (first | apply Kd.R_alloc | apply Kd.R_drewN | apply Kd.R_drew)); exact Kd.R_mono HO417.out (fun _ _ => trivial)), (by (with_reducible repeat (first | apply Kd.R_alloc | apply Kd.R_drewN | apply Kd.R_drew)); exact Kd.R_mono HO421.out (fun _ _ => trivial)), fun _ => (by (with_reducible repeat (first | apply Kd.R_alloc | apply Kd.R_drewN | apply Kd.R_drew)); exact Kd.R_mono HO425.out (fun _ _ => trivial)), fun h0_ => absurd ((hoff 5 (by kernel_rfl)).symm.trans h0_) (by decide), fun h0_ => absurd ((hoff 5 (by kernel_rfl)).symm.trans h0_) (by decide), fun h0_ => absurd ((hoff 6 (by kernel_rfl)).symm.trans h0_) (by decide), fun h0_ => absurd ((hoff 7 (by kernel_rfl)).symm.trans h0_) (by decide), Q_X9_⟩
      refine steps_cons ?_ ?_
      ·rintro b a w' ⟨v424, v428, gb430, m5_, m6_, m7_, m9_, ha, Q_BK406, Q_BK422, Q_HB, Q_BK430, Q_GW430, Q_GE430, Q_NB406_430, Q_NB430_406, Q_NB422_430, Q_NB430_422, Q_HO410, Q_HO414, Q_HO417, Q_HO421, Q_HO425, Q_HO429, Q_X5_, Q_X6_, Q_X7_, Q_X9_⟩ hb_ hon hoff
       refine ⟨_, rfl, fun K hK => ?_⟩
       have e54 : a.tmps[54]? = some (.pointer (some ⟨gb406, 0, none⟩)) := by rw [ha]; exact (putSel_off rfl).trans rfl
       replace ha := Aside0.mk ha
       have BK406 := Aside0.mk Q_BK406
       have BK422 := Aside0.mk Q_BK422
       have HB := Aside0.mk Q_HB
       have HO410 := Aside0.mk Q_HO410
       have HO414 := Aside0.mk Q_HO414
       have HO417 := Aside0.mk Q_HO417
       have HO421 := Aside0.mk Q_HO421
       have hc0_ : w'.cell? ⟨gb406, 0, none⟩ = some (.int .i64 a1_0) := (bqC BK406.out 0).trans rfl
       have hc1_ : w'.cell? ⟨gb406, 1, none⟩ = some (.int .i64 a1_1) := (bqC BK406.out 1).trans rfl
       have hc2_ : w'.cell? ⟨gb406, 2, none⟩ = some (.int .i64 a1_2) := (bqC BK406.out 2).trans rfl
       refine value_ (w1 := w') (v := .int .i64 a1_0) (by rfl) rfl ?_ ?_
       ·go_simp
        (try simp only [i64_w])
        try rfl
       refine hK.out _ _ ⟨v424, v428, gb430, m5_, m6_, m7_, m9_, (by rw [ha.out]; exact putSel_upk 1 hb_ rfl rfl rfl), Q_BK406, Q_BK422, Q_HB, Q_BK430, Q_GW430, Q_GE430, Q_NB406_430, Q_NB430_406, Q_NB422_430, Q_NB430_422, Q_HO410, Q_HO414, Q_HO417, Q_HO421, Q_HO425, fun h0_ => absurd ((hoff 5 (by kernel_rfl)).symm.trans h0_) (by decide), fun h0_ => absurd ((hoff 5 (by kernel_rfl)).symm.trans h0_) (by decide), fun h0_ => absurd ((hoff 6 (by kernel_rfl)).symm.trans h0_) (by decide), fun h0_ => absurd ((hoff 7 (by kernel_rfl)).symm.trans h0_) (by decide), Q_X9_⟩
      refine steps_cons ?_ ?_
      ·rintro b a w' ⟨v424, v428, gb430, m5_, m6_, m7_, m9_, ha, Q_BK406, Q_BK422, Q_HB, Q_BK430, Q_GW430, Q_GE430, Q_NB406_430, Q_NB430_406, Q_NB422_430, Q_NB430_422, Q_HO410, Q_HO414, Q_HO417, Q_HO421, Q_HO425, Q_HO429, Q_X5_, Q_X6_, Q_X7_, Q_X9_⟩ hb_ hon hoff
       refine ⟨_, rfl, fun K hK => ?_⟩
       have e53 : a.tmps[53]? = some (v424) := by rw [ha]; exact putSel_on (e := (1, 53, v424)) 0 rfl rfl (hon 1 (by kernel_rfl)) rfl
       have e55 : a.tmps[55]? = some (.int .i64 a1_0) := by rw [ha]; exact putSel_on (e := (3, 55, .int .i64 a1_0)) 1 rfl rfl (hon 3 (by kernel_rfl)) rfl
       have e56 : a.tmps[56]? = some (.int .i64 a2) := by rw [ha]; exact (putSel_off rfl).trans rfl
       replace ha := Aside0.mk ha
       have BK406 := Aside0.mk Q_BK406
       have BK422 := Aside0.mk Q_BK422
       have HB := Aside0.mk Q_HB
       have HO410 := Aside0.mk Q_HO410
       have HO414 := Aside0.mk Q_HO414
       have HO417 := Aside0.mk Q_HO417
       have HO421 := Aside0.mk Q_HO421
       have HO425 := Aside0.mk (Q_HO425 (hon 1 (by kernel_rfl)))
       obtain ⟨Ao35, co35, eo35⟩ := Kd.R_slice HO425.out
       (first | subst eo35 | (injection eo35 with f1_ f2_ f3_; have f4_ := f1_.symm; have f5_ := f3_.symm; clear f1_ f2_ f3_; subst f4_; subst f5_))
       refine goes_ Try.func13 (by kernel_rfl) rfl #[.slice Ao35 t423.length co35, .int .i64 a1_0, .int .i64 a2] (by rfl) rfl rfl (by first | (simp only [List.map_toArray, List.map_cons, List.map_nil, Act.eval, Array.getD_eq_getD_getElem?, Option.getD_some, e53, e55, e56]; done) | (simp only [List.map_toArray, List.map_cons, List.map_nil, Act.eval, Array.getD_eq_getD_getElem?, Option.getD_some, e53, e55, e56]; rfl)) ?_
       with_reducible refine (seal_Intact.calls _ _ t423 a1_0 a2 t426 t427 _ ?side1 ?side2 A19.out).mono ?_
       (case side1 => repeat (first | exact (Kd.R_reads' HO425.out).2.2 | (with_reducible refine Kd.C_alloc ?_ _) | (with_reducible refine Kd.C_drewN ?_ _) | (with_reducible refine Kd.C_drew ?_)))
       (case side2 => exact (Kd.R_reads' HO425.out).2.1)
       rintro e w36 ⟨v428, rfl, ho0, hb⟩
       refine ⟨_, rfl, ?_⟩
       have n0_ := Aside0.mk (Kd.R_below (by (with_reducible repeat (first | apply Kd.R_alloc | apply Kd.R_drewN | apply Kd.R_drew)); exact HO410.out) hb)
       have n1_ := Aside0.mk (Kd.R_elder' (by (with_reducible repeat (first | apply Kd.R_alloc | apply Kd.R_drewN | apply Kd.R_drew)); exact HO414.out) (Kd.R_base ho0) hb)
       have n2_ := Aside0.mk (Kd.R_below (by (with_reducible repeat (first | apply Kd.R_alloc | apply Kd.R_drewN | apply Kd.R_drew)); exact HO417.out) hb)
       have n3_ := Aside0.mk (Kd.R_elder' (by (with_reducible repeat (first | apply Kd.R_alloc | apply Kd.R_drewN | apply Kd.R_drew)); exact HO421.out) (Kd.R_base ho0) hb)
       have n4_ := Aside0.mk (Kd.R_below (by (with_reducible repeat (first | apply Kd.R_alloc | apply Kd.R_drewN | apply Kd.R_drew)); exact HO425.out) hb)
       have n5_ := Aside0.mk (Kd.R_lower (Kd.R_new' (Kd.R_new' ho0 (Kd.R_lt (by (with_reducible repeat (first | apply Kd.R_alloc | apply Kd.R_drewN | apply Kd.R_drew)); exact HO414.out))) (Kd.R_lt (by (with_reducible repeat (first | apply Kd.R_alloc | apply Kd.R_drewN | apply Kd.R_drew)); exact HO421.out))) (lqZ (by repeat (first | (with_reducible first | exact HB.out | apply lqA | apply lqN | apply lqD | refine lqS ?_ GE406.out | refine lqS ?_ GE422.out) | exact HB.out))))
       have n6_ := Aside0.mk (bqB (g := gb406) (o := .cells #[.int .i64 a1_0, .int .i64 a1_1, .int .i64 a1_2] 24 (0, 0)) (by (with_reducible repeat (first | refine bqN ?_ _ | refine bqD ?_ | refine bqA ?_ _)); exact BK406.out) hb)
       have n7_ := Aside0.mk (bqB (g := gb422) (o := .cells #[v420] 28 (0, 0)) (by (with_reducible repeat (first | refine bqN ?_ _ | refine bqD ?_ | refine bqA ?_ _)); exact BK422.out) hb)
       have n8_ := Aside0.mk (lqT (by repeat (first | (with_reducible first | exact HB.out | apply lqA | apply lqN | apply lqD | refine lqS ?_ GE406.out | refine lqS ?_ GE422.out) | exact HB.out)) hb)
       have z_BK430 := fun (h0_ : b 9 = true) => (show w36.heap[gb430]? = some (.cells #[if b 10 = true then v428 else .slice none 0 0] 28 (0, 0)) from by have h_ := Q_BK430 h0_; rw [if_neg (by rw [hoff 10 (by kernel_rfl)]; decide)] at h_ ⊢; first | exact (bqB (g := gb430) (o := .cells #[.slice none 0 0] 28 (0, 0)) (by (with_reducible repeat (first | refine bqN ?_ _ | refine bqD ?_ | refine bqA ?_ _)); exact h_) hb))
       clear HO410
       clear HO414
       clear HO417
       clear HO421
       clear HO425
       clear BK406
       clear BK422
       clear HB
       have HO410 := n0_
       have HO414 := n1_
       have HO417 := n2_
       have HO421 := n3_
       have HO425 := n4_
       have HO429 := n5_
       have BK406 := n6_
       have BK422 := n7_
       have HB := n8_
       clear n0_ n1_ n2_ n3_ n4_ n5_ n6_ n7_ n8_
       (try clear hb)
       (try clear hb2)
       (try clear hk)
       (try clear hi)
       (try clear ho0)
       refine hK.out _ _ ⟨.slice Ao35 t423.length co35, v428, gb430, (.tuple #[v428, .int .i64 t427]), m6_, m7_, m9_, (by rw [ha.out]; exact putSel_upk 2 hb_ rfl rfl rfl), (by (with_reducible repeat (first | refine bqN ?_ _ | refine bqD ?_ | refine bqA ?_ _)); exact BK406.out), (by (with_reducible repeat (first | refine bqN ?_ _ | refine bqD ?_ | refine bqA ?_ _)); exact BK422.out), (by repeat (first | (with_reducible first | exact HB.out | apply lqA | apply lqN | apply lqD | refine lqS ?_ GE406.out | refine lqS ?_ GE422.out) | exact HB.out)), z_BK430, Q_GW430, Q_GE430, Q_NB406_430, Q_NB430_406, Q_NB422_430, Q_NB430_422, (by (with_reducible repeat (first | apply Kd.R_alloc | apply Kd.R_drewN | apply Kd.R_drew)); exact Kd.R_mono HO410.out (fun _ _ => trivial)), (by (with_reducible repeat (first | apply Kd.R_alloc | apply Kd.R_drewN | apply Kd.R_drew)); exact Kd.R_mono HO414.out (fun _ _ => trivial)), (by (with_reducible repeat (first | apply Kd.R_alloc | apply Kd.R_drewN | apply Kd.R_drew)); exact Kd.R_mono HO417.out (fun _ _ => trivial)), (by (with_reducible repeat (first | apply Kd.R_alloc | apply Kd.R_drewN | apply Kd.R_drew)); exact Kd.R_mono HO421.out (fun _ _ => trivial)), fun _ => (by (with_reducible repeat (first | apply Kd.R_alloc | apply Kd.R_drewN | apply Kd.R_drew)); exact Kd.R_mono HO425.out (fun _ _ => trivial)), fun _ => (by (with_reducible repeat (first | apply Kd.R_alloc | apply Kd.R_drewN | apply Kd.R_drew)); exact Kd.R_mono HO429.out (fun _ _ => trivial)), fun _ => rfl, fun h0_ => absurd ((hoff 6 (by kernel_rfl)).symm.trans h0_) (by decide), fun h0_ => absurd ((hoff 7 (by kernel_rfl)).symm.trans h0_) (by decide), Q_X9_⟩
      refine steps_cons ?_ ?_
      ·rintro b a w' ⟨v424, v428, gb430, m5_, m6_, m7_, m9_, ha, Q_BK406, Q_BK422, Q_HB, Q_BK430, Q_GW430, Q_GE430, Q_NB406_430, Q_NB430_406, Q_NB422_430, Q_NB430_422, Q_HO410, Q_HO414, Q_HO417, Q_HO421, Q_HO425, Q_HO429, Q_X5_, Q_X6_, Q_X7_, Q_X9_⟩ hb_ hon hoff
       refine ⟨_, rfl, fun K hK => ?_⟩
       have e57 : a.tmps[57]? = some (m5_) := by rw [ha]; exact putSel_on (e := (5, 57, m5_)) 2 rfl rfl (hon 5 (by kernel_rfl)) rfl
       rw [Q_X5_ (hon 5 (by kernel_rfl))] at e57
       replace ha := Aside0.mk ha
       have BK406 := Aside0.mk Q_BK406
       have BK422 := Aside0.mk Q_BK422
       have HB := Aside0.mk Q_HB
       have HO410 := Aside0.mk Q_HO410
       have HO414 := Aside0.mk Q_HO414
       have HO417 := Aside0.mk Q_HO417
       have HO421 := Aside0.mk Q_HO421
       have HO425 := Aside0.mk (Q_HO425 (hon 1 (by kernel_rfl)))
       have HO429 := Aside0.mk (Q_HO429 (hon 5 (by kernel_rfl)))
       refine value_ (w1 := w') (v := .tuple #[v428, .int .i64 t427]) (by rfl) rfl ?_ ?_
       ·go_simp
        (try simp only [i64_w])
        try rfl
       refine hK.out _ _ ⟨v424, v428, gb430, m5_, (.tuple #[v428, .int .i64 t427]), m7_, m9_, (by rw [ha.out]; exact putSel_upk 3 hb_ rfl rfl rfl), Q_BK406, Q_BK422, Q_HB, Q_BK430, Q_GW430, Q_GE430, Q_NB406_430, Q_NB430_406, Q_NB422_430, Q_NB430_422, Q_HO410, Q_HO414, Q_HO417, Q_HO421, Q_HO425, Q_HO429, Q_X5_, fun _ => rfl, fun h0_ => absurd ((hoff 7 (by kernel_rfl)).symm.trans h0_) (by decide), Q_X9_⟩
      refine steps_cons ?_ ?_
      ·rintro b a w' ⟨v424, v428, gb430, m5_, m6_, m7_, m9_, ha, Q_BK406, Q_BK422, Q_HB, Q_BK430, Q_GW430, Q_GE430, Q_NB406_430, Q_NB430_406, Q_NB422_430, Q_NB430_422, Q_HO410, Q_HO414, Q_HO417, Q_HO421, Q_HO425, Q_HO429, Q_X5_, Q_X6_, Q_X7_, Q_X9_⟩ hb_ hon hoff
       refine ⟨_, rfl, fun K hK => ?_⟩
       have e51 : a.tmps[51]? = some (m6_) := by rw [ha]; exact putSel_on (e := (6, 51, m6_)) 3 rfl rfl (hon 6 (by kernel_rfl)) rfl
       rw [Q_X6_ (hon 6 (by kernel_rfl))] at e51
       replace ha := Aside0.mk ha
       have BK406 := Aside0.mk Q_BK406
       have BK422 := Aside0.mk Q_BK422
       have HB := Aside0.mk Q_HB
       have HO410 := Aside0.mk Q_HO410
       have HO414 := Aside0.mk Q_HO414
       have HO417 := Aside0.mk Q_HO417
       have HO421 := Aside0.mk Q_HO421
       have HO425 := Aside0.mk (Q_HO425 (hon 1 (by kernel_rfl)))
       have HO429 := Aside0.mk (Q_HO429 (hon 5 (by kernel_rfl)))
       obtain ⟨Ao7_0, co7_0, eo_⟩ := Kd.R_slice HO429.out
       subst eo_
       refine value_ (w1 := w') (v := .slice Ao7_0 t426.length co7_0) (by rfl) rfl ?_ ?_
       ·go_simp
        (try simp only [i64_w])
        try rfl
       refine hK.out _ _ ⟨v424, .slice Ao7_0 t426.length co7_0, gb430, m5_, m6_, (.slice Ao7_0 t426.length co7_0), m9_, (by rw [ha.out]; exact putSel_upk 4 hb_ rfl rfl rfl), Q_BK406, Q_BK422, Q_HB, Q_BK430, Q_GW430, Q_GE430, Q_NB406_430, Q_NB430_406, Q_NB422_430, Q_NB430_422, Q_HO410, Q_HO414, Q_HO417, Q_HO421, Q_HO425, Q_HO429, Q_X5_, Q_X6_, fun _ => rfl, Q_X9_⟩
      refine steps_cons ?_ ?_
      ·rintro b a w' ⟨v424, v428, gb430, m5_, m6_, m7_, m9_, ha, Q_BK406, Q_BK422, Q_HB, Q_BK430, Q_GW430, Q_GE430, Q_NB406_430, Q_NB430_406, Q_NB422_430, Q_NB430_422, Q_HO410, Q_HO414, Q_HO417, Q_HO421, Q_HO425, Q_HO429, Q_X5_, Q_X6_, Q_X7_, Q_X9_⟩ hb_ hon hoff
       refine ⟨_, rfl, fun K hK => ?_⟩
       have e51 : a.tmps[51]? = some (m6_) := by rw [ha]; exact putSel_on (e := (6, 51, m6_)) 3 rfl rfl (hon 6 (by kernel_rfl)) rfl
       rw [Q_X6_ (hon 6 (by kernel_rfl))] at e51
       replace ha := Aside0.mk ha
       have BK406 := Aside0.mk Q_BK406
       have BK422 := Aside0.mk Q_BK422
       have HB := Aside0.mk Q_HB
       have HO410 := Aside0.mk Q_HO410
       have HO414 := Aside0.mk Q_HO414
       have HO417 := Aside0.mk Q_HO417
       have HO421 := Aside0.mk Q_HO421
       have HO425 := Aside0.mk (Q_HO425 (hon 1 (by kernel_rfl)))
       have HO429 := Aside0.mk (Q_HO429 (hon 5 (by kernel_rfl)))
       obtain ⟨Ao8_0, co8_0, eo_⟩ := Kd.R_slice HO429.out
       subst eo_
       refine value_ (w1 := w') (v := .int .i64 t427) (by rfl) rfl ?_ ?_
       ·go_simp
        (try simp only [i64_w])
        try rfl
       refine hK.out _ _ ⟨v424, .slice Ao8_0 t426.length co8_0, gb430, m5_, m6_, m7_, m9_, (by rw [ha.out]; exact putSel_upk 5 hb_ rfl rfl rfl), Q_BK406, Q_BK422, Q_HB, Q_BK430, Q_GW430, Q_GE430, Q_NB406_430, Q_NB430_406, Q_NB422_430, Q_NB430_422, Q_HO410, Q_HO414, Q_HO417, Q_HO421, Q_HO425, Q_HO429, Q_X5_, Q_X6_, Q_X7_, Q_X9_⟩
      refine steps_cons ?_ ?_
      ·rintro b a w' ⟨v424, v428, gb430, m5_, m6_, m7_, m9_, ha, Q_BK406, Q_BK422, Q_HB, Q_BK430, Q_GW430, Q_GE430, Q_NB406_430, Q_NB430_406, Q_NB422_430, Q_NB430_422, Q_HO410, Q_HO414, Q_HO417, Q_HO421, Q_HO425, Q_HO429, Q_X5_, Q_X6_, Q_X7_, Q_X9_⟩ hb_ hon hoff
       refine ⟨_, rfl, fun K hK => ?_⟩
       replace ha := Aside0.mk ha
       have BK406 := Aside0.mk Q_BK406
       have BK422 := Aside0.mk Q_BK422
       have HB := Aside0.mk Q_HB
       have HO410 := Aside0.mk Q_HO410
       have HO414 := Aside0.mk Q_HO414
       have HO417 := Aside0.mk Q_HO417
       have HO421 := Aside0.mk Q_HO421
       refine box_step ?hg (N := 11) ?hd (cs := #[.slice none 0 0]) (t := 28) ?hr ?_; (case hd => rfl); (case hg => rfl); (case hr => first | (go_simp; done) | (go_simp; rfl))
       intro gb430 hg w33 hbox hb
       have n0_ := Aside0.mk (Kd.R_below (by (with_reducible repeat (first | apply Kd.R_alloc | apply Kd.R_drewN | apply Kd.R_drew)); exact HO410.out) hb)
       have n1_ := Aside0.mk (Kd.R_below (by (with_reducible repeat (first | apply Kd.R_alloc | apply Kd.R_drewN | apply Kd.R_drew)); exact HO414.out) hb)
       have n2_ := Aside0.mk (Kd.R_below (by (with_reducible repeat (first | apply Kd.R_alloc | apply Kd.R_drewN | apply Kd.R_drew)); exact HO417.out) hb)
       have n3_ := Aside0.mk (Kd.R_below (by (with_reducible repeat (first | apply Kd.R_alloc | apply Kd.R_drewN | apply Kd.R_drew)); exact HO421.out) hb)
       have n4_ := Aside0.mk (bqB (g := gb406) (o := .cells #[.int .i64 a1_0, .int .i64 a1_1, .int .i64 a1_2] 24 (0, 0)) (by (with_reducible repeat (first | refine bqN ?_ _ | refine bqD ?_ | refine bqA ?_ _)); exact BK406.out) hb)
       have n5_ := Aside0.mk (bqB (g := gb422) (o := .cells #[v420] 28 (0, 0)) (by (with_reducible repeat (first | refine bqN ?_ _ | refine bqD ?_ | refine bqA ?_ _)); exact BK422.out) hb)
       have n6_ := Aside0.mk (lqT (by repeat (first | (with_reducible first | exact HB.out | apply lqA | apply lqN | apply lqD | refine lqS ?_ GE406.out | refine lqS ?_ GE422.out) | exact HB.out)) hb)
       have n7_ := Aside0.mk (hbox)
       have n8_ := Aside0.mk ((by rw [hg]; exact (lqZ (by repeat (first | (with_reducible first | exact HB.out | apply lqA | apply lqN | apply lqD | refine lqS ?_ GE406.out | refine lqS ?_ GE422.out) | exact HB.out))) : w.heap.size ≤ gb430))
       have n9_ := Aside0.mk ((by rw [hg]; exact (lqZ (by repeat (first | (with_reducible first | exact HB.out | apply lqA | apply lqN | apply lqD | refine lqS ?_ GE406.out | refine lqS ?_ GE422.out) | exact HB.out))) : w.heap.size ≤ gb430))
       have n10_ := Aside0.mk ((by rw [hg]; exact Nat.ne_of_lt (blk_lt (g := gb406) (o := .cells #[.int .i64 a1_0, .int .i64 a1_1, .int .i64 a1_2] 24 (0, 0)) (by (with_reducible repeat (first | refine bqN ?_ _ | refine bqD ?_ | refine bqA ?_ _)); exact BK406.out)) : gb406 ≠ gb430))
       have n11_ := Aside0.mk ((by rw [hg]; exact Nat.ne_of_gt (blk_lt (g := gb406) (o := .cells #[.int .i64 a1_0, .int .i64 a1_1, .int .i64 a1_2] 24 (0, 0)) (by (with_reducible repeat (first | refine bqN ?_ _ | refine bqD ?_ | refine bqA ?_ _)); exact BK406.out)) : gb430 ≠ gb406))
       have n12_ := Aside0.mk ((by rw [hg]; exact Nat.ne_of_lt (blk_lt (g := gb422) (o := .cells #[v420] 28 (0, 0)) (by (with_reducible repeat (first | refine bqN ?_ _ | refine bqD ?_ | refine bqA ?_ _)); exact BK422.out)) : gb422 ≠ gb430))
       have n13_ := Aside0.mk ((by rw [hg]; exact Nat.ne_of_gt (blk_lt (g := gb422) (o := .cells #[v420] 28 (0, 0)) (by (with_reducible repeat (first | refine bqN ?_ _ | refine bqD ?_ | refine bqA ?_ _)); exact BK422.out)) : gb430 ≠ gb422))
       have z_HO425 := fun (h0_ : b 1 = true) => (show Kd.R k34 34 w33 w.heap.size (fun _ => True) v424 t423 from by first | exact (Kd.R_below (by (with_reducible repeat (first | apply Kd.R_alloc | apply Kd.R_drewN | apply Kd.R_drew)); exact (Q_HO425 h0_)) hb) | exact Kd.R_mono (Kd.R_below (by (with_reducible repeat (first | apply Kd.R_alloc | apply Kd.R_drewN | apply Kd.R_drew)); exact (Q_HO425 h0_)) hb) (fun _ h_ => by first | trivial | exact h_ | exact h_.1 | exact ⟨h_.1, h_.2.1⟩ | exact ⟨h_.1, h_.2.1, h_.2.2.1⟩ | simp_all))
       have z_HO429 := fun (h0_ : b 5 = true) => (show Kd.R (Kd.int .i64) 3 w33 w.heap.size (fun _ => True) v428 t426 from by first | exact (Kd.R_below (by (with_reducible repeat (first | apply Kd.R_alloc | apply Kd.R_drewN | apply Kd.R_drew)); exact (Q_HO429 h0_)) hb) | exact Kd.R_mono (Kd.R_below (by (with_reducible repeat (first | apply Kd.R_alloc | apply Kd.R_drewN | apply Kd.R_drew)); exact (Q_HO429 h0_)) hb) (fun _ h_ => by first | trivial | exact h_ | exact h_.1 | exact ⟨h_.1, h_.2.1⟩ | exact ⟨h_.1, h_.2.1, h_.2.2.1⟩ | simp_all))
       clear HO410
       clear HO414
       clear HO417
       clear HO421
       clear BK406
       clear BK422
       clear HB
       have HO410 := n0_
       have HO414 := n1_
       have HO417 := n2_
       have HO421 := n3_
       have BK406 := n4_
       have BK422 := n5_
       have HB := n6_
       have BK430 := n7_
       have GW430 := n8_
       have GE430 := n9_
       have NB406_430 := n10_
       have NB430_406 := n11_
       have NB422_430 := n12_
       have NB430_422 := n13_
       clear n0_ n1_ n2_ n3_ n4_ n5_ n6_ n7_ n8_ n9_ n10_ n11_ n12_ n13_
       clear hb hbox hg
       refine hK.out _ _ ⟨v424, v428, gb430, m5_, m6_, m7_, (.pointer (some ⟨gb430, 0, none⟩)), (by rw [ha.out]; exact putSel_upk 6 hb_ rfl rfl rfl), (by (with_reducible repeat (first | refine bqN ?_ _ | refine bqD ?_ | refine bqA ?_ _)); exact BK406.out), (by (with_reducible repeat (first | refine bqN ?_ _ | refine bqD ?_ | refine bqA ?_ _)); exact BK422.out), (by repeat (first | (with_reducible first | exact HB.out | apply lqA | apply lqN | apply lqD | refine lqS ?_ GE406.out | refine lqS ?_ GE422.out | refine lqS ?_ GE430.out) | exact HB.out)), fun _ => (by have h11_ : b 10 = false := hoff 10 (by kernel_rfl); show (_ : Option Obj) = some (Obj.cells #[if b 10 = true then v428 else .slice none 0 0] 28 (0, 0)); rw [if_neg (by rw [h11_]; decide)]; (with_reducible repeat (first | refine bqN ?_ _ | refine bqD ?_ | refine bqA ?_ _)); exact BK430.out), fun _ => GW430.out, fun _ => GE430.out, fun _ => NB406_430.out, fun _ => NB430_406.out, fun _ => NB422_430.out, fun _ => NB430_422.out, (by (with_reducible repeat (first | apply Kd.R_alloc | apply Kd.R_drewN | apply Kd.R_drew)); exact Kd.R_mono HO410.out (fun _ _ => trivial)), (by (with_reducible repeat (first | apply Kd.R_alloc | apply Kd.R_drewN | apply Kd.R_drew)); exact Kd.R_mono HO414.out (fun _ _ => trivial)), (by (with_reducible repeat (first | apply Kd.R_alloc | apply Kd.R_drewN | apply Kd.R_drew)); exact Kd.R_mono HO417.out (fun _ _ => trivial)), (by (with_reducible repeat (first | apply Kd.R_alloc | apply Kd.R_drewN | apply Kd.R_drew)); exact Kd.R_mono HO421.out (fun _ _ => trivial)), z_HO425, z_HO429, Q_X5_, Q_X6_, Q_X7_, fun _ => rfl⟩
      refine steps_cons ?_ ?_
      ·rintro b a w' ⟨v424, v428, gb430, m5_, m6_, m7_, m9_, ha, Q_BK406, Q_BK422, Q_HB, Q_BK430, Q_GW430, Q_GE430, Q_NB406_430, Q_NB430_406, Q_NB422_430, Q_NB430_422, Q_HO410, Q_HO414, Q_HO417, Q_HO421, Q_HO425, Q_HO429, Q_X5_, Q_X6_, Q_X7_, Q_X9_⟩ hb_ hon hoff
       refine ⟨_, rfl, fun K hK => ?_⟩
       have e11 : a.tmps[11]? = some (m9_) := by rw [ha]; exact putSel_on (e := (9, 11, m9_)) 6 rfl rfl (hon 9 (by kernel_rfl)) rfl
       rw [Q_X9_ (hon 9 (by kernel_rfl))] at e11
       have e58 : a.tmps[58]? = some (m7_) := by rw [ha]; exact putSel_on (e := (7, 58, m7_)) 4 rfl rfl (hon 7 (by kernel_rfl)) rfl
       rw [Q_X7_ (hon 7 (by kernel_rfl))] at e58
       replace ha := Aside0.mk ha
       have BK406 := Aside0.mk Q_BK406
       have BK422 := Aside0.mk Q_BK422
       have HB := Aside0.mk Q_HB
       have BK430 := Aside0.mk (show w'.heap[gb430]? = some (.cells #[.slice none 0 0] 28 (0, 0)) from by have h_ := Q_BK430 (hon 9 (by kernel_rfl)); rw [if_neg (by rw [hb_]; decide)] at h_; exact h_)
       have GW430 := Aside0.mk (Q_GW430 (hon 9 (by kernel_rfl)))
       have GE430 := Aside0.mk (Q_GE430 (hon 9 (by kernel_rfl)))
       have NB406_430 := Aside0.mk (Q_NB406_430 (hon 9 (by kernel_rfl)))
       have NB430_406 := Aside0.mk (Q_NB430_406 (hon 9 (by kernel_rfl)))
       have NB422_430 := Aside0.mk (Q_NB422_430 (hon 9 (by kernel_rfl)))
       have NB430_422 := Aside0.mk (Q_NB430_422 (hon 9 (by kernel_rfl)))
       have HO410 := Aside0.mk Q_HO410
       have HO414 := Aside0.mk Q_HO414
       have HO417 := Aside0.mk Q_HO417
       have HO421 := Aside0.mk Q_HO421
       have HO425 := Aside0.mk (Q_HO425 (hon 1 (by kernel_rfl)))
       have HO429 := Aside0.mk (Q_HO429 (hon 5 (by kernel_rfl)))
       have hs38 : w'.cell? ⟨gb430, 0, none⟩ = some (.slice none 0 0) := (bqC BK430.out 0).trans rfl
       have hfs38 := bqF BK430.out 0
       have hns38_0 := NB406_430.out
       have hns38_1 := NB422_430.out
       have hms38_0 := NB430_406.out
       have hms38_1 := NB430_422.out
       obtain ⟨Aob_, cob_, eob_⟩ := Kd.R_slice HO429.out
       subst eob_
       refine skip_ (w1 := ?_) (by rfl) rfl ?_ ?_
       rotate_left
       ·go_simp
        rfl
       refine hK.out _ _ ⟨v424, .slice Aob_ t426.length cob_, gb430, m5_, m6_, m7_, m9_, (by rw [ha.out]; exact putSel_none (v := undef) rfl), (by (with_reducible repeat (first | refine bqN ?_ _ | refine bqD ?_ | refine bqA ?_ _)); refine blk_far ?_ NB406_430.out _; (with_reducible repeat (first | refine bqN ?_ _ | refine bqD ?_ | refine bqA ?_ _)); exact BK406.out), (by (with_reducible repeat (first | refine bqN ?_ _ | refine bqD ?_ | refine bqA ?_ _)); refine blk_far ?_ NB422_430.out _; (with_reducible repeat (first | refine bqN ?_ _ | refine bqD ?_ | refine bqA ?_ _)); exact BK422.out), (by repeat (first | (with_reducible first | exact HB.out | apply lqA | apply lqN | apply lqD | refine lqS ?_ GE406.out | refine lqS ?_ GE422.out | refine lqS ?_ GE430.out) | exact HB.out)), fun _ => (by (with_reducible repeat (first | refine bqN ?_ _ | refine bqD ?_ | refine bqA ?_ _)); refine bqP (cs := #[.slice none 0 0]) ?_ 0 _ rfl; (with_reducible repeat (first | refine bqN ?_ _ | refine bqD ?_ | refine bqA ?_ _)); exact BK430.out), fun _ => GW430.out, fun _ => GE430.out, fun _ => NB406_430.out, fun _ => NB430_406.out, fun _ => NB422_430.out, fun _ => NB430_422.out, (by (with_reducible repeat (first | apply Kd.R_alloc | apply Kd.R_drewN | apply Kd.R_drew)); exact Kd.R_mono (Kd.R_far (p := ⟨gb430, 0, none⟩) (Kd.R_types HO410.out BK430.out (by decide)) (fun _ hk => hk.2) (.slice Aob_ t426.length cob_)) (fun _ _ => trivial)), (by (with_reducible repeat (first | apply Kd.R_alloc | apply Kd.R_drewN | apply Kd.R_drew)); exact Kd.R_mono (Kd.R_far (p := ⟨gb430, 0, none⟩) (Kd.R_types HO414.out BK430.out (by decide)) (fun _ hk => hk.2) (.slice Aob_ t426.length cob_)) (fun _ _ => trivial)), (by (with_reducible repeat (first | apply Kd.R_alloc | apply Kd.R_drewN | apply Kd.R_drew)); exact Kd.R_mono (Kd.R_far (p := ⟨gb430, 0, none⟩) (Kd.R_types HO417.out BK430.out (by decide)) (fun _ hk => hk.2) (.slice Aob_ t426.length cob_)) (fun _ _ => trivial)), (by (with_reducible repeat (first | apply Kd.R_alloc | apply Kd.R_drewN | apply Kd.R_drew)); exact Kd.R_mono (Kd.R_far (p := ⟨gb430, 0, none⟩) (Kd.R_types HO421.out BK430.out (by decide)) (fun _ hk => hk.2) (.slice Aob_ t426.length cob_)) (fun _ _ => trivial)), fun _ => (by (with_reducible repeat (first | apply Kd.R_alloc | apply Kd.R_drewN | apply Kd.R_drew)); exact Kd.R_mono (Kd.R_far (p := ⟨gb430, 0, none⟩) (Kd.R_types HO425.out BK430.out (by decide)) (fun _ hk => hk.2) (.slice Aob_ t426.length cob_)) (fun _ _ => trivial)), fun _ => (by (with_reducible repeat (first | apply Kd.R_alloc | apply Kd.R_drewN | apply Kd.R_drew)); exact Kd.R_mono (Kd.R_far (p := ⟨gb430, 0, none⟩) (Kd.R_types HO429.out BK430.out (by decide)) (fun _ hk => hk.2) (.slice Aob_ t426.length cob_)) (fun _ _ => trivial)), Q_X5_, Q_X6_, Q_X7_, Q_X9_⟩
      refine steps_cons ?_ ?_
      ·rintro b a w' ⟨v424, v428, gb430, m5_, m6_, m7_, m9_, ha, Q_BK406, Q_BK422, Q_HB, Q_BK430, Q_GW430, Q_GE430, Q_NB406_430, Q_NB430_406, Q_NB422_430, Q_NB430_422, Q_HO410, Q_HO414, Q_HO417, Q_HO421, Q_HO425, Q_HO429, Q_X5_, Q_X6_, Q_X7_, Q_X9_⟩ hb_ hon hoff
       refine ⟨_, rfl, fun K hK => ?_⟩
       have e59 : a.tmps[59]? = some (.int .i64 t427) := by rw [ha]; exact putSel_on (e := (8, 59, .int .i64 t427)) 5 rfl rfl (hon 8 (by kernel_rfl)) rfl
       replace ha := Aside0.mk ha
       have BK406 := Aside0.mk Q_BK406
       have BK422 := Aside0.mk Q_BK422
       have HB := Aside0.mk Q_HB
       have BK430 := Aside0.mk (Q_BK430 (hon 9 (by kernel_rfl)))
       have GW430 := Aside0.mk (Q_GW430 (hon 9 (by kernel_rfl)))
       have GE430 := Aside0.mk (Q_GE430 (hon 9 (by kernel_rfl)))
       have NB406_430 := Aside0.mk (Q_NB406_430 (hon 9 (by kernel_rfl)))
       have NB430_406 := Aside0.mk (Q_NB430_406 (hon 9 (by kernel_rfl)))
       have NB422_430 := Aside0.mk (Q_NB422_430 (hon 9 (by kernel_rfl)))
       have NB430_422 := Aside0.mk (Q_NB430_422 (hon 9 (by kernel_rfl)))
       have HO410 := Aside0.mk Q_HO410
       have HO414 := Aside0.mk Q_HO414
       have HO417 := Aside0.mk Q_HO417
       have HO421 := Aside0.mk Q_HO421
       have HO425 := Aside0.mk (Q_HO425 (hon 1 (by kernel_rfl)))
       have HO429 := Aside0.mk (Q_HO429 (hon 5 (by kernel_rfl)))
       refine value_ (w1 := w') (v := .int .i64 t427) (by rfl) rfl ?_ ?_
       ·go_simp
        (try simp only [i64_w])
        try rfl
       refine hK.out _ _ ⟨v424, v428, gb430, m5_, m6_, m7_, m9_, (by rw [ha.out]; exact putSel_upk 7 hb_ rfl rfl rfl), Q_BK406, Q_BK422, Q_HB, Q_BK430, Q_GW430, Q_GE430, Q_NB406_430, Q_NB430_406, Q_NB422_430, Q_NB430_422, Q_HO410, Q_HO414, Q_HO417, Q_HO421, Q_HO425, Q_HO429, Q_X5_, Q_X6_, Q_X7_, Q_X9_⟩
      exact steps_nil
     rintro b a w38 hall ⟨v424, v428, gb430, m5_, m6_, m7_, m9_, ha, Q_BK406, Q_BK422, Q_HB, Q_BK430, Q_GW430, Q_GE430, Q_NB406_430, Q_NB430_406, Q_NB422_430, Q_NB430_422, Q_HO410, Q_HO414, Q_HO417, Q_HO421, Q_HO425, Q_HO429, Q_X5_, Q_X6_, Q_X7_, Q_X9_⟩
     clear BK406 BK422 HB HO410 HO414 HO417 HO421
     have hb1_ := hall 1 (by kernel_rfl)
     have hb3_ := hall 3 (by kernel_rfl)
     have hb5_ := hall 5 (by kernel_rfl)
     have hb6_ := hall 6 (by kernel_rfl)
     have hb7_ := hall 7 (by kernel_rfl)
     have hb8_ := hall 8 (by kernel_rfl)
     have hb9_ := hall 9 (by kernel_rfl)
     have hb10_ := hall 10 (by kernel_rfl)
     have hb11_ := hall 11 (by kernel_rfl)
     subst ha
     obtain rfl := Q_X5_ hb5_
     obtain rfl := Q_X6_ hb6_
     obtain rfl := (Q_X7_ hb7_).symm
     obtain rfl := Q_X9_ hb9_
     simp only [putSel, hb1_, hb3_, hb5_, hb6_, hb7_, hb8_, hb9_, hb10_, hb11_, if_true, Act.put, List.setIfInBounds_toArray, List.set_cons_zero, List.set_cons_succ]
     have BK406 := Aside0.mk Q_BK406
     clear Q_BK406
     have BK422 := Aside0.mk Q_BK422
     clear Q_BK422
     have HB := Aside0.mk Q_HB
     clear Q_HB
     have BK430 := Aside0.mk (by have h_ := Q_BK430 hb9_; rw [if_pos hb10_] at h_; exact h_)
     clear Q_BK430
     have GW430 := Aside0.mk (Q_GW430 hb9_)
     clear Q_GW430
     have GE430 := Aside0.mk (Q_GE430 hb9_)
     clear Q_GE430
     have NB406_430 := Aside0.mk (Q_NB406_430 hb9_)
     clear Q_NB406_430
     have NB430_406 := Aside0.mk (Q_NB430_406 hb9_)
     clear Q_NB430_406
     have NB422_430 := Aside0.mk (Q_NB422_430 hb9_)
     clear Q_NB422_430
     have NB430_422 := Aside0.mk (Q_NB430_422 hb9_)
     clear Q_NB430_422
     have HO410 := Aside0.mk Q_HO410
     clear Q_HO410
     have HO414 := Aside0.mk Q_HO414
     clear Q_HO414
     have HO417 := Aside0.mk Q_HO417
     clear Q_HO417
     have HO421 := Aside0.mk Q_HO421
     clear Q_HO421
     have HO425 := Aside0.mk (Q_HO425 hb1_)
     clear Q_HO425
     have HO429 := Aside0.mk (Q_HO429 hb5_)
     clear Q_HO429
     clear hall hb1_ hb3_ hb5_ hb6_ hb7_ hb8_ hb9_ hb10_ hb11_
     go_upto_region 8 with (fail)
     go_cut [69] (fun v69 wc => ∃ (kq : Nat) (x69_19 : Bool), v69 = .bool x69_19 ∧ Aside0 (spilelaw39_SealEnds.j1 kq t411 t412 t419 t418 t426 x69_19 = some r) ∧ Aside0 (kq ≤ kj5) ∧ Aside0 (Kd.R (Kd.int .i64) 3 wc w.heap.size (fun _ => True) v413 t411) ∧ Aside0 (Kd.R (Kd.int .i64) 3 wc w.heap.size (fun _ => True) v420 t418) ∧ Aside0 (Kd.R (Kd.int .i64) 3 wc w.heap.size (fun _ => True) v428 t426) ∧ Aside0 (wc.heap[gb406]? = some (.cells #[.int .i64 a1_0, .int .i64 a1_1, .int .i64 a1_2] 24 (0, 0))) ∧ Aside0 (wc.heap[gb422]? = some (.cells #[v420] 28 (0, 0))) ∧ Aside0 (wc.heap[gb430]? = some (.cells #[v428] 28 (0, 0))) ∧ Aside0 (Below w.heap.size w wc))
     case first =>
      have H := HC20.out
      clear HC20
      by_cases c39 : t412 = 0
      ·rw [if_pos c39] at H
       have c39b0 : (t412 == 0) = true := beq_iff_eq.mpr c39
       try simp only [beq_self_eq_true, Bool.not_true, Bool.false_or, Bool.true_and] at c39b0
       have c39b1 : (t412 != 0) = false := bne_eq_false_iff_eq.mpr c39
       clear c39
       (first | rw [c39b0] | (simp only [i64_w, i32_w]; rw [c39b0]) | skip)
       by_cases c40 : t419 = 0
       ·rw [if_pos c40] at H
        have c40b0 : (t419 == 0) = true := beq_iff_eq.mpr c40
        try simp only [beq_self_eq_true, Bool.not_true, Bool.false_or, Bool.true_and] at c40b0
        have c40b1 : (t419 != 0) = false := bne_eq_false_iff_eq.mpr c40
        clear c40
        have H' := Aside0.mk H
        clear H
        go_wp2
        go_meet
        case rel => exact ⟨_, ((t427 != 0)), (by first | rfl | (simp; done) | (simp [*]; done)), H', ⟨by have := HJ5.out; first | omega | exact Nat.le_refl _⟩, ⟨by (with_reducible repeat (first | apply Kd.R_alloc | apply Kd.R_drewN | apply Kd.R_drew)); exact HO414.out⟩, ⟨by (with_reducible repeat (first | apply Kd.R_alloc | apply Kd.R_drewN | apply Kd.R_drew)); exact HO421.out⟩, ⟨by (with_reducible repeat (first | apply Kd.R_alloc | apply Kd.R_drewN | apply Kd.R_drew)); exact HO429.out⟩, ⟨by (with_reducible repeat (first | refine bqN ?_ _ | refine bqD ?_ | refine bqA ?_ _)); exact BK406.out⟩, ⟨by (with_reducible repeat (first | refine bqN ?_ _ | refine bqD ?_ | refine bqA ?_ _)); exact BK422.out⟩, ⟨by (with_reducible repeat (first | refine bqN ?_ _ | refine bqD ?_ | refine bqA ?_ _)); exact BK430.out⟩, ⟨by repeat (first | (with_reducible first | exact HB.out | apply lqA | apply lqN | apply lqD | refine lqS ?_ GE406.out | refine lqS ?_ GE422.out | refine lqS ?_ GE430.out) | exact HB.out)⟩⟩
       ·rw [if_neg c40] at H
        have c40b0 : (t419 == 0) = false := beq_eq_false_iff_ne.mpr c40
        try simp only [beq_self_eq_true, Bool.not_true, Bool.false_or, Bool.true_and] at c40b0
        have c40b1 : (t419 != 0) = true := bne_iff_ne.mpr c40
        have H' := Aside0.mk H
        clear H
        go_wp2
        go_meet
        case rel => exact ⟨_, (true), (by first | rfl | (simp; done) | (simp [*]; done)), H', ⟨by have := HJ5.out; first | omega | exact Nat.le_refl _⟩, ⟨by (with_reducible repeat (first | apply Kd.R_alloc | apply Kd.R_drewN | apply Kd.R_drew)); exact HO414.out⟩, ⟨by (with_reducible repeat (first | apply Kd.R_alloc | apply Kd.R_drewN | apply Kd.R_drew)); exact HO421.out⟩, ⟨by (with_reducible repeat (first | apply Kd.R_alloc | apply Kd.R_drewN | apply Kd.R_drew)); exact HO429.out⟩, ⟨by (with_reducible repeat (first | refine bqN ?_ _ | refine bqD ?_ | refine bqA ?_ _)); exact BK406.out⟩, ⟨by (with_reducible repeat (first | refine bqN ?_ _ | refine bqD ?_ | refine bqA ?_ _)); exact BK422.out⟩, ⟨by (with_reducible repeat (first | refine bqN ?_ _ | refine bqD ?_ | refine bqA ?_ _)); exact BK430.out⟩, ⟨by repeat (first | (with_reducible first | exact HB.out | apply lqA | apply lqN | apply lqD | refine lqS ?_ GE406.out | refine lqS ?_ GE422.out | refine lqS ?_ GE430.out) | exact HB.out)⟩⟩
      ·rw [if_neg c39] at H
       have c39b0 : (t412 == 0) = false := beq_eq_false_iff_ne.mpr c39
       try simp only [beq_self_eq_true, Bool.not_true, Bool.false_or, Bool.true_and] at c39b0
       have c39b1 : (t412 != 0) = true := bne_iff_ne.mpr c39
       (first | rw [c39b0] | (simp only [i64_w, i32_w]; rw [c39b0]) | skip)
       have H' := Aside0.mk H
       clear H
       go_wp2
       go_meet
       case rel => exact ⟨_, (true), (by first | rfl | (simp; done) | (simp [*]; done)), H', ⟨by have := HJ5.out; first | omega | exact Nat.le_refl _⟩, ⟨by (with_reducible repeat (first | apply Kd.R_alloc | apply Kd.R_drewN | apply Kd.R_drew)); exact HO414.out⟩, ⟨by (with_reducible repeat (first | apply Kd.R_alloc | apply Kd.R_drewN | apply Kd.R_drew)); exact HO421.out⟩, ⟨by (with_reducible repeat (first | apply Kd.R_alloc | apply Kd.R_drewN | apply Kd.R_drew)); exact HO429.out⟩, ⟨by (with_reducible repeat (first | refine bqN ?_ _ | refine bqD ?_ | refine bqA ?_ _)); exact BK406.out⟩, ⟨by (with_reducible repeat (first | refine bqN ?_ _ | refine bqD ?_ | refine bqA ?_ _)); exact BK422.out⟩, ⟨by (with_reducible repeat (first | refine bqN ?_ _ | refine bqD ?_ | refine bqA ?_ _)); exact BK430.out⟩, ⟨by repeat (first | (with_reducible first | exact HB.out | apply lqA | apply lqN | apply lqD | refine lqS ?_ GE406.out | refine lqS ?_ GE422.out | refine lqS ?_ GE430.out) | exact HB.out)⟩⟩
     case rest =>
      clear HC20
      try clear c1
      try clear c2
      try clear p2
      try clear c3
      try clear c4
      try clear c13
      try clear c14
      try clear c39
      try clear c39b0
      try clear c39b1
      try clear c40
      try clear c40b0
      try clear c40b1
      obtain ⟨kq, x69_19, rfl, HA, HJ19, HO_7, HO_49, HO_58, BK406, BK422, BK430, HB⟩ := hcut
      cases kq with
      | zero => exact absurd HA.out (by simp [spilelaw39_SealEnds.j1])
      | succ kj19 =>
       have H := HA.out
       clear HA
       simp only [spilelaw39_SealEnds.j1] at H
       by_cases c41 : x69_19 = true
       ·subst c41
        have H1 : (if t412 = 0 then (if t419 = 0 then (some ((t426.length : Int) == 0)) else (if (t418.length : Int) = 0 then (some true) else (some ((t426.length : Int) == 0)))) else (if (t411.length : Int) = 0 then (some true) else (if t419 = 0 then (some ((t426.length : Int) == 0)) else (if (t418.length : Int) = 0 then (some true) else (some ((t426.length : Int) == 0)))))) = some r := by rw [if_pos rfl] at H; exact H
        clear H
        have H := H1
        clear H1
        by_cases c42 : t412 = 0
        ·rw [if_pos c42] at H
         have c42b0 : (t412 == 0) = true := beq_iff_eq.mpr c42
         try simp only [beq_self_eq_true, Bool.not_true, Bool.false_or, Bool.true_and] at c42b0
         have c42b1 : (t412 != 0) = false := bne_eq_false_iff_eq.mpr c42
         clear c42
         by_cases c43 : t419 = 0
         ·rw [if_pos c43] at H
          have c43b0 : (t419 == 0) = true := beq_iff_eq.mpr c43
          try simp only [beq_self_eq_true, Bool.not_true, Bool.false_or, Bool.true_and] at c43b0
          have c43b1 : (t419 != 0) = false := bne_eq_false_iff_eq.mpr c43
          clear c43
          obtain rfl := Option.some.inj H
          obtain ⟨Ao44, co44, eo44⟩ := Kd.R_slice HO_58.out
          subst eo44
          obtain ⟨y22_, z22_⟩ := GS.c1 BK422.out
          obtain ⟨y30_, z30_⟩ := GS.c1 BK430.out
          go_wp2
          go_ret
          exact ⟨by first | rfl | (simp [errW_none, errW_some] <;> rfl) | (simp [*, errW_none, errW_some] <;> rfl), by repeat (first | (with_reducible first | exact HB.out | apply lqA | apply lqN | apply lqD | refine lqS ?_ GE406.out | refine lqS ?_ GE422.out | refine lqS ?_ GE430.out) | exact HB.out)⟩
         ·rw [if_neg c43] at H
          have c43b0 : (t419 == 0) = false := beq_eq_false_iff_ne.mpr c43
          try simp only [beq_self_eq_true, Bool.not_true, Bool.false_or, Bool.true_and] at c43b0
          have c43b1 : (t419 != 0) = true := bne_iff_ne.mpr c43
          by_cases c45 : (t418.length : Int) = 0
          ·rw [if_pos c45] at H
           have c45b0 : ((t418.length : Int) == 0) = true := beq_iff_eq.mpr c45
           try simp only [beq_self_eq_true, Bool.not_true, Bool.false_or, Bool.true_and] at c45b0
           have c45b1 : ((t418.length : Int) != 0) = false := bne_eq_false_iff_eq.mpr c45
           clear c45
           obtain rfl := Option.some.inj H
           obtain ⟨Ao46, co46, eo46⟩ := Kd.R_slice HO_49.out
           subst eo46
           obtain ⟨y22_, z22_⟩ := GS.c1 BK422.out
           obtain ⟨y30_, z30_⟩ := GS.c1 BK430.out
           go_wp2
           go_ret
           exact ⟨by first | rfl | (simp [errW_none, errW_some] <;> rfl) | (simp [*, errW_none, errW_some] <;> rfl), by repeat (first | (with_reducible first | exact HB.out | apply lqA | apply lqN | apply lqD | refine lqS ?_ GE406.out | refine lqS ?_ GE422.out | refine lqS ?_ GE430.out) | exact HB.out)⟩
          ·rw [if_neg c45] at H
           have c45b0 : ((t418.length : Int) == 0) = false := beq_eq_false_iff_ne.mpr c45
           try simp only [beq_self_eq_true, Bool.not_true, Bool.false_or, Bool.true_and] at c45b0
           have c45b1 : ((t418.length : Int) != 0) = true := bne_iff_ne.mpr c45
           have c45b2 : ¬ (t418 = []) := fun h_ => c45 (by rw [h_]; rfl)
           obtain rfl := Option.some.inj H
           obtain ⟨Ao47, co47, eo47⟩ := Kd.R_slice HO_49.out
           subst eo47
           obtain ⟨Ao48, co48, eo48⟩ := Kd.R_slice HO_58.out
           subst eo48
           obtain ⟨y22_, z22_⟩ := GS.c1 BK422.out
           obtain ⟨y30_, z30_⟩ := GS.c1 BK430.out
           go_wp2
           go_ret
           exact ⟨by first | rfl | (simp [errW_none, errW_some] <;> rfl) | (simp [*, errW_none, errW_some] <;> rfl), by repeat (first | (with_reducible first | exact HB.out | apply lqA | apply lqN | apply lqD | refine lqS ?_ GE406.out | refine lqS ?_ GE422.out | refine lqS ?_ GE430.out) | exact HB.out)⟩
        ·rw [if_neg c42] at H
         have c42b0 : (t412 == 0) = false := beq_eq_false_iff_ne.mpr c42
         try simp only [beq_self_eq_true, Bool.not_true, Bool.false_or, Bool.true_and] at c42b0
         have c42b1 : (t412 != 0) = true := bne_iff_ne.mpr c42
         by_cases c49 : (t411.length : Int) = 0
         ·rw [if_pos c49] at H
          have c49b0 : ((t411.length : Int) == 0) = true := beq_iff_eq.mpr c49
          try simp only [beq_self_eq_true, Bool.not_true, Bool.false_or, Bool.true_and] at c49b0
          have c49b1 : ((t411.length : Int) != 0) = false := bne_eq_false_iff_eq.mpr c49
          clear c49
          obtain rfl := Option.some.inj H
          obtain ⟨Ao50, co50, eo50⟩ := Kd.R_slice HO_7.out
          subst eo50
          obtain ⟨y22_, z22_⟩ := GS.c1 BK422.out
          obtain ⟨y30_, z30_⟩ := GS.c1 BK430.out
          go_wp2
          go_ret
          exact ⟨by first | rfl | (simp [errW_none, errW_some] <;> rfl) | (simp [*, errW_none, errW_some] <;> rfl), by repeat (first | (with_reducible first | exact HB.out | apply lqA | apply lqN | apply lqD | refine lqS ?_ GE406.out | refine lqS ?_ GE422.out | refine lqS ?_ GE430.out) | exact HB.out)⟩
         ·rw [if_neg c49] at H
          have c49b0 : ((t411.length : Int) == 0) = false := beq_eq_false_iff_ne.mpr c49
          try simp only [beq_self_eq_true, Bool.not_true, Bool.false_or, Bool.true_and] at c49b0
          have c49b1 : ((t411.length : Int) != 0) = true := bne_iff_ne.mpr c49
          have c49b2 : ¬ (t411 = []) := fun h_ => c49 (by rw [h_]; rfl)
          by_cases c51 : t419 = 0
          ·rw [if_pos c51] at H
           have c51b0 : (t419 == 0) = true := beq_iff_eq.mpr c51
           try simp only [beq_self_eq_true, Bool.not_true, Bool.false_or, Bool.true_and] at c51b0
           have c51b1 : (t419 != 0) = false := bne_eq_false_iff_eq.mpr c51
           clear c51
           obtain rfl := Option.some.inj H
           obtain ⟨Ao52, co52, eo52⟩ := Kd.R_slice HO_7.out
           subst eo52
           obtain ⟨Ao53, co53, eo53⟩ := Kd.R_slice HO_58.out
           subst eo53
           obtain ⟨y22_, z22_⟩ := GS.c1 BK422.out
           obtain ⟨y30_, z30_⟩ := GS.c1 BK430.out
           go_wp2
           go_ret
           exact ⟨by first | rfl | (simp [errW_none, errW_some] <;> rfl) | (simp [*, errW_none, errW_some] <;> rfl), by repeat (first | (with_reducible first | exact HB.out | apply lqA | apply lqN | apply lqD | refine lqS ?_ GE406.out | refine lqS ?_ GE422.out | refine lqS ?_ GE430.out) | exact HB.out)⟩
          ·rw [if_neg c51] at H
           have c51b0 : (t419 == 0) = false := beq_eq_false_iff_ne.mpr c51
           try simp only [beq_self_eq_true, Bool.not_true, Bool.false_or, Bool.true_and] at c51b0
           have c51b1 : (t419 != 0) = true := bne_iff_ne.mpr c51
           by_cases c54 : (t418.length : Int) = 0
           ·rw [if_pos c54] at H
            have c54b0 : ((t418.length : Int) == 0) = true := beq_iff_eq.mpr c54
            try simp only [beq_self_eq_true, Bool.not_true, Bool.false_or, Bool.true_and] at c54b0
            have c54b1 : ((t418.length : Int) != 0) = false := bne_eq_false_iff_eq.mpr c54
            clear c54
            obtain rfl := Option.some.inj H
            obtain ⟨Ao55, co55, eo55⟩ := Kd.R_slice HO_7.out
            subst eo55
            obtain ⟨Ao56, co56, eo56⟩ := Kd.R_slice HO_49.out
            subst eo56
            obtain ⟨y22_, z22_⟩ := GS.c1 BK422.out
            obtain ⟨y30_, z30_⟩ := GS.c1 BK430.out
            go_wp2
            go_ret
            exact ⟨by first | rfl | (simp [errW_none, errW_some] <;> rfl) | (simp [*, errW_none, errW_some] <;> rfl), by repeat (first | (with_reducible first | exact HB.out | apply lqA | apply lqN | apply lqD | refine lqS ?_ GE406.out | refine lqS ?_ GE422.out | refine lqS ?_ GE430.out) | exact HB.out)⟩
           ·rw [if_neg c54] at H
            have c54b0 : ((t418.length : Int) == 0) = false := beq_eq_false_iff_ne.mpr c54
            try simp only [beq_self_eq_true, Bool.not_true, Bool.false_or, Bool.true_and] at c54b0
            have c54b1 : ((t418.length : Int) != 0) = true := bne_iff_ne.mpr c54
            have c54b2 : ¬ (t418 = []) := fun h_ => c54 (by rw [h_]; rfl)
            obtain rfl := Option.some.inj H
            obtain ⟨Ao57, co57, eo57⟩ := Kd.R_slice HO_7.out
            subst eo57
            obtain ⟨Ao58, co58, eo58⟩ := Kd.R_slice HO_49.out
            subst eo58
            obtain ⟨Ao59, co59, eo59⟩ := Kd.R_slice HO_58.out
            subst eo59
            obtain ⟨y22_, z22_⟩ := GS.c1 BK422.out
            obtain ⟨y30_, z30_⟩ := GS.c1 BK430.out
            go_wp2
            go_ret
            exact ⟨by first | rfl | (simp [errW_none, errW_some] <;> rfl) | (simp [*, errW_none, errW_some] <;> rfl), by repeat (first | (with_reducible first | exact HB.out | apply lqA | apply lqN | apply lqD | refine lqS ?_ GE406.out | refine lqS ?_ GE422.out | refine lqS ?_ GE430.out) | exact HB.out)⟩
       ·replace c41 := Bool.eq_false_iff.mpr c41
        subst c41
        have H1 : ((contC.f t411 t418 t426).bind fun t431 => (some (!t431))) = some r := by rw [if_neg (show ¬ (false = true) by decide)] at H; exact H
        clear H
        have H := H1
        clear H1
        replace H := Option.bind_eq_some_iff.mp H
        obtain ⟨t431, A600, H⟩ := H
        replace H : (some (!t431)) = some r := H
        have A60 := Aside0.mk A600
        clear A600
        obtain rfl := Option.some.inj H
        obtain ⟨Ao61, co61, eo61⟩ := Kd.R_slice HO_7.out
        subst eo61
        obtain ⟨Ao62, co62, eo62⟩ := Kd.R_slice HO_49.out
        subst eo62
        obtain ⟨Ao63, co63, eo63⟩ := Kd.R_slice HO_58.out
        subst eo63
        obtain ⟨y22_, z22_⟩ := GS.c1 BK422.out
        obtain ⟨y30_, z30_⟩ := GS.c1 BK430.out
        go_wp2_with (first | ((with_reducible refine gqC (f := 23) rfl ?_); refine goesL_ (some 93) rfl rfl Try.func23 (by kernel_rfl) rfl #[.slice Ao61 t411.length co61, .func (.func 26) #[] #[.pointer (some ⟨gb422, 0, none⟩), .pointer (some ⟨gb430, 0, none⟩)]] rfl (by (try simp only [List.map_toArray, List.map_cons, List.map_nil]); first | done | rfl | (simp only [List.length_drop, List.length_take]; rfl)) ?_; (with_reducible refine (contC.calls _ _ t411 Ao62 co62 t418 Ao63 co63 t426 t431 _ ?side1 ?side2 ?side3 ?side4 ?side5 ?side6 A60.out gb422 gb430 ?side7 ?side8).mono ?_); (case side7 => (with_reducible repeat (first | refine bqN ?_ _ | refine bqD ?_ | refine bqA ?_ _)); exact BK422.out); (case side8 => (with_reducible repeat (first | refine bqN ?_ _ | refine bqD ?_ | refine bqA ?_ _)); exact BK430.out); (case side1 => repeat (first | exact (Kd.R_reads' HO_7.out).2.2 | (with_reducible refine Kd.C_alloc ?_ _) | (with_reducible refine Kd.C_drewN ?_ _) | (with_reducible refine Kd.C_drew ?_))); (case side2 => exact (Kd.R_reads' HO_7.out).2.1); (case side3 => repeat (first | exact (Kd.R_reads' HO_49.out).2.2 | (with_reducible refine Kd.C_alloc ?_ _) | (with_reducible refine Kd.C_drewN ?_ _) | (with_reducible refine Kd.C_drew ?_))); (case side4 => exact (Kd.R_reads' HO_49.out).2.1); (case side5 => repeat (first | exact (Kd.R_reads' HO_58.out).2.2 | (with_reducible refine Kd.C_alloc ?_ _) | (with_reducible refine Kd.C_drewN ?_ _) | (with_reducible refine Kd.C_drew ?_))); (case side6 => exact (Kd.R_reads' HO_58.out).2.1); rintro e w64 ⟨rfl, hb⟩; refine ⟨_, rfl, ?_⟩; (try clear y22_ z22_ y30_ z30_); have n0_ := Aside0.mk (Kd.R_below (by (with_reducible repeat (first | apply Kd.R_alloc | apply Kd.R_drewN | apply Kd.R_drew)); exact HO_7.out) hb); have n1_ := Aside0.mk (Kd.R_below (by (with_reducible repeat (first | apply Kd.R_alloc | apply Kd.R_drewN | apply Kd.R_drew)); exact HO_49.out) hb); have n2_ := Aside0.mk (Kd.R_below (by (with_reducible repeat (first | apply Kd.R_alloc | apply Kd.R_drewN | apply Kd.R_drew)); exact HO_58.out) hb); have n3_ := Aside0.mk (bqB (g := gb406) (o := .cells #[.int .i64 a1_0, .int .i64 a1_1, .int .i64 a1_2] 24 (0, 0)) (by (with_reducible repeat (first | refine bqN ?_ _ | refine bqD ?_ | refine bqA ?_ _)); exact BK406.out) hb); have n4_ := Aside0.mk (bqB (g := gb422) (o := .cells #[.slice Ao62 t418.length co62] 28 (0, 0)) (by (with_reducible repeat (first | refine bqN ?_ _ | refine bqD ?_ | refine bqA ?_ _)); exact BK422.out) hb); have n5_ := Aside0.mk (bqB (g := gb430) (o := .cells #[.slice Ao63 t426.length co63] 28 (0, 0)) (by (with_reducible repeat (first | refine bqN ?_ _ | refine bqD ?_ | refine bqA ?_ _)); exact BK430.out) hb); have n6_ := Aside0.mk (lqT (by repeat (first | (with_reducible first | exact HB.out | apply lqA | apply lqN | apply lqD | refine lqS ?_ GE406.out | refine lqS ?_ GE422.out | refine lqS ?_ GE430.out) | exact HB.out)) hb); clear HO_7; clear HO_49; clear HO_58; clear BK406; clear BK422; clear BK430; clear HB; have HO_7 := n0_; have HO_49 := n1_; have HO_58 := n2_; have BK406 := n3_; have BK422 := n4_; have BK430 := n5_; have HB := n6_; clear n0_ n1_ n2_ n3_ n4_ n5_ n6_; (try clear hb); (try clear hb2); (try clear hk); (try clear hi)))
        go_ret
        exact ⟨by first | rfl | (simp [errW_none, errW_some] <;> rfl) | (simp [*, errW_none, errW_some] <;> rfl), by repeat (first | (with_reducible first | exact HB.out | apply lqA | apply lqN | apply lqD | refine lqS ?_ GE406.out | refine lqS ?_ GE422.out | refine lqS ?_ GE430.out) | exact HB.out)⟩
 ·replace c5 := Bool.eq_false_iff.mpr c5
  subst c5
  have H1 : (none) = some r := by rw [if_neg (show ¬ (false = true) by decide)] at H; exact H
  clear H
  have H := H1
  clear H1
  exact absurd H (by simp)

end Go.Proofs.Ytfjenooajbdcmaa.K
