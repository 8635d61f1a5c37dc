-- PRINTED by print.py (a twelfth state) out of the translation. Not trusted: Lean checks it.
import Derived.Test.YtfjenooajbdcmaaK0
import Derived.Test.YtfjenooajbdcmaaK9
import Derived.Test.YtfjenooajbdcmaaGHistory
import Derived.Test.YtfjenooajbdcmaaGContB
import Derived.Test.YtfjenooajbdcmaaGIntact
namespace Go.Proofs.Ytfjenooajbdcmaa.K
open Go.RowKit Go.Proofs.YtfjenooajbdcmaaW.PrintWords Go.Proofs.YtfjenooajbdcmaaW.PrintLast Go.Proofs.YtfjenooajbdcmaaW.PrintMore
attribute [local go_sem] max2_int min2_int max_two min_two max_three min_three max_four min_four   -- for this text's walks alone
set_option linter.unusedVariables false
set_option linter.unusedSimpArgs false

/-! ### spilelaw39_SealOnce: function 5 -/
mutual
def spilelaw39_SealOnce.l0 : Nat → List (S34) → Int → List Int → Int → Int → List Int → Int → Int → Int → Int → Option (Bool)
 | 0, _, _, _, _, _, _, _, _, _, _ => none
 | k + 1, x0, x2, x9, x23, x24, x33, x34, x35, x394000, x395000 => if x35 < x34 then (if 0 ≤ x35 then (if x35 < (x33.length : Int) then (if x35 > 0 then (if 0 ≤ (wrap64 (x35 - 1)) then (if (wrap64 (x35 - 1)) < (x9.length : Int) then (if (rd x9 (wrap64 (x35 - 1))) ≥ (rd x33 x35) then (none) else ((contS.f x0 (rd x33 x35) x23 x24).bind fun t406 => (spilelaw39_SealOnce.j1 k x0 x2 x9 x23 x24 x33 x34 x35 (!t406) x394000 x395000))) else (none)) else (none)) else ((contS.f x0 (rd x33 x35) x23 x24).bind fun t407 => (spilelaw39_SealOnce.j1 k x0 x2 x9 x23 x24 x33 x34 x35 (!t407) x394000 x395000))) else (none)) else (none)) else ((clone34.f x0).bind fun t408 => ((seal_Intact.f t408 x2 x395000).bind fun bt411 => (if bt411.2 = 0 then (if x2 = x394000 then (some true) else ((contB.f x9 bt411.1).bind fun t416 => (some (!t416)))) else (some true))))
def spilelaw39_SealOnce.j1 : Nat → List (S34) → Int → List Int → Int → Int → List Int → Int → Int → Bool → Int → Int → Option (Bool)
 | 0, _, _, _, _, _, _, _, _, _, _, _ => none
 | k + 1, x0, x2, x9, x23, x24, x33, x34, x35, x56, x394000, x395000 => if x56 = true then (none) else (spilelaw39_SealOnce.l0 k x0 x2 x9 x23 x24 x33 x34 (wrap64 (x35 + 1)) x394000 x395000)
end
def spilelaw39_SealOnce.f (k : Nat) (l0 : List (S34)) (a1 : Int) (a2 : Int) (a3 : Int) : Option (Bool) := (spilelaw39_awake.f k).bind fun t395 => (if t395 = true then (if (l0.length : Int) > 20 then (some true) else ((clone34.f l0).bind fun t396 => ((seal_Intact.f t396 a1 a3).bind fun bt399 => (if bt399.2 = 0 then (spilelaw39_SealOnce.l0 k l0 a2 bt399.1 a1 a3 bt399.1 (bt399.1.length : Int) 0 a1 a3) else (some ((bt399.1.length : Int) == 0)))))) else (none))
theorem spilelaw39_SealOnce.mono_l : ∀ k, (∀ y0 y1 y2 y3 y4 y5 y6 y7 y8 y9, LeO (spilelaw39_SealOnce.l0 k y0 y1 y2 y3 y4 y5 y6 y7 y8 y9) (spilelaw39_SealOnce.l0 (k + 1) y0 y1 y2 y3 y4 y5 y6 y7 y8 y9)) ∧ (∀ y0 y1 y2 y3 y4 y5 y6 y7 y8 y9 y10, LeO (spilelaw39_SealOnce.j1 k y0 y1 y2 y3 y4 y5 y6 y7 y8 y9 y10) (spilelaw39_SealOnce.j1 (k + 1) y0 y1 y2 y3 y4 y5 y6 y7 y8 y9 y10))
 | 0 => ⟨fun _ _ _ _ _ _ _ _ _ _ r h => by simp [spilelaw39_SealOnce.l0] at h, fun _ _ _ _ _ _ _ _ _ _ _ r h => by simp [spilelaw39_SealOnce.j1] at h⟩
 | k + 1 => by
  obtain ⟨ih0, ih1⟩ := spilelaw39_SealOnce.mono_l k
  refine ⟨?_, ?_⟩
  ·intro y0 y1 y2 y3 y4 y5 y6 y7 y8 y9
   unfold spilelaw39_SealOnce.l0
   repeat' first
   | (with_reducible exact ih0 _ _ _ _ _ _ _ _ _ _)
   | (with_reducible exact ih1 _ _ _ _ _ _ _ _ _ _ _)
   | (with_reducible exact spilelaw39_awake.mono _)
   | (with_reducible exact LeO.refl _)
   | (with_reducible exact LeO.none _)
   | (with_reducible refine LeO.ite ?_ ?_)
   | (with_reducible refine LeO.bind ?_ (fun _ => ?_))
   | exact ih0 _ _ _ _ _ _ _ _ _ _
   | exact ih1 _ _ _ _ _ _ _ _ _ _ _
   | exact spilelaw39_awake.mono _
   | exact LeO.none _
   | refine LeO.ite ?_ ?_
   | refine LeO.bind ?_ (fun _ => ?_)
  ·intro y0 y1 y2 y3 y4 y5 y6 y7 y8 y9 y10
   unfold spilelaw39_SealOnce.j1
   repeat' first
   | (with_reducible exact ih0 _ _ _ _ _ _ _ _ _ _)
   | (with_reducible exact ih1 _ _ _ _ _ _ _ _ _ _ _)
   | (with_reducible exact spilelaw39_awake.mono _)
   | (with_reducible exact LeO.refl _)
   | (with_reducible exact LeO.none _)
   | (with_reducible refine LeO.ite ?_ ?_)
   | (with_reducible refine LeO.bind ?_ (fun _ => ?_))
   | exact ih0 _ _ _ _ _ _ _ _ _ _
   | exact ih1 _ _ _ _ _ _ _ _ _ _ _
   | exact spilelaw39_awake.mono _
   | exact LeO.none _
   | refine LeO.ite ?_ ?_
   | refine LeO.bind ?_ (fun _ => ?_)
theorem spilelaw39_SealOnce.mono : ∀ a0 a1 a2 a3 k, LeO (spilelaw39_SealOnce.f k a0 a1 a2 a3) (spilelaw39_SealOnce.f (k + 1) a0 a1 a2 a3) := by
 intro a0 a1 a2 a3 k
 obtain ⟨ih0, ih1⟩ := spilelaw39_SealOnce.mono_l k
 unfold spilelaw39_SealOnce.f
 repeat' first
   | (with_reducible exact ih0 _ _ _ _ _ _ _ _ _ _)
   | (with_reducible exact ih1 _ _ _ _ _ _ _ _ _ _ _)
   | (with_reducible exact spilelaw39_awake.mono _)
   | (with_reducible exact LeO.refl _)
   | (with_reducible exact LeO.none _)
   | (with_reducible refine LeO.ite ?_ ?_)
   | (with_reducible refine LeO.bind ?_ (fun _ => ?_))
   | exact ih0 _ _ _ _ _ _ _ _ _ _
   | exact ih1 _ _ _ _ _ _ _ _ _ _ _
   | exact spilelaw39_awake.mono _
   | exact LeO.none _
   | refine LeO.ite ?_ ?_
   | refine LeO.bind ?_ (fun _ => ?_)
def spilelaw39_SealOnce.T5 : Bool × List (List Nat × List Nat) := (true, [([], []), ([0], [0]), ([], []), ([], []), ([1, 2, 3, 1], [1, 2, 3]), ([4], [4]), ([5], [5]), ([5], [5]), ([6, 4, 0, 1, 2, 3, 4, 5, 6], [6]), ([7, 8, 0, 1, 2, 3, 4, 5, 6, 7, 8], [7])])
def spilelaw39_SealOnce.B5 : List Nat := [0, 1, 0, 0, 15, 31, 63, 63, 127, 511]
theorem spilelaw39_SealOnce.tab5 : rtab .any (opsOf Try.f5 5) = spilelaw39_SealOnce.T5 := by kernel_rfl
theorem spilelaw39_SealOnce.bits5 : waitsOk spilelaw39_SealOnce.T5.2 spilelaw39_SealOnce.B5 = true := by kernel_rfl
def spilelaw39_SealOnce.T11 : Bool × List (List Nat × List Nat) := (true, [([], []), ([0], [0]), ([1], [1]), ([2], [2]), ([2], [2]), ([4, 2], [2, 4]), ([3, 5, 2], [2, 3, 5]), ([6, 2], [2, 6]), ([2], [2]), ([7, 8, 2], [2, 7, 8]), ([2, 9], [2, 9]), ([10, 2], [10]), ([11], [11]), ([11], [11]), ([12, 13, 11, 11], [11, 12, 13]), ([14, 11], [11, 14]), ([11, 15], [11, 15])])
def spilelaw39_SealOnce.B11 : List Nat := [0, 1, 3, 7, 7, 23, 63, 127, 7, 511, 1023, 2047, 4095, 4095, 16383, 32767, 65535]
theorem spilelaw39_SealOnce.tab11 : rtab .any (opsOf Try.f5 11) = spilelaw39_SealOnce.T11 := by kernel_rfl
theorem spilelaw39_SealOnce.bits11 : waitsOk spilelaw39_SealOnce.T11.2 spilelaw39_SealOnce.B11 = true := by kernel_rfl
def spilelaw39_SealOnce.T14 : Bool × List (List Nat × List Nat) := (true, [([], []), ([0], [0]), ([], []), ([], []), ([1, 2, 3, 1], [1, 2, 3]), ([4], [4]), ([5], [5]), ([5], [5]), ([], []), ([8, 6, 4, 0, 1, 2, 3, 4, 5, 6, 8], [6, 8]), ([7, 9, 0, 1, 2, 3, 4, 5, 6, 7, 8, 9], [7])])
def spilelaw39_SealOnce.B14 : List Nat := [0, 1, 0, 0, 15, 31, 63, 63, 0, 383, 1023]
theorem spilelaw39_SealOnce.tab14 : rtab .any (opsOf Try.f5 14) = spilelaw39_SealOnce.T14 := by kernel_rfl
theorem spilelaw39_SealOnce.bits14 : waitsOk spilelaw39_SealOnce.T14.2 spilelaw39_SealOnce.B14 = true := by kernel_rfl
set_option maxHeartbeats 8000000 in
set_option maxRecDepth 100000 in
theorem spilelaw39_SealOnce.calls (k : Nat) (A0 : Option Addr) (c0 : Nat) (l0 : List (S34)) (a1 : Int) (a2 : Int) (a3 : Int) (r : Bool) (w : World) (hr0 : Kd.C k34 w A0 l0.length l0) (hc0 : l0.length ≤ c0) (h : spilelaw39_SealOnce.f k l0 a1 a2 a3 = some r) :
  Calls Try.prog 5 #[.slice A0 l0.length c0, .int .i64 a1, .int .i64 a2, .int .i64 a3] w fun e w' => e = .returned (.bool r) ∧ Below w.heap.size w w' := by
 have HR0 := Aside0.mk hr0
 have HC0 := Aside0.mk hc0
 clear hr0 hc0
 have HB := Aside0.mk (Below.refl w.heap.size w)
 have H : ((spilelaw39_awake.f k).bind fun t395 => (if t395 = true then (if (l0.length : Int) > 20 then (some true) else ((clone34.f l0).bind fun t396 => ((seal_Intact.f t396 a1 a3).bind fun bt399 => (if bt399.2 = 0 then (spilelaw39_SealOnce.l0 k l0 a2 bt399.1 a1 a3 bt399.1 (bt399.1.length : Int) 0 a1 a3) else (some ((bt399.1.length : Int) == 0)))))) else (none))) = some r := h
 clear h
 replace H := Option.bind_eq_some_iff.mp H
 obtain ⟨t395, A50, H⟩ := H
 replace H : (if t395 = true then (if (l0.length : Int) > 20 then (some true) else ((clone34.f l0).bind fun t396 => ((seal_Intact.f t396 a1 a3).bind fun bt399 => (if bt399.2 = 0 then (spilelaw39_SealOnce.l0 k l0 a2 bt399.1 a1 a3 bt399.1 (bt399.1.length : Int) 0 a1 a3) else (some ((bt399.1.length : Int) == 0)))))) else (none)) = some r := H
 have A5 := Aside0.mk A50
 clear A50
 by_cases c6 : t395 = true
 ·subst c6
  have H1 : (if (l0.length : Int) > 20 then (some true) else ((clone34.f l0).bind fun t396 => ((seal_Intact.f t396 a1 a3).bind fun bt399 => (if bt399.2 = 0 then (spilelaw39_SealOnce.l0 k l0 a2 bt399.1 a1 a3 bt399.1 (bt399.1.length : Int) 0 a1 a3) else (some ((bt399.1.length : Int) == 0)))))) = some r := by rw [if_pos rfl] at H; exact H
  clear H
  have H := H1
  clear H1
  by_cases c7 : (l0.length : Int) > 20
  ·rw [if_pos c7] at H
   have c7b0 : decide (20 < (l0.length : Int)) = true := decide_eq_true c7
   have c7b1 : decide (20 < l0.length) = true := decide_eq_true (by omega)
   clear c7
   obtain rfl := Option.some.inj H
   go_enter Try.func5, Try.ntmps5
   go_wp2_with (first | ((with_reducible refine gqD (N := 5) rfl ?_); refine box_event ?hg (N := 5) ?hd (cs := #[.int .i64 a1]) (t := 3) ?hr ?_; (case hd => rfl); (case hg => rfl); (case hr => first | (go_simp; done) | (go_simp; rfl)); intro gb393 hg w8 hbox hb; have n0_ := Aside0.mk (lqT (by repeat (first | (with_reducible first | exact HB.out | apply lqA | apply lqN | apply lqD) | exact HB.out)) hb); have n1_ := Aside0.mk (hbox); have n2_ := Aside0.mk ((by rw [hg]; exact (lqZ (by repeat (first | (with_reducible first | exact HB.out | apply lqA | apply lqN | apply lqD) | exact HB.out))) : w.heap.size ≤ gb393)); have n3_ := Aside0.mk ((by rw [hg]; exact (lqZ (by repeat (first | (with_reducible first | exact HB.out | apply lqA | apply lqN | apply lqD) | exact HB.out))) : w.heap.size ≤ gb393)); clear HB; have HB := n0_; have BK393 := n1_; have GW393 := n2_; have GE393 := n3_; clear n0_ n1_ n2_ n3_; clear hb hbox hg) | ((with_reducible refine gqD (N := 7) rfl ?_); refine box_event ?hg (N := 7) ?hd (cs := #[.int .i64 a3]) (t := 3) ?hr ?_; (case hd => rfl); (case hg => rfl); (case hr => first | (go_simp; done) | (go_simp; rfl)); intro gb394 hg w9 hbox hb; have n0_ := Aside0.mk (bqB (g := gb393) (o := .cells #[.int .i64 a1] 3 (0, 0)) (by (with_reducible repeat (first | refine bqN ?_ _ | refine bqD ?_ | refine bqA ?_ _)); exact BK393.out) hb); have n1_ := Aside0.mk (lqT (by repeat (first | (with_reducible first | exact HB.out | apply lqA | apply lqN | apply lqD | refine lqS ?_ GE393.out) | exact HB.out)) hb); have n2_ := Aside0.mk (hbox); have n3_ := Aside0.mk ((by rw [hg]; exact (lqZ (by repeat (first | (with_reducible first | exact HB.out | apply lqA | apply lqN | apply lqD | refine lqS ?_ GE393.out) | exact HB.out))) : w.heap.size ≤ gb394)); have n4_ := Aside0.mk ((by rw [hg]; exact (lqZ (by repeat (first | (with_reducible first | exact HB.out | apply lqA | apply lqN | apply lqD | refine lqS ?_ GE393.out) | exact HB.out))) : w.heap.size ≤ gb394)); have n5_ := Aside0.mk ((by rw [hg]; exact Nat.ne_of_lt (blk_lt (g := gb393) (o := .cells #[.int .i64 a1] 3 (0, 0)) (by (with_reducible repeat (first | refine bqN ?_ _ | refine bqD ?_ | refine bqA ?_ _)); exact BK393.out)) : gb393 ≠ gb394)); have n6_ := Aside0.mk ((by rw [hg]; exact Nat.ne_of_gt (blk_lt (g := gb393) (o := .cells #[.int .i64 a1] 3 (0, 0)) (by (with_reducible repeat (first | refine bqN ?_ _ | refine bqD ?_ | refine bqA ?_ _)); exact BK393.out)) : gb394 ≠ gb393)); clear BK393; clear HB; have BK393 := n0_; have HB := n1_; have BK394 := n2_; have GW394 := n3_; have GE394 := n4_; have NB393_394 := n5_; have NB394_393 := n6_; clear n0_ n1_ n2_ n3_ n4_ n5_ n6_; clear hb hbox hg) | ((with_reducible refine gqC (f := 10) rfl ?_); refine goesL_ (some 15) rfl rfl Try.func10 (by kernel_rfl) rfl #[] rfl (by (try simp only [List.map_toArray, List.map_cons, List.map_nil]); first | done | rfl | (simp only [List.length_drop, List.length_take]; rfl)) ?_; (with_reducible refine (spilelaw39_awake.calls k  true _ A5.out).mono ?_); rintro e w10 ⟨rfl, hb⟩; refine ⟨_, rfl, ?_⟩; have n0_ := Aside0.mk (bqB (g := gb393) (o := .cells #[.int .i64 a1] 3 (0, 0)) (by (with_reducible repeat (first | refine bqN ?_ _ | refine bqD ?_ | refine bqA ?_ _)); exact BK393.out) hb); have n1_ := Aside0.mk (bqB (g := gb394) (o := .cells #[.int .i64 a3] 3 (0, 0)) (by (with_reducible repeat (first | refine bqN ?_ _ | refine bqD ?_ | refine bqA ?_ _)); exact BK394.out) hb); have n2_ := Aside0.mk (lqT (by repeat (first | (with_reducible first | exact HB.out | apply lqA | apply lqN | apply lqD | refine lqS ?_ GE393.out | refine lqS ?_ GE394.out) | exact HB.out)) hb); clear BK393; clear BK394; clear HB; have BK393 := n0_; have BK394 := n1_; have HB := n2_; clear n0_ n1_ n2_; (try clear hb); (try clear hb2); (try clear hk); (try clear hi)))
   go_ret
   exact ⟨by first | rfl | (simp [errW_none, errW_some] <;> rfl) | (simp [*, errW_none, errW_some] <;> rfl), by repeat (first | (with_reducible first | exact HB.out | apply lqA | apply lqN | apply lqD | refine lqS ?_ GE393.out | refine lqS ?_ GE394.out) | exact HB.out)⟩
  ·rw [if_neg c7] at H
   have c7b0 : decide (20 < (l0.length : Int)) = false := decide_eq_false c7
   have c7b1 : decide (20 < l0.length) = false := decide_eq_false (by omega)
   clear c7
   replace H := Option.bind_eq_some_iff.mp H
   obtain ⟨t396, A110, H⟩ := H
   replace H : ((seal_Intact.f t396 a1 a3).bind fun bt399 => (if bt399.2 = 0 then (spilelaw39_SealOnce.l0 k l0 a2 bt399.1 a1 a3 bt399.1 (bt399.1.length : Int) 0 a1 a3) else (some ((bt399.1.length : Int) == 0)))) = some r := H
   have A11 := Aside0.mk A110
   clear A110
   replace H := Option.bind_eq_some_iff.mp H
   obtain ⟨⟨t399, t400⟩, A120, H⟩ := H
   replace H : (if t400 = 0 then (spilelaw39_SealOnce.l0 k l0 a2 t399 a1 a3 t399 (t399.length : Int) 0 a1 a3) else (some ((t399.length : Int) == 0))) = some r := H
   have A12 := Aside0.mk A120
   clear A120
   by_cases c13 : t400 = 0
   ·rw [if_pos c13] at H
    have c13b0 : (t400 == 0) = true := beq_iff_eq.mpr c13
    try simp only [beq_self_eq_true, Bool.not_true, Bool.false_or, Bool.true_and] at c13b0
    have c13b1 : (t400 != 0) = false := bne_eq_false_iff_eq.mpr c13
    clear c13
    have H' := Aside0.mk H
    clear H
    go_enter Try.func5, Try.ntmps5
    try go_wp2_with (first | ((with_reducible refine gqD (N := 5) rfl ?_); refine box_event ?hg (N := 5) ?hd (cs := #[.int .i64 a1]) (t := 3) ?hr ?_; (case hd => rfl); (case hg => rfl); (case hr => first | (go_simp; done) | (go_simp; rfl)); intro gb393 hg w14 hbox hb; have n0_ := Aside0.mk (lqT (by repeat (first | (with_reducible first | exact HB.out | apply lqA | apply lqN | apply lqD) | exact HB.out)) hb); have n1_ := Aside0.mk (hbox); have n2_ := Aside0.mk ((by rw [hg]; exact (lqZ (by repeat (first | (with_reducible first | exact HB.out | apply lqA | apply lqN | apply lqD) | exact HB.out))) : w.heap.size ≤ gb393)); have n3_ := Aside0.mk ((by rw [hg]; exact (lqZ (by repeat (first | (with_reducible first | exact HB.out | apply lqA | apply lqN | apply lqD) | exact HB.out))) : w.heap.size ≤ gb393)); clear HB; have HB := n0_; have BK393 := n1_; have GW393 := n2_; have GE393 := n3_; clear n0_ n1_ n2_ n3_; clear hb hbox hg) | ((with_reducible refine gqD (N := 7) rfl ?_); refine box_event ?hg (N := 7) ?hd (cs := #[.int .i64 a3]) (t := 3) ?hr ?_; (case hd => rfl); (case hg => rfl); (case hr => first | (go_simp; done) | (go_simp; rfl)); intro gb394 hg w15 hbox hb; have n0_ := Aside0.mk (bqB (g := gb393) (o := .cells #[.int .i64 a1] 3 (0, 0)) (by (with_reducible repeat (first | refine bqN ?_ _ | refine bqD ?_ | refine bqA ?_ _)); exact BK393.out) hb); have n1_ := Aside0.mk (lqT (by repeat (first | (with_reducible first | exact HB.out | apply lqA | apply lqN | apply lqD | refine lqS ?_ GE393.out) | exact HB.out)) hb); have n2_ := Aside0.mk (hbox); have n3_ := Aside0.mk ((by rw [hg]; exact (lqZ (by repeat (first | (with_reducible first | exact HB.out | apply lqA | apply lqN | apply lqD | refine lqS ?_ GE393.out) | exact HB.out))) : w.heap.size ≤ gb394)); have n4_ := Aside0.mk ((by rw [hg]; exact (lqZ (by repeat (first | (with_reducible first | exact HB.out | apply lqA | apply lqN | apply lqD | refine lqS ?_ GE393.out) | exact HB.out))) : w.heap.size ≤ gb394)); have n5_ := Aside0.mk ((by rw [hg]; exact Nat.ne_of_lt (blk_lt (g := gb393) (o := .cells #[.int .i64 a1] 3 (0, 0)) (by (with_reducible repeat (first | refine bqN ?_ _ | refine bqD ?_ | refine bqA ?_ _)); exact BK393.out)) : gb393 ≠ gb394)); have n6_ := Aside0.mk ((by rw [hg]; exact Nat.ne_of_gt (blk_lt (g := gb393) (o := .cells #[.int .i64 a1] 3 (0, 0)) (by (with_reducible repeat (first | refine bqN ?_ _ | refine bqD ?_ | refine bqA ?_ _)); exact BK393.out)) : gb394 ≠ gb393)); clear BK393; clear HB; have BK393 := n0_; have HB := n1_; have BK394 := n2_; have GW394 := n3_; have GE394 := n4_; have NB393_394 := n5_; have NB394_393 := n6_; clear n0_ n1_ n2_ n3_ n4_ n5_ n6_; clear hb hbox hg) | ((with_reducible refine gqC (f := 10) rfl ?_); refine goesL_ (some 15) rfl rfl Try.func10 (by kernel_rfl) rfl #[] rfl (by (try simp only [List.map_toArray, List.map_cons, List.map_nil]); first | done | rfl | (simp only [List.length_drop, List.length_take]; rfl)) ?_; (with_reducible refine (spilelaw39_awake.calls k  true _ A5.out).mono ?_); rintro e w16 ⟨rfl, hb⟩; refine ⟨_, rfl, ?_⟩; have n0_ := Aside0.mk (bqB (g := gb393) (o := .cells #[.int .i64 a1] 3 (0, 0)) (by (with_reducible repeat (first | refine bqN ?_ _ | refine bqD ?_ | refine bqA ?_ _)); exact BK393.out) hb); have n1_ := Aside0.mk (bqB (g := gb394) (o := .cells #[.int .i64 a3] 3 (0, 0)) (by (with_reducible repeat (first | refine bqN ?_ _ | refine bqD ?_ | refine bqA ?_ _)); exact BK394.out) hb); have n2_ := Aside0.mk (lqT (by repeat (first | (with_reducible first | exact HB.out | apply lqA | apply lqN | apply lqD | refine lqS ?_ GE393.out | refine lqS ?_ GE394.out) | exact HB.out)) hb); clear BK393; clear BK394; clear HB; have BK393 := n0_; have BK394 := n1_; have HB := n2_; clear n0_ n1_ n2_; (try clear hb); (try clear hb2); (try clear hk); (try clear hi)))
    have n0_ := Aside0.mk (bqD BK393.out)
    have n1_ := Aside0.mk (bqD BK394.out)
    have n2_ := Aside0.mk (lqD HB.out)
    clear BK393
    clear BK394
    clear HB
    have BK393 := n0_
    have BK394 := n1_
    have HB := n2_
    clear n0_ n1_ n2_
    refine start_ (n := 10) (S := fun w' => w'.cell? ⟨gb393, 0, none⟩ = some (.int .i64 a1) ∧ w'.cell? ⟨gb394, 0, none⟩ = some (.int .i64 a3)) (ds := []) #[false, false, false, false, false, false, false, false, false, false] (by kernel_rfl) rfl rfl ⟨(bqC BK393.out 0).trans rfl, (bqC BK394.out 0).trans rfl⟩ (fun hHeld => ?_); refine with_tabW spilelaw39_SealOnce.tab5 spilelaw39_SealOnce.bits5 (fun HT_ HW_ => ?_)
    generalize w16.drew = w17 at BK393 BK394 HB hHeld ⊢
    refine pure_ (i := 0) (N := some 21) (v := ?_) (a' := ?_) #[true, false, false, false, false, false, false, false, false, false] rfl rfl (any_of HT_.out (by kernel_rfl)) (fun _ _ _ h => h) (Or.inl ⟨by rfl, ?_⟩) ?_ ?_
    rotate_left
    ·intro w'
     go_simp
     with_reducible rfl
    rotate_left
    ·simp only [Act.put, List.setIfInBounds_toArray, List.set_cons_zero, List.set_cons_succ, i64_w, i32_w]
     rfl
    refine take_ (i := 2) (N := some 23) (v := ?_) (a' := ?_) #[true, false, true, false, false, false, false, false, false, false] rfl rfl (take_ofW HT_.out HW_.out (by kernel_rfl)) (fun _ _ _ h => h) (Or.inl ⟨by rfl, ?_⟩) hHeld ?_ ?_
    rotate_left
    ·rintro w' ⟨s0, s1⟩
     go_simp
     with_reducible rfl
    rotate_left
    ·simp only [Act.put, List.setIfInBounds_toArray, List.set_cons_zero, List.set_cons_succ, i64_w, i32_w]
     rfl
    refine take_ (i := 3) (N := some 24) (v := ?_) (a' := ?_) #[true, false, true, true, false, false, false, false, false, false] rfl rfl (take_ofW HT_.out HW_.out (by kernel_rfl)) (fun _ _ _ h => h) (Or.inl ⟨by rfl, ?_⟩) hHeld ?_ ?_
    rotate_left
    ·rintro w' ⟨s0, s1⟩
     go_simp
     with_reducible rfl
    rotate_left
    ·simp only [Act.put, List.setIfInBounds_toArray, List.set_cons_zero, List.set_cons_succ, i64_w, i32_w]
     rfl
    refine one_ (i := 1) (N := some 22) #[true, true, true, true, false, false, false, false, false, false] rfl rfl (one_of HT_.out (by kernel_rfl)) (by decide) (fun K hK => ?_)
    refine goes_ Try.func14 (by kernel_rfl) rfl #[.slice A0 l0.length c0] (by rfl) rfl rfl (by (try simp only [List.map_toArray, List.map_cons, List.map_nil]); first | done | rfl | (simp only [List.length_drop, List.length_take]; rfl)) ?_
    with_reducible refine (clone34.calls _ _ l0 t396 _ ?side1 ?side2 A11.out).mono ?_
    (case side1 => repeat (first | exact (Kd.C_below HR0.out HB.out) | (with_reducible refine Kd.C_alloc ?_ _) | (with_reducible refine Kd.C_drewN ?_ _) | (with_reducible refine Kd.C_drew ?_)))
    (case side2 => exact HC0.out)
    rintro e w18 ⟨v397, rfl, ho0, hb⟩
    refine ⟨_, rfl, ?_⟩
    have n0_ := Aside0.mk (Kd.R_lower ho0 (lqZ (by repeat (first | (with_reducible first | exact HB.out | apply lqA | apply lqN | apply lqD | refine lqS ?_ GE393.out | refine lqS ?_ GE394.out) | exact HB.out))))
    have n1_ := Aside0.mk (bqB (g := gb393) (o := .cells #[.int .i64 a1] 3 (0, 0)) (by (with_reducible repeat (first | refine bqN ?_ _ | refine bqD ?_ | refine bqA ?_ _)); exact BK393.out) hb)
    have n2_ := Aside0.mk (bqB (g := gb394) (o := .cells #[.int .i64 a3] 3 (0, 0)) (by (with_reducible repeat (first | refine bqN ?_ _ | refine bqD ?_ | refine bqA ?_ _)); exact BK394.out) hb)
    have n3_ := Aside0.mk (lqT (by repeat (first | (with_reducible first | exact HB.out | apply lqA | apply lqN | apply lqD | refine lqS ?_ GE393.out | refine lqS ?_ GE394.out) | exact HB.out)) hb)
    clear BK393
    clear BK394
    clear HB
    have HO398 := n0_
    have BK393 := n1_
    have BK394 := n2_
    have HB := n3_
    clear n0_ n1_ n2_ n3_
    (try clear hb)
    (try clear hb2)
    (try clear hk)
    (try clear hi)
    (try clear ho0)
    obtain ⟨Ao19, co19, eo19⟩ := Kd.R_slice HO398.out
    (first | subst eo19 | (injection eo19 with f1_ f2_ f3_; have f4_ := f1_.symm; have f5_ := f3_.symm; clear f1_ f2_ f3_; subst f4_; subst f5_))
    refine hK.out _ _ ⟨(bqC BK393.out 0).trans rfl, (bqC BK394.out 0).trans rfl⟩ (fun hHeld => ?_)
    clear hK K
    refine norm_ (a' := ?_) ?_ ?_
    rotate_left
    ·show Act.put _ (some 22) _ = _
     simp only [Act.put, List.setIfInBounds_toArray, List.set_cons_zero, List.set_cons_succ, i64_w, i32_w]
     rfl
    refine one_ (i := 4) (N := some 25) #[true, true, true, true, true, false, false, false, false, false] rfl rfl (one_of HT_.out (by kernel_rfl)) (by decide) (fun K hK => ?_)
    refine goes_ Try.func13 (by kernel_rfl) rfl #[.slice Ao19 t396.length co19, .int .i64 a1, .int .i64 a3] (by rfl) rfl rfl (by (try simp only [List.map_toArray, List.map_cons, List.map_nil]); first | done | rfl | (simp only [List.length_drop, List.length_take]; rfl)) ?_
    with_reducible refine (seal_Intact.calls _ _ t396 a1 a3 t399 t400 _ ?side1 ?side2 A12.out).mono ?_
    (case side1 => repeat (first | exact (Kd.R_reads' HO398.out).2.2 | (with_reducible refine Kd.C_alloc ?_ _) | (with_reducible refine Kd.C_drewN ?_ _) | (with_reducible refine Kd.C_drew ?_)))
    (case side2 => exact (Kd.R_reads' HO398.out).2.1)
    rintro e w20 ⟨v401, rfl, ho0, hb⟩
    refine ⟨_, rfl, ?_⟩
    have n0_ := Aside0.mk (Kd.R_below (by (with_reducible repeat (first | apply Kd.R_alloc | apply Kd.R_drewN | apply Kd.R_drew)); exact HO398.out) hb)
    have n1_ := Aside0.mk (Kd.R_lower ho0 (lqZ (by repeat (first | (with_reducible first | exact HB.out | apply lqA | apply lqN | apply lqD | refine lqS ?_ GE393.out | refine lqS ?_ GE394.out) | exact HB.out))))
    have n2_ := Aside0.mk (bqB (g := gb393) (o := .cells #[.int .i64 a1] 3 (0, 0)) (by (with_reducible repeat (first | refine bqN ?_ _ | refine bqD ?_ | refine bqA ?_ _)); exact BK393.out) hb)
    have n3_ := Aside0.mk (bqB (g := gb394) (o := .cells #[.int .i64 a3] 3 (0, 0)) (by (with_reducible repeat (first | refine bqN ?_ _ | refine bqD ?_ | refine bqA ?_ _)); exact BK394.out) hb)
    have n4_ := Aside0.mk (lqT (by repeat (first | (with_reducible first | exact HB.out | apply lqA | apply lqN | apply lqD | refine lqS ?_ GE393.out | refine lqS ?_ GE394.out) | exact HB.out)) hb)
    clear HO398
    clear BK393
    clear BK394
    clear HB
    have HO398 := n0_
    have HO402 := n1_
    have BK393 := n2_
    have BK394 := n3_
    have HB := n4_
    clear n0_ n1_ n2_ n3_ n4_
    (try clear hb)
    (try clear hb2)
    (try clear hk)
    (try clear hi)
    (try clear ho0)
    refine hK.out _ _ ⟨(bqC BK393.out 0).trans rfl, (bqC BK394.out 0).trans rfl⟩ (fun hHeld => ?_)
    clear hK K
    refine norm_ (a' := ?_) ?_ ?_
    rotate_left
    ·show Act.put _ (some 25) _ = _
     simp only [Act.put, List.setIfInBounds_toArray, List.set_cons_zero, List.set_cons_succ, i64_w, i32_w]
     rfl
    refine pure_ (i := 5) (N := some 20) (v := ?_) (a' := ?_) #[true, true, true, true, true, true, false, false, false, false] rfl rfl (any_of HT_.out (by kernel_rfl)) (fun _ _ _ h => h) (Or.inl ⟨by rfl, ?_⟩) ?_ ?_
    rotate_left
    ·intro w'
     go_simp
     with_reducible rfl
    rotate_left
    ·simp only [Act.put, List.setIfInBounds_toArray, List.set_cons_zero, List.set_cons_succ, i64_w, i32_w]
     rfl
    refine pure_ (i := 6) (N := some 26) (v := ?_) (a' := ?_) #[true, true, true, true, true, true, true, false, false, false] rfl rfl (any_of HT_.out (by kernel_rfl)) (fun _ _ _ h => h) (Or.inl ⟨by rfl, ?_⟩) ?_ ?_
    rotate_left
    ·intro w'
     go_simp
     with_reducible rfl
    rotate_left
    ·simp only [Act.put, List.setIfInBounds_toArray, List.set_cons_zero, List.set_cons_succ, i64_w, i32_w]
     rfl
    refine pure_ (i := 7) (N := some 27) (v := ?_) (a' := ?_) #[true, true, true, true, true, true, true, true, false, false] rfl rfl (any_of HT_.out (by kernel_rfl)) (fun _ _ _ h => h) (Or.inl ⟨by rfl, ?_⟩) ?_ ?_
    rotate_left
    ·intro w'
     go_simp
     with_reducible rfl
    rotate_left
    ·simp only [Act.put, List.setIfInBounds_toArray, List.set_cons_zero, List.set_cons_succ, i64_w, i32_w]
     rfl
    refine pure_ (i := 8) (N := some 9) (v := ?_) (a' := ?_) #[true, true, true, true, true, true, true, true, true, false] rfl rfl (any_of HT_.out (by kernel_rfl)) (fun _ _ _ h => h) (Or.inl ⟨by rfl, ?_⟩) ?_ ?_
    rotate_left
    ·intro w'
     go_simp
     with_reducible rfl
    rotate_left
    ·simp only [Act.put, List.setIfInBounds_toArray, List.set_cons_zero, List.set_cons_succ, i64_w, i32_w]
     rfl
    refine pure_ (i := 9) (N := some 10) (v := ?_) (a' := ?_) #[true, true, true, true, true, true, true, true, true, true] rfl rfl (any_of HT_.out (by kernel_rfl)) (fun _ _ _ h => h) (Or.inl ⟨by rfl, ?_⟩) ?_ ?_
    rotate_left
    ·intro w'
     go_simp
     with_reducible rfl
    rotate_left
    ·simp only [Act.put, List.setIfInBounds_toArray, List.set_cons_zero, List.set_cons_succ, i64_w, i32_w]
     rfl
    refine done_ (done_of HT_.out (by kernel_rfl)) ?_
    obtain ⟨Ao21, co21, eo21⟩ := Kd.R_slice HO402.out
    subst eo21
    try go_wp2
    go_loopg [35] k (fun kq v35 w' => ∃ (x35_1 : Int), v35 = .int .i64 x35_1 ∧ Aside0 (spilelaw39_SealOnce.l0 kq l0 a2 t399 a1 a3 t399 (t399.length : Int) x35_1 a1 a3 = some r) ∧ Aside0 (kq ≤ k) ∧ Aside0 (Kd.R (Kd.int .i64) 3 w' w.heap.size (fun _ => True) (.slice Ao21 t399.length co21) t399) ∧ Aside0 (Kd.R (Kd.int .i64) 3 w' w.heap.size (fun _ => True) (.slice Ao21 t399.length co21) t399) ∧ Aside0 (w'.heap[gb393]? = some (.cells #[.int .i64 a1] 3 (0, 0))) ∧ Aside0 (w'.heap[gb394]? = some (.cells #[.int .i64 a3] 3 (0, 0))) ∧ Aside0 (Below w.heap.size w w'))
    case atStart => exact ⟨(0), (by first | rfl | (simp; done) | (simp [*]; done)), H', ⟨Nat.le_refl _⟩, ⟨by (with_reducible repeat (first | apply Kd.R_alloc | apply Kd.R_drewN | apply Kd.R_drew)); exact HO402.out⟩, ⟨by (with_reducible repeat (first | apply Kd.R_alloc | apply Kd.R_drewN | apply Kd.R_drew)); exact HO402.out⟩, ⟨by (with_reducible repeat (first | refine bqN ?_ _ | refine bqD ?_ | refine bqA ?_ _)); exact BK393.out⟩, ⟨by (with_reducible repeat (first | refine bqN ?_ _ | refine bqD ?_ | refine bqA ?_ _)); exact BK394.out⟩, ⟨by repeat (first | (with_reducible first | exact HB.out | apply lqA | apply lqN | apply lqD | refine lqS ?_ GE393.out | refine lqS ?_ GE394.out) | exact HB.out)⟩⟩
    case round =>
     clear H'
     try clear c1
     try clear p2
     try clear c5
     try clear c6
     try clear c7
     try clear c7b0
     try clear c7b1
     try clear c10
     try clear c13
     try clear c13b0
     try clear c13b1
     try clear c14
     obtain ⟨x35_1, rfl, HA, HK1, HO_9, HO_33, BK393, BK394, HB⟩ := hrel
     cases gk with
     | zero => exact absurd HA.out (by simp [spilelaw39_SealOnce.l0])
     | succ k1 =>
      have H := HA.out
      clear HA
      simp only [spilelaw39_SealOnce.l0] at H
      by_cases c22 : x35_1 < (t399.length : Int)
      ·rw [if_pos c22] at H
       have c22b0 : decide (x35_1 < (t399.length : Int)) = true := decide_eq_true c22
       clear c22
       by_cases c23 : 0 ≤ x35_1
       ·rw [if_pos c23] at H
        have c23b0 : decide (0 ≤ x35_1) = true := decide_eq_true c23
        clear c23
        by_cases c24 : x35_1 < (t399.length : Int)
        ·rw [if_pos c24] at H
         have c24b0 : decide (x35_1 < (t399.length : Int)) = true := decide_eq_true c24
         clear c24
         have HC25 := Aside0.mk H
         clear H
         have p403 : 0 ≤ (x35_1 : Int) := of_decide_eq_true (by first | (with_reducible assumption) | assumption)
         have q403 : x35_1 < (t399.length : Int) := of_decide_eq_true (by first | (with_reducible assumption) | assumption)
         obtain ⟨ad403, e403, hx403_0⟩ := Kd.at_int (Kd.R_reads' HO_33.out).2.2 x35_1 p403 q403
         cases e403
         replace p403 := eq_true p403
         replace q403 := eq_true q403
         go_upto_region 11 with (first | ((with_reducible refine gqD (N := 12) rfl ?_); refine box_event ?hg (N := 12) ?hd (cs := #[.int .i64 0]) (t := 3) ?hr ?_; (case hd => rfl); (case hg => rfl); (case hr => first | (go_simp; done) | (go_simp; rfl)); intro gb404 hg w26 hbox hb; have n0_ := Aside0.mk (Kd.R_below (Kd.R_elderB (by (with_reducible repeat (first | apply Kd.R_alloc | apply Kd.R_drewN | apply Kd.R_drew)); exact HO_9.out) gb404 (Nat.le_of_eq hg.symm)) hb); have n1_ := Aside0.mk (Kd.R_below (Kd.R_elderB (by (with_reducible repeat (first | apply Kd.R_alloc | apply Kd.R_drewN | apply Kd.R_drew)); exact HO_33.out) gb404 (Nat.le_of_eq hg.symm)) hb); have n2_ := Aside0.mk (bqB (g := gb393) (o := .cells #[.int .i64 a1] 3 (0, 0)) (by (with_reducible repeat (first | refine bqN ?_ _ | refine bqD ?_ | refine bqA ?_ _)); exact BK393.out) hb); have n3_ := Aside0.mk (bqB (g := gb394) (o := .cells #[.int .i64 a3] 3 (0, 0)) (by (with_reducible repeat (first | refine bqN ?_ _ | refine bqD ?_ | refine bqA ?_ _)); exact BK394.out) hb); have n4_ := Aside0.mk (lqT (by repeat (first | (with_reducible first | exact HB.out | apply lqA | apply lqN | apply lqD | refine lqS ?_ GE393.out | refine lqS ?_ GE394.out) | exact HB.out)) hb); have n5_ := Aside0.mk (hbox); have n6_ := Aside0.mk ((by rw [hg]; exact (lqZ (by repeat (first | (with_reducible first | exact HB.out | apply lqA | apply lqN | apply lqD | refine lqS ?_ GE393.out | refine lqS ?_ GE394.out) | exact HB.out))) : w.heap.size ≤ gb404)); have n7_ := Aside0.mk ((by rw [hg]; exact (lqZ (by repeat (first | (with_reducible first | exact HB.out | apply lqA | apply lqN | apply lqD | refine lqS ?_ GE393.out | refine lqS ?_ GE394.out) | exact HB.out))) : w.heap.size ≤ gb404)); have n8_ := Aside0.mk ((by rw [hg]; exact Nat.ne_of_lt (blk_lt (g := gb393) (o := .cells #[.int .i64 a1] 3 (0, 0)) (by (with_reducible repeat (first | refine bqN ?_ _ | refine bqD ?_ | refine bqA ?_ _)); exact BK393.out)) : gb393 ≠ gb404)); have n9_ := Aside0.mk ((by rw [hg]; exact Nat.ne_of_gt (blk_lt (g := gb393) (o := .cells #[.int .i64 a1] 3 (0, 0)) (by (with_reducible repeat (first | refine bqN ?_ _ | refine bqD ?_ | refine bqA ?_ _)); exact BK393.out)) : gb404 ≠ gb393)); have n10_ := Aside0.mk ((by rw [hg]; exact Nat.ne_of_lt (blk_lt (g := gb394) (o := .cells #[.int .i64 a3] 3 (0, 0)) (by (with_reducible repeat (first | refine bqN ?_ _ | refine bqD ?_ | refine bqA ?_ _)); exact BK394.out)) : gb394 ≠ gb404)); have n11_ := Aside0.mk ((by rw [hg]; exact Nat.ne_of_gt (blk_lt (g := gb394) (o := .cells #[.int .i64 a3] 3 (0, 0)) (by (with_reducible repeat (first | refine bqN ?_ _ | refine bqD ?_ | refine bqA ?_ _)); exact BK394.out)) : gb404 ≠ gb394)); clear HO_9; clear HO_33; clear BK393; clear BK394; clear HB; have HO_9 := n0_; have HO_33 := n1_; have BK393 := n2_; have BK394 := n3_; have HB := n4_; have BK404 := n5_; have GW404 := n6_; have GE404 := n7_; have NB393_404 := n8_; have NB404_393 := n9_; have NB394_404 := n10_; have NB404_394 := n11_; clear n0_ n1_ n2_ n3_ n4_ n5_ n6_ n7_ n8_ n9_ n10_ n11_; clear hb hbox hg; have hnb27 := NB404_393.out; have hnc27 := NB393_404.out; have hnb28 := NB404_394.out; have hnc28 := NB394_404.out; have hcz29_0 : w26.cell? ⟨gb404, 0, none⟩ = some (.int .i64 0) := (bqC BK404.out 0).trans rfl; have hfz29_0 := bqF BK404.out 0))
         (try simp only [Act.put, List.setIfInBounds_toArray, List.set_cons_zero, List.set_cons_succ])
         go_cut [56] (fun v56 wc => ∃ (kq : Nat) (x56_24 : Bool), v56 = .bool x56_24 ∧ Aside0 (spilelaw39_SealOnce.j1 kq l0 a2 t399 a1 a3 t399 (t399.length : Int) x35_1 x56_24 a1 a3 = some r) ∧ Aside0 (kq ≤ k1) ∧ Aside0 (Kd.R (Kd.int .i64) 3 wc w.heap.size (fun _ => True) (.slice (some ad403) t399.length co21) t399) ∧ Aside0 (Kd.R (Kd.int .i64) 3 wc w.heap.size (fun _ => True) (.slice (some ad403) t399.length co21) t399) ∧ Aside0 (wc.heap[gb393]? = some (.cells #[.int .i64 a1] 3 (0, 0))) ∧ Aside0 (wc.heap[gb394]? = some (.cells #[.int .i64 a3] 3 (0, 0))) ∧ Aside0 (wc.heap[gb404]? = some (.cells #[.int .i64 (rd t399 x35_1)] 3 (0, 0))) ∧ Aside0 (Below w.heap.size w wc))
         case first =>
          have H := HC25.out
          clear HC25
          by_cases c30 : x35_1 > 0
          ·rw [if_pos c30] at H
           have c30b0 : decide (0 < x35_1) = true := decide_eq_true c30
           clear c30
           (first | rw [c30b0] | (simp only [i64_w, i32_w]; rw [c30b0]) | skip)
           obtain ⟨ji31, hji31⟩ : ∃ j_ : Int, (wrap64 (x35_1 - 1)) = j_ := ⟨_, rfl⟩
           replace H : (if 0 ≤ (ji31) then (if (ji31) < (t399.length : Int) then (if (rd t399 (ji31)) ≥ (rd t399 x35_1) then (none) else ((contS.f l0 (rd t399 x35_1) a1 a3).bind fun t406 => (spilelaw39_SealOnce.j1 k1 l0 a2 t399 a1 a3 t399 (t399.length : Int) x35_1 (!t406) a1 a3))) else (none)) else (none)) = some r := by first | (rw [hji31] at H; exact H) | (simp only [hji31] at H ⊢; exact H)
           have hji31w : (IntKind.i64.wrap (x35_1 - 1)) = ji31 := (i64_w _).trans hji31
           by_cases c32 : 0 ≤ (ji31)
           ·rw [if_pos c32] at H
            have c32b0 : decide (0 ≤ (ji31)) = true := decide_eq_true c32
            clear c32
            by_cases c33 : (ji31) < (t399.length : Int)
            ·rw [if_pos c33] at H
             have c33b0 : decide ((ji31) < (t399.length : Int)) = true := decide_eq_true c33
             clear c33
             by_cases c34 : (rd t399 (ji31)) ≥ (rd t399 x35_1)
             ·rw [if_pos c34] at H
              exact absurd H (by simp)
             ·rw [if_neg c34] at H
              have c34b0 : decide ((rd t399 x35_1) ≤ (rd t399 (ji31))) = false := decide_eq_false c34
              clear c34
              replace H := Option.bind_eq_some_iff.mp H
              obtain ⟨t406, A350, H⟩ := H
              replace H : (spilelaw39_SealOnce.j1 k1 l0 a2 t399 a1 a3 t399 (t399.length : Int) x35_1 (!t406) a1 a3) = some r := H
              have A35 := Aside0.mk A350
              clear A350
              have H' := Aside0.mk H
              clear H
              try go_wp2
              have n0_ : Aside0 (Kd.R (Kd.int .i64) 3 (w26.setCell ⟨gb404, 0, none⟩ (.int .i64 (rd t399 x35_1))) w.heap.size (fun _ => True) (.slice (some ad403) t399.length co21) t399) := ⟨by (with_reducible repeat (first | apply Kd.R_alloc | apply Kd.R_drewN | apply Kd.R_drew)); exact Kd.R_mono (Kd.R_far (p := ⟨gb404, 0, none⟩) HO_9.out (fun _ hk => hk.2) (.int .i64 (rd t399 x35_1))) (fun _ hk => trivial)⟩
              have n1_ : Aside0 (Kd.R (Kd.int .i64) 3 (w26.setCell ⟨gb404, 0, none⟩ (.int .i64 (rd t399 x35_1))) w.heap.size (fun _ => True) (.slice (some ad403) t399.length co21) t399) := ⟨by (with_reducible repeat (first | apply Kd.R_alloc | apply Kd.R_drewN | apply Kd.R_drew)); exact Kd.R_mono (Kd.R_far (p := ⟨gb404, 0, none⟩) HO_33.out (fun _ hk => hk.2) (.int .i64 (rd t399 x35_1))) (fun _ hk => trivial)⟩
              have n2_ : Aside0 ((w26.setCell ⟨gb404, 0, none⟩ (.int .i64 (rd t399 x35_1))).heap[gb393]? = some (.cells #[.int .i64 a1] 3 (0, 0))) := ⟨by (with_reducible repeat (first | refine bqN ?_ _ | refine bqD ?_ | refine bqA ?_ _)); refine blk_far ?_ NB393_404.out _; (with_reducible repeat (first | refine bqN ?_ _ | refine bqD ?_ | refine bqA ?_ _)); exact BK393.out⟩
              have n3_ : Aside0 ((w26.setCell ⟨gb404, 0, none⟩ (.int .i64 (rd t399 x35_1))).heap[gb394]? = some (.cells #[.int .i64 a3] 3 (0, 0))) := ⟨by (with_reducible repeat (first | refine bqN ?_ _ | refine bqD ?_ | refine bqA ?_ _)); refine blk_far ?_ NB394_404.out _; (with_reducible repeat (first | refine bqN ?_ _ | refine bqD ?_ | refine bqA ?_ _)); exact BK394.out⟩
              have n4_ : Aside0 ((w26.setCell ⟨gb404, 0, none⟩ (.int .i64 (rd t399 x35_1))).heap[gb404]? = some (.cells #[.int .i64 (rd t399 x35_1)] 3 (0, 0))) := ⟨by (with_reducible repeat (first | refine bqN ?_ _ | refine bqD ?_ | refine bqA ?_ _)); refine bqP (cs := #[.int .i64 0]) ?_ 0 _ rfl; (with_reducible repeat (first | refine bqN ?_ _ | refine bqD ?_ | refine bqA ?_ _)); exact BK404.out⟩
              have n5_ : Aside0 (Below w.heap.size w (w26.setCell ⟨gb404, 0, none⟩ (.int .i64 (rd t399 x35_1)))) := ⟨by repeat (first | (with_reducible first | exact HB.out | apply lqA | apply lqN | apply lqD | refine lqS ?_ GE393.out | refine lqS ?_ GE394.out | refine lqS ?_ GE404.out) | exact HB.out)⟩
              (try clear HO_9)
              (try clear HO_33)
              (try clear BK393)
              (try clear BK394)
              (try clear BK404)
              (try clear HB)
              generalize (w26.setCell ⟨gb404, 0, none⟩ (.int .i64 (rd t399 x35_1))) = w36 at n0_ n1_ n2_ n3_ n4_ n5_ ⊢
              have HO_9 := n0_
              have HO_33 := n1_
              have BK393 := n2_
              have BK394 := n3_
              have BK404 := n4_
              have HB := n5_
              clear n0_ n1_ n2_ n3_ n4_ n5_
              have n0_ := Aside0.mk (Kd.R_drew HO_9.out)
              have n1_ := Aside0.mk (Kd.R_drew HO_33.out)
              have n2_ := Aside0.mk (bqD BK393.out)
              have n3_ := Aside0.mk (bqD BK394.out)
              have n4_ := Aside0.mk (bqD BK404.out)
              have n5_ := Aside0.mk (lqD HB.out)
              clear HO_9
              clear HO_33
              clear BK393
              clear BK394
              clear BK404
              clear HB
              have HO_9 := n0_
              have HO_33 := n1_
              have BK393 := n2_
              have BK394 := n3_
              have BK404 := n4_
              have HB := n5_
              clear n0_ n1_ n2_ n3_ n4_ n5_
              have p405 : 0 ≤ ((ji31) : Int) := of_decide_eq_true (by first | (with_reducible assumption) | assumption)
              have q405 : (ji31) < (t399.length : Int) := of_decide_eq_true (by first | (with_reducible assumption) | assumption)
              obtain ⟨ad405, e405, hx405_0⟩ := Kd.at_int (Kd.R_reads' HO_9.out).2.2 (ji31) p405 q405
              obtain rfl : ad403 = ad405 := (by injection e405)
              replace p405 := eq_true p405
              replace q405 := eq_true q405
              refine start_ (n := 17) (S := fun w' => w'.cell? ⟨gb404, 0, none⟩ = some (.int .i64 (rd t399 x35_1)) ∧ w'.cell? (ad403.add ((ji31)).toNat) = some (.int .i64 (rd t399 (ji31)))) (ds := []) #[false, false, false, false, false, false, false, false, false, false, false, false, false, false, false, false, false] (by kernel_rfl) rfl rfl ⟨(bqC BK404.out 0).trans rfl, hx405_0⟩ (fun hHeld => ?_); refine with_tabW spilelaw39_SealOnce.tab11 spilelaw39_SealOnce.bits11 (fun HT_ HW_ => ?_)
              generalize w36.drew = w37 at HO_9 HO_33 BK393 BK394 BK404 HB hx405_0 hHeld ⊢
              refine pure_ (i := 0) (N := some 40) (v := ?_) (a' := ?_) #[true, false, false, false, false, false, false, false, false, false, false, false, false, false, false, false, false] rfl rfl (any_of HT_.out (by kernel_rfl)) (fun _ _ _ h => h) (Or.inl ⟨by rfl, ?_⟩) ?_ ?_
              rotate_left
              ·intro w'
               go_simp
               with_reducible rfl
              rotate_left
              ·simp only [Act.put, List.setIfInBounds_toArray, List.set_cons_zero, List.set_cons_succ, i64_w, i32_w]
               rfl
              refine pure_ (i := 1) (N := some 41) (v := ?_) (a' := ?_) #[true, true, false, false, false, false, false, false, false, false, false, false, false, false, false, false, false] rfl rfl (any_of HT_.out (by kernel_rfl)) (fun _ _ _ h => h) (Or.inl ⟨by rfl, ?_⟩) ?_ ?_
              rotate_left
              ·intro w'
               go_simp
               with_reducible rfl
              rotate_left
              ·simp only [Act.put, List.setIfInBounds_toArray, List.set_cons_zero, List.set_cons_succ, i64_w, i32_w]
               rfl
              refine pure_ (i := 2) (N := some 42) (v := ?_) (a' := ?_) #[true, true, true, false, false, false, false, false, false, false, false, false, false, false, false, false, false] rfl rfl (any_of HT_.out (by kernel_rfl)) (fun _ _ _ h => h) (Or.inl ⟨by rfl, ?_⟩) ?_ ?_
              rotate_left
              ·intro w'
               go_simp
               with_reducible rfl
              rotate_left
              ·simp only [Act.put, List.setIfInBounds_toArray, List.set_cons_zero, List.set_cons_succ, i64_w, i32_w]
               rfl
              refine pure_ (i := 3) (N := some 43) (v := ?_) (a' := ?_) #[true, true, true, true, false, false, false, false, false, false, false, false, false, false, false, false, false] rfl rfl (any_of HT_.out (by kernel_rfl)) (fun _ _ _ h => h) (Or.inl ⟨by rfl, ?_⟩) ?_ ?_
              rotate_left
              ·intro w'
               go_simp
               with_reducible rfl
              rotate_left
              ·simp only [Act.put, List.setIfInBounds_toArray, List.set_cons_zero, List.set_cons_succ, i64_w, i32_w]
               rfl
              refine pure_ (i := 4) (N := some 44) (v := ?_) (a' := ?_) #[true, true, true, true, true, false, false, false, false, false, false, false, false, false, false, false, false] rfl rfl (any_of HT_.out (by kernel_rfl)) (fun _ _ _ h => h) (Or.inl ⟨by rfl, ?_⟩) ?_ ?_
              rotate_left
              ·intro w'
               go_simp
               with_reducible rfl
              rotate_left
              ·simp only [Act.put, List.setIfInBounds_toArray, List.set_cons_zero, List.set_cons_succ, i64_w, i32_w]
               rfl
              refine pure_ (i := 5) (N := some 45) (v := ?_) (a' := ?_) #[true, true, true, true, true, true, false, false, false, false, false, false, false, false, false, false, false] rfl rfl (any_of HT_.out (by kernel_rfl)) (fun _ _ _ h => h) (Or.inl ⟨by rfl, ?_⟩) ?_ ?_
              rotate_left
              ·intro w'
               go_simp
               with_reducible rfl
              rotate_left
              ·simp only [Act.put, List.setIfInBounds_toArray, List.set_cons_zero, List.set_cons_succ, i64_w, i32_w]
               rfl
              refine pure_ (i := 6) (N := some 46) (v := ?_) (a' := ?_) #[true, true, true, true, true, true, true, false, false, false, false, false, false, false, false, false, false] rfl rfl (any_of HT_.out (by kernel_rfl)) (fun _ _ _ h => h) (Or.inl ⟨by rfl, ?_⟩) ?_ ?_
              rotate_left
              ·intro w'
               go_simp
               with_reducible rfl
              rotate_left
              ·simp only [Act.put, List.setIfInBounds_toArray, List.set_cons_zero, List.set_cons_succ, i64_w, i32_w]
               rfl
              refine take_ (i := 7) (N := some 47) (v := ?_) (a' := ?_) #[true, true, true, true, true, true, true, true, false, false, false, false, false, false, false, false, false] rfl rfl (take_ofW HT_.out HW_.out (by kernel_rfl)) (fun _ _ _ h => h) (Or.inl ⟨by rfl, ?_⟩) hHeld ?_ ?_
              rotate_left
              ·rintro w' ⟨s0, s1⟩
               go_simp
               with_reducible rfl
              rotate_left
              ·simp only [Act.put, List.setIfInBounds_toArray, List.set_cons_zero, List.set_cons_succ, i64_w, i32_w]
               rfl
              refine take_ (i := 8) (N := some 48) (v := ?_) (a' := ?_) #[true, true, true, true, true, true, true, true, true, false, false, false, false, false, false, false, false] rfl rfl (take_ofW HT_.out HW_.out (by kernel_rfl)) (fun _ _ _ h => h) (Or.inl ⟨by rfl, ?_⟩) hHeld ?_ ?_
              rotate_left
              ·rintro w' ⟨s0, s1⟩
               go_simp
               with_reducible rfl
              rotate_left
              ·simp only [Act.put, List.setIfInBounds_toArray, List.set_cons_zero, List.set_cons_succ, i64_w, i32_w]
               rfl
              refine pure_ (i := 9) (N := some 49) (v := ?_) (a' := ?_) #[true, true, true, true, true, true, true, true, true, true, false, false, false, false, false, false, false] rfl rfl (any_of HT_.out (by kernel_rfl)) (fun _ _ _ h => h) (Or.inl ⟨by rfl, ?_⟩) ?_ ?_
              rotate_left
              ·intro w'
               go_simp
               with_reducible rfl
              rotate_left
              ·simp only [Act.put, List.setIfInBounds_toArray, List.set_cons_zero, List.set_cons_succ, i64_w, i32_w]
               rfl
              refine pure_ (i := 10) (N := some 50) (v := ?_) (a' := ?_) #[true, true, true, true, true, true, true, true, true, true, true, false, false, false, false, false, false] rfl rfl (any_of HT_.out (by kernel_rfl)) (fun _ _ _ h => h) (Or.inl ⟨by rfl, ?_⟩) ?_ ?_
              rotate_left
              ·intro w'
               go_simp
               with_reducible rfl
              rotate_left
              ·simp only [Act.put, List.setIfInBounds_toArray, List.set_cons_zero, List.set_cons_succ, i64_w, i32_w]
               rfl
              refine pure_ (i := 11) (N := some 51) (v := ?_) (a' := ?_) #[true, true, true, true, true, true, true, true, true, true, true, true, false, false, false, false, false] rfl rfl (any_of HT_.out (by kernel_rfl)) (fun _ _ _ h => h) (Or.inl ⟨by rfl, ?_⟩) ?_ ?_
              rotate_left
              ·intro w'
               go_simp
               with_reducible rfl
              rotate_left
              ·simp only [Act.put, List.setIfInBounds_toArray, List.set_cons_zero, List.set_cons_succ, i64_w, i32_w]
               rfl
              refine pure_ (i := 12) (N := some 52) (v := ?_) (a' := ?_) #[true, true, true, true, true, true, true, true, true, true, true, true, true, false, false, false, false] rfl rfl (any_of HT_.out (by kernel_rfl)) (fun _ _ _ h => h) (Or.inl ⟨by rfl, ?_⟩) ?_ ?_
              rotate_left
              ·intro w'
               go_simp
               with_reducible rfl
              rotate_left
              ·simp only [Act.put, List.setIfInBounds_toArray, List.set_cons_zero, List.set_cons_succ, i64_w, i32_w]
               rfl
              refine take_ (i := 13) (N := some 53) (v := ?_) (a' := ?_) #[true, true, true, true, true, true, true, true, true, true, true, true, true, true, false, false, false] rfl rfl (take_ofW HT_.out HW_.out (by kernel_rfl)) (fun _ _ _ h => h) (Or.inl ⟨by rfl, ?_⟩) hHeld ?_ ?_
              rotate_left
              ·rintro w' ⟨s0, s1⟩
               go_simp
               with_reducible rfl
              rotate_left
              ·simp only [Act.put, List.setIfInBounds_toArray, List.set_cons_zero, List.set_cons_succ, i64_w, i32_w]
               rfl
              refine one_ (i := 14) (N := some 54) #[true, true, true, true, true, true, true, true, true, true, true, true, true, true, true, false, false] rfl rfl (one_of HT_.out (by kernel_rfl)) (by decide) (fun K hK => ?_)
              refine goes_ Try.func21 (by kernel_rfl) rfl #[.slice A0 l0.length c0, .func (.func 22) #[] #[.pointer (some ⟨gb404, 0, none⟩), .pointer (some ⟨gb393, 0, none⟩), .pointer (some ⟨gb394, 0, none⟩)]] (by rfl) rfl rfl (by (try simp only [List.map_toArray, List.map_cons, List.map_nil]); first | done | rfl | (simp only [List.length_drop, List.length_take]; rfl)) ?_
              with_reducible refine (contS.calls _ _ l0 (rd t399 x35_1) a1 a3 t406 _ ?side1 ?side2 A35.out gb404 gb393 gb394 ?side3 ?side4 ?side5).mono ?_
              (case side3 => exact (by (with_reducible repeat (first | refine bqN ?_ _ | refine bqD ?_ | refine bqA ?_ _)); exact BK404.out))
              (case side4 => exact (by (with_reducible repeat (first | refine bqN ?_ _ | refine bqD ?_ | refine bqA ?_ _)); exact BK393.out))
              (case side5 => exact (by (with_reducible repeat (first | refine bqN ?_ _ | refine bqD ?_ | refine bqA ?_ _)); exact BK394.out))
              (case side1 => repeat (first | exact (Kd.C_below HR0.out HB.out) | (with_reducible refine Kd.C_alloc ?_ _) | (with_reducible refine Kd.C_drewN ?_ _) | (with_reducible refine Kd.C_drew ?_)))
              (case side2 => exact HC0.out)
              rintro e w38 ⟨rfl, hb⟩
              have HS1_ := (hb.cell (World.block_lt_of_cell? _ _ (hHeld.2))).trans (hHeld.2)
              refine ⟨_, rfl, ?_⟩
              have n0_ := Aside0.mk (Kd.R_below (by (with_reducible repeat (first | apply Kd.R_alloc | apply Kd.R_drewN | apply Kd.R_drew)); exact HO_9.out) hb)
              have n1_ := Aside0.mk (Kd.R_below (by (with_reducible repeat (first | apply Kd.R_alloc | apply Kd.R_drewN | apply Kd.R_drew)); exact HO_33.out) hb)
              have n2_ := Aside0.mk (bqB (g := gb393) (o := .cells #[.int .i64 a1] 3 (0, 0)) (by (with_reducible repeat (first | refine bqN ?_ _ | refine bqD ?_ | refine bqA ?_ _)); exact BK393.out) hb)
              have n3_ := Aside0.mk (bqB (g := gb394) (o := .cells #[.int .i64 a3] 3 (0, 0)) (by (with_reducible repeat (first | refine bqN ?_ _ | refine bqD ?_ | refine bqA ?_ _)); exact BK394.out) hb)
              have n4_ := Aside0.mk (bqB (g := gb404) (o := .cells #[.int .i64 (rd t399 x35_1)] 3 (0, 0)) (by (with_reducible repeat (first | refine bqN ?_ _ | refine bqD ?_ | refine bqA ?_ _)); exact BK404.out) hb)
              have n5_ := Aside0.mk (lqT (by repeat (first | (with_reducible first | exact HB.out | apply lqA | apply lqN | apply lqD | refine lqS ?_ GE393.out | refine lqS ?_ GE394.out | refine lqS ?_ GE404.out) | exact HB.out)) hb)
              clear HO_9
              clear HO_33
              clear BK393
              clear BK394
              clear BK404
              clear HB
              have HO_9 := n0_
              have HO_33 := n1_
              have BK393 := n2_
              have BK394 := n3_
              have BK404 := n4_
              have HB := n5_
              clear n0_ n1_ n2_ n3_ n4_ n5_
              (try clear hb)
              (try clear hb2)
              (try clear hk)
              (try clear hi)
              refine hK.out _ _ ⟨(bqC BK404.out 0).trans rfl, HS1_⟩ (fun hHeld => ?_)
              clear hK K
              refine norm_ (a' := ?_) ?_ ?_
              rotate_left
              ·show Act.put _ (some 54) _ = _
               simp only [Act.put, List.setIfInBounds_toArray, List.set_cons_zero, List.set_cons_succ, i64_w, i32_w]
               rfl
              refine pure_ (i := 15) (N := some 55) (v := ?_) (a' := ?_) #[true, true, true, true, true, true, true, true, true, true, true, true, true, true, true, true, false] rfl rfl (any_of HT_.out (by kernel_rfl)) (fun _ _ _ h => h) (Or.inl ⟨by rfl, ?_⟩) ?_ ?_
              rotate_left
              ·intro w'
               go_simp
               with_reducible rfl
              rotate_left
              ·simp only [Act.put, List.setIfInBounds_toArray, List.set_cons_zero, List.set_cons_succ, i64_w, i32_w]
               rfl
              refine pure_ (i := 16) (N := some 56) (v := ?_) (a' := ?_) #[true, true, true, true, true, true, true, true, true, true, true, true, true, true, true, true, true] rfl rfl (any_of HT_.out (by kernel_rfl)) (fun _ _ _ h => h) (Or.inl ⟨by rfl, ?_⟩) ?_ ?_
              rotate_left
              ·intro w'
               go_simp
               with_reducible rfl
              rotate_left
              ·simp only [Act.put, List.setIfInBounds_toArray, List.set_cons_zero, List.set_cons_succ, i64_w, i32_w]
               rfl
              refine done_ (done_of HT_.out (by kernel_rfl)) ?_
              try go_wp2
              go_meet
              case rel => exact ⟨_, (!t406), (by first | rfl | (simp; done) | (simp [*]; done)), H', ⟨by have := HK1.out; first | omega | exact Nat.le_refl _⟩, ⟨by (with_reducible repeat (first | apply Kd.R_alloc | apply Kd.R_drewN | apply Kd.R_drew)); exact HO_9.out⟩, ⟨by (with_reducible repeat (first | apply Kd.R_alloc | apply Kd.R_drewN | apply Kd.R_drew)); exact HO_33.out⟩, ⟨by (with_reducible repeat (first | refine bqN ?_ _ | refine bqD ?_ | refine bqA ?_ _)); exact BK393.out⟩, ⟨by (with_reducible repeat (first | refine bqN ?_ _ | refine bqD ?_ | refine bqA ?_ _)); exact BK394.out⟩, ⟨by (with_reducible repeat (first | refine bqN ?_ _ | refine bqD ?_ | refine bqA ?_ _)); exact BK404.out⟩, ⟨by repeat (first | (with_reducible first | exact HB.out | apply lqA | apply lqN | apply lqD | refine lqS ?_ GE393.out | refine lqS ?_ GE394.out | refine lqS ?_ GE404.out) | exact HB.out)⟩⟩
            ·rw [if_neg c33] at H
             exact absurd H (by simp)
           ·rw [if_neg c32] at H
            exact absurd H (by simp)
          ·rw [if_neg c30] at H
           have c30b0 : decide (0 < x35_1) = false := decide_eq_false c30
           clear c30
           (first | rw [c30b0] | (simp only [i64_w, i32_w]; rw [c30b0]) | skip)
           replace H := Option.bind_eq_some_iff.mp H
           obtain ⟨t407, A390, H⟩ := H
           replace H : (spilelaw39_SealOnce.j1 k1 l0 a2 t399 a1 a3 t399 (t399.length : Int) x35_1 (!t407) a1 a3) = some r := H
           have A39 := Aside0.mk A390
           clear A390
           have H' := Aside0.mk H
           clear H
           try go_wp2
           have n0_ : Aside0 (Kd.R (Kd.int .i64) 3 (w26.setCell ⟨gb404, 0, none⟩ (.int .i64 (rd t399 x35_1))) w.heap.size (fun _ => True) (.slice (some ad403) t399.length co21) t399) := ⟨by (with_reducible repeat (first | apply Kd.R_alloc | apply Kd.R_drewN | apply Kd.R_drew)); exact Kd.R_mono (Kd.R_far (p := ⟨gb404, 0, none⟩) HO_9.out (fun _ hk => hk.2) (.int .i64 (rd t399 x35_1))) (fun _ hk => trivial)⟩
           have n1_ : Aside0 (Kd.R (Kd.int .i64) 3 (w26.setCell ⟨gb404, 0, none⟩ (.int .i64 (rd t399 x35_1))) w.heap.size (fun _ => True) (.slice (some ad403) t399.length co21) t399) := ⟨by (with_reducible repeat (first | apply Kd.R_alloc | apply Kd.R_drewN | apply Kd.R_drew)); exact Kd.R_mono (Kd.R_far (p := ⟨gb404, 0, none⟩) HO_33.out (fun _ hk => hk.2) (.int .i64 (rd t399 x35_1))) (fun _ hk => trivial)⟩
           have n2_ : Aside0 ((w26.setCell ⟨gb404, 0, none⟩ (.int .i64 (rd t399 x35_1))).heap[gb393]? = some (.cells #[.int .i64 a1] 3 (0, 0))) := ⟨by (with_reducible repeat (first | refine bqN ?_ _ | refine bqD ?_ | refine bqA ?_ _)); refine blk_far ?_ NB393_404.out _; (with_reducible repeat (first | refine bqN ?_ _ | refine bqD ?_ | refine bqA ?_ _)); exact BK393.out⟩
           have n3_ : Aside0 ((w26.setCell ⟨gb404, 0, none⟩ (.int .i64 (rd t399 x35_1))).heap[gb394]? = some (.cells #[.int .i64 a3] 3 (0, 0))) := ⟨by (with_reducible repeat (first | refine bqN ?_ _ | refine bqD ?_ | refine bqA ?_ _)); refine blk_far ?_ NB394_404.out _; (with_reducible repeat (first | refine bqN ?_ _ | refine bqD ?_ | refine bqA ?_ _)); exact BK394.out⟩
           have n4_ : Aside0 ((w26.setCell ⟨gb404, 0, none⟩ (.int .i64 (rd t399 x35_1))).heap[gb404]? = some (.cells #[.int .i64 (rd t399 x35_1)] 3 (0, 0))) := ⟨by (with_reducible repeat (first | refine bqN ?_ _ | refine bqD ?_ | refine bqA ?_ _)); refine bqP (cs := #[.int .i64 0]) ?_ 0 _ rfl; (with_reducible repeat (first | refine bqN ?_ _ | refine bqD ?_ | refine bqA ?_ _)); exact BK404.out⟩
           have n5_ : Aside0 (Below w.heap.size w (w26.setCell ⟨gb404, 0, none⟩ (.int .i64 (rd t399 x35_1)))) := ⟨by repeat (first | (with_reducible first | exact HB.out | apply lqA | apply lqN | apply lqD | refine lqS ?_ GE393.out | refine lqS ?_ GE394.out | refine lqS ?_ GE404.out) | exact HB.out)⟩
           (try clear HO_9)
           (try clear HO_33)
           (try clear BK393)
           (try clear BK394)
           (try clear BK404)
           (try clear HB)
           generalize (w26.setCell ⟨gb404, 0, none⟩ (.int .i64 (rd t399 x35_1))) = w40 at n0_ n1_ n2_ n3_ n4_ n5_ ⊢
           have HO_9 := n0_
           have HO_33 := n1_
           have BK393 := n2_
           have BK394 := n3_
           have BK404 := n4_
           have HB := n5_
           clear n0_ n1_ n2_ n3_ n4_ n5_
           have n0_ := Aside0.mk (Kd.R_drew HO_9.out)
           have n1_ := Aside0.mk (Kd.R_drew HO_33.out)
           have n2_ := Aside0.mk (bqD BK393.out)
           have n3_ := Aside0.mk (bqD BK394.out)
           have n4_ := Aside0.mk (bqD BK404.out)
           have n5_ := Aside0.mk (lqD HB.out)
           clear HO_9
           clear HO_33
           clear BK393
           clear BK394
           clear BK404
           clear HB
           have HO_9 := n0_
           have HO_33 := n1_
           have BK393 := n2_
           have BK394 := n3_
           have BK404 := n4_
           have HB := n5_
           clear n0_ n1_ n2_ n3_ n4_ n5_
           refine start_ (n := 17) (S := fun w' => w'.cell? ⟨gb404, 0, none⟩ = some (.int .i64 (rd t399 x35_1))) (ds := []) #[false, false, false, false, false, false, false, false, false, false, false, false, false, false, false, false, false] (by kernel_rfl) rfl rfl ((bqC BK404.out 0).trans rfl) (fun hHeld => ?_); refine with_tabW spilelaw39_SealOnce.tab11 spilelaw39_SealOnce.bits11 (fun HT_ HW_ => ?_)
           generalize w40.drew = w41 at HO_9 HO_33 BK393 BK394 BK404 HB hHeld ⊢
           refine pure_ (i := 0) (N := some 40) (v := ?_) (a' := ?_) #[true, false, false, false, false, false, false, false, false, false, false, false, false, false, false, false, false] rfl rfl (any_of HT_.out (by kernel_rfl)) (fun _ _ _ h => h) (Or.inl ⟨by rfl, ?_⟩) ?_ ?_
           rotate_left
           ·intro w'
            go_simp
            with_reducible rfl
           rotate_left
           ·simp only [Act.put, List.setIfInBounds_toArray, List.set_cons_zero, List.set_cons_succ, i64_w, i32_w]
            rfl
           refine pure_ (i := 1) (N := some 41) (v := ?_) (a' := ?_) #[true, true, false, false, false, false, false, false, false, false, false, false, false, false, false, false, false] rfl rfl (any_of HT_.out (by kernel_rfl)) (fun _ _ _ h => h) (Or.inl ⟨by rfl, ?_⟩) ?_ ?_
           rotate_left
           ·intro w'
            go_simp
            with_reducible rfl
           rotate_left
           ·simp only [Act.put, List.setIfInBounds_toArray, List.set_cons_zero, List.set_cons_succ, i64_w, i32_w]
            rfl
           refine pure_ (i := 2) (N := some 42) (v := ?_) (a' := ?_) #[true, true, true, false, false, false, false, false, false, false, false, false, false, false, false, false, false] rfl rfl (any_of HT_.out (by kernel_rfl)) (fun _ _ _ h => h) (Or.inl ⟨by rfl, ?_⟩) ?_ ?_
           rotate_left
           ·intro w'
            go_simp
            with_reducible rfl
           rotate_left
           ·simp only [Act.put, List.setIfInBounds_toArray, List.set_cons_zero, List.set_cons_succ, i64_w, i32_w]
            rfl
           refine pure_ (i := 3) (N := some 43) (v := undef) (a' := ?_) #[true, true, true, true, false, false, false, false, false, false, false, false, false, false, false, false, false] rfl rfl (any_of HT_.out (by kernel_rfl)) (fun _ _ _ h => h) (Or.inr ⟨by rfl, rfl⟩) ?_ ?_
           rotate_left
           ·simp only [Act.put, List.setIfInBounds_toArray, List.set_cons_zero, List.set_cons_succ, i64_w, i32_w]
            rfl
           refine pure_ (i := 4) (N := some 44) (v := undef) (a' := ?_) #[true, true, true, true, true, false, false, false, false, false, false, false, false, false, false, false, false] rfl rfl (any_of HT_.out (by kernel_rfl)) (fun _ _ _ h => h) (Or.inr ⟨by rfl, rfl⟩) ?_ ?_
           rotate_left
           ·simp only [Act.put, List.setIfInBounds_toArray, List.set_cons_zero, List.set_cons_succ, i64_w, i32_w]
            rfl
           refine pure_ (i := 5) (N := some 45) (v := undef) (a' := ?_) #[true, true, true, true, true, true, false, false, false, false, false, false, false, false, false, false, false] rfl rfl (any_of HT_.out (by kernel_rfl)) (fun _ _ _ h => h) (Or.inr ⟨by rfl, rfl⟩) ?_ ?_
           rotate_left
           ·simp only [Act.put, List.setIfInBounds_toArray, List.set_cons_zero, List.set_cons_succ, i64_w, i32_w]
            rfl
           refine pure_ (i := 6) (N := some 46) (v := undef) (a' := ?_) #[true, true, true, true, true, true, true, false, false, false, false, false, false, false, false, false, false] rfl rfl (any_of HT_.out (by kernel_rfl)) (fun _ _ _ h => h) (Or.inr ⟨by rfl, rfl⟩) ?_ ?_
           rotate_left
           ·simp only [Act.put, List.setIfInBounds_toArray, List.set_cons_zero, List.set_cons_succ, i64_w, i32_w]
            rfl
           refine pure_ (i := 7) (N := some 47) (v := undef) (a' := ?_) #[true, true, true, true, true, true, true, true, false, false, false, false, false, false, false, false, false] rfl rfl (any_of HT_.out (by kernel_rfl)) (fun _ _ _ h => h) (Or.inr ⟨by rfl, rfl⟩) ?_ ?_
           rotate_left
           ·simp only [Act.put, List.setIfInBounds_toArray, List.set_cons_zero, List.set_cons_succ, i64_w, i32_w]
            rfl
           refine pure_ (i := 8) (N := some 48) (v := undef) (a' := ?_) #[true, true, true, true, true, true, true, true, true, false, false, false, false, false, false, false, false] rfl rfl (any_of HT_.out (by kernel_rfl)) (fun _ _ _ h => h) (Or.inr ⟨by rfl, rfl⟩) ?_ ?_
           rotate_left
           ·simp only [Act.put, List.setIfInBounds_toArray, List.set_cons_zero, List.set_cons_succ, i64_w, i32_w]
            rfl
           refine pure_ (i := 9) (N := some 49) (v := undef) (a' := ?_) #[true, true, true, true, true, true, true, true, true, true, false, false, false, false, false, false, false] rfl rfl (any_of HT_.out (by kernel_rfl)) (fun _ _ _ h => h) (Or.inr ⟨by rfl, rfl⟩) ?_ ?_
           rotate_left
           ·simp only [Act.put, List.setIfInBounds_toArray, List.set_cons_zero, List.set_cons_succ, i64_w, i32_w]
            rfl
           refine pure_ (i := 10) (N := some 50) (v := ?_) (a' := ?_) #[true, true, true, true, true, true, true, true, true, true, true, false, false, false, false, false, false] rfl rfl (any_of HT_.out (by kernel_rfl)) (fun _ _ _ h => h) (Or.inl ⟨by rfl, ?_⟩) ?_ ?_
           rotate_left
           ·intro w'
            go_simp
            with_reducible rfl
           rotate_left
           ·simp only [Act.put, List.setIfInBounds_toArray, List.set_cons_zero, List.set_cons_succ, i64_w, i32_w]
            rfl
           refine pure_ (i := 11) (N := some 51) (v := ?_) (a' := ?_) #[true, true, true, true, true, true, true, true, true, true, true, true, false, false, false, false, false] rfl rfl (any_of HT_.out (by kernel_rfl)) (fun _ _ _ h => h) (Or.inl ⟨by rfl, ?_⟩) ?_ ?_
           rotate_left
           ·intro w'
            go_simp
            with_reducible rfl
           rotate_left
           ·simp only [Act.put, List.setIfInBounds_toArray, List.set_cons_zero, List.set_cons_succ, i64_w, i32_w]
            rfl
           refine pure_ (i := 12) (N := some 52) (v := ?_) (a' := ?_) #[true, true, true, true, true, true, true, true, true, true, true, true, true, false, false, false, false] rfl rfl (any_of HT_.out (by kernel_rfl)) (fun _ _ _ h => h) (Or.inl ⟨by rfl, ?_⟩) ?_ ?_
           rotate_left
           ·intro w'
            go_simp
            with_reducible rfl
           rotate_left
           ·simp only [Act.put, List.setIfInBounds_toArray, List.set_cons_zero, List.set_cons_succ, i64_w, i32_w]
            rfl
           refine take_ (i := 13) (N := some 53) (v := ?_) (a' := ?_) #[true, true, true, true, true, true, true, true, true, true, true, true, true, true, false, false, false] rfl rfl (take_ofW HT_.out HW_.out (by kernel_rfl)) (fun _ _ _ h => h) (Or.inl ⟨by rfl, ?_⟩) hHeld ?_ ?_
           rotate_left
           ·intro w' s0
            go_simp
            with_reducible rfl
           rotate_left
           ·simp only [Act.put, List.setIfInBounds_toArray, List.set_cons_zero, List.set_cons_succ, i64_w, i32_w]
            rfl
           refine one_ (i := 14) (N := some 54) #[true, true, true, true, true, true, true, true, true, true, true, true, true, true, true, false, false] rfl rfl (one_of HT_.out (by kernel_rfl)) (by decide) (fun K hK => ?_)
           refine goes_ Try.func21 (by kernel_rfl) rfl #[.slice A0 l0.length c0, .func (.func 22) #[] #[.pointer (some ⟨gb404, 0, none⟩), .pointer (some ⟨gb393, 0, none⟩), .pointer (some ⟨gb394, 0, none⟩)]] (by rfl) rfl rfl (by (try simp only [List.map_toArray, List.map_cons, List.map_nil]); first | done | rfl | (simp only [List.length_drop, List.length_take]; rfl)) ?_
           with_reducible refine (contS.calls _ _ l0 (rd t399 x35_1) a1 a3 t407 _ ?side1 ?side2 A39.out gb404 gb393 gb394 ?side3 ?side4 ?side5).mono ?_
           (case side3 => exact (by (with_reducible repeat (first | refine bqN ?_ _ | refine bqD ?_ | refine bqA ?_ _)); exact BK404.out))
           (case side4 => exact (by (with_reducible repeat (first | refine bqN ?_ _ | refine bqD ?_ | refine bqA ?_ _)); exact BK393.out))
           (case side5 => exact (by (with_reducible repeat (first | refine bqN ?_ _ | refine bqD ?_ | refine bqA ?_ _)); exact BK394.out))
           (case side1 => repeat (first | exact (Kd.C_below HR0.out HB.out) | (with_reducible refine Kd.C_alloc ?_ _) | (with_reducible refine Kd.C_drewN ?_ _) | (with_reducible refine Kd.C_drew ?_)))
           (case side2 => exact HC0.out)
           rintro e w42 ⟨rfl, hb⟩
           refine ⟨_, rfl, ?_⟩
           have n0_ := Aside0.mk (Kd.R_below (by (with_reducible repeat (first | apply Kd.R_alloc | apply Kd.R_drewN | apply Kd.R_drew)); exact HO_9.out) hb)
           have n1_ := Aside0.mk (Kd.R_below (by (with_reducible repeat (first | apply Kd.R_alloc | apply Kd.R_drewN | apply Kd.R_drew)); exact HO_33.out) hb)
           have n2_ := Aside0.mk (bqB (g := gb393) (o := .cells #[.int .i64 a1] 3 (0, 0)) (by (with_reducible repeat (first | refine bqN ?_ _ | refine bqD ?_ | refine bqA ?_ _)); exact BK393.out) hb)
           have n3_ := Aside0.mk (bqB (g := gb394) (o := .cells #[.int .i64 a3] 3 (0, 0)) (by (with_reducible repeat (first | refine bqN ?_ _ | refine bqD ?_ | refine bqA ?_ _)); exact BK394.out) hb)
           have n4_ := Aside0.mk (bqB (g := gb404) (o := .cells #[.int .i64 (rd t399 x35_1)] 3 (0, 0)) (by (with_reducible repeat (first | refine bqN ?_ _ | refine bqD ?_ | refine bqA ?_ _)); exact BK404.out) hb)
           have n5_ := Aside0.mk (lqT (by repeat (first | (with_reducible first | exact HB.out | apply lqA | apply lqN | apply lqD | refine lqS ?_ GE393.out | refine lqS ?_ GE394.out | refine lqS ?_ GE404.out) | exact HB.out)) hb)
           clear HO_9
           clear HO_33
           clear BK393
           clear BK394
           clear BK404
           clear HB
           have HO_9 := n0_
           have HO_33 := n1_
           have BK393 := n2_
           have BK394 := n3_
           have BK404 := n4_
           have HB := n5_
           clear n0_ n1_ n2_ n3_ n4_ n5_
           (try clear hb)
           (try clear hb2)
           (try clear hk)
           (try clear hi)
           refine hK.out _ _ ((bqC BK404.out 0).trans rfl) (fun hHeld => ?_)
           clear hK K
           refine norm_ (a' := ?_) ?_ ?_
           rotate_left
           ·show Act.put _ (some 54) _ = _
            simp only [Act.put, List.setIfInBounds_toArray, List.set_cons_zero, List.set_cons_succ, i64_w, i32_w]
            rfl
           refine pure_ (i := 15) (N := some 55) (v := ?_) (a' := ?_) #[true, true, true, true, true, true, true, true, true, true, true, true, true, true, true, true, false] rfl rfl (any_of HT_.out (by kernel_rfl)) (fun _ _ _ h => h) (Or.inl ⟨by rfl, ?_⟩) ?_ ?_
           rotate_left
           ·intro w'
            go_simp
            with_reducible rfl
           rotate_left
           ·simp only [Act.put, List.setIfInBounds_toArray, List.set_cons_zero, List.set_cons_succ, i64_w, i32_w]
            rfl
           refine pure_ (i := 16) (N := some 56) (v := ?_) (a' := ?_) #[true, true, true, true, true, true, true, true, true, true, true, true, true, true, true, true, true] rfl rfl (any_of HT_.out (by kernel_rfl)) (fun _ _ _ h => h) (Or.inl ⟨by rfl, ?_⟩) ?_ ?_
           rotate_left
           ·intro w'
            go_simp
            with_reducible rfl
           rotate_left
           ·simp only [Act.put, List.setIfInBounds_toArray, List.set_cons_zero, List.set_cons_succ, i64_w, i32_w]
            rfl
           refine done_ (done_of HT_.out (by kernel_rfl)) ?_
           try go_wp2
           go_meet
           case rel => exact ⟨_, (!t407), (by first | rfl | (simp; done) | (simp [*]; done)), H', ⟨by have := HK1.out; first | omega | exact Nat.le_refl _⟩, ⟨by (with_reducible repeat (first | apply Kd.R_alloc | apply Kd.R_drewN | apply Kd.R_drew)); exact HO_9.out⟩, ⟨by (with_reducible repeat (first | apply Kd.R_alloc | apply Kd.R_drewN | apply Kd.R_drew)); exact HO_33.out⟩, ⟨by (with_reducible repeat (first | refine bqN ?_ _ | refine bqD ?_ | refine bqA ?_ _)); exact BK393.out⟩, ⟨by (with_reducible repeat (first | refine bqN ?_ _ | refine bqD ?_ | refine bqA ?_ _)); exact BK394.out⟩, ⟨by (with_reducible repeat (first | refine bqN ?_ _ | refine bqD ?_ | refine bqA ?_ _)); exact BK404.out⟩, ⟨by repeat (first | (with_reducible first | exact HB.out | apply lqA | apply lqN | apply lqD | refine lqS ?_ GE393.out | refine lqS ?_ GE394.out | refine lqS ?_ GE404.out) | exact HB.out)⟩⟩
         case rest =>
          clear HC25
          try clear c1
          try clear c2
          try clear p2
          try clear c3
          try clear p4
          try clear q4
          try clear hx4
          try clear c5
          try clear c6
          try clear p6
          try clear c7
          try clear c7b0
          try clear c7b1
          try clear c10
          try clear c13
          try clear c13b0
          try clear c13b1
          try clear c14
          try clear c21
          try clear c22
          try clear c22b0
          try clear c23
          try clear c23b0
          try clear c24
          try clear c24b0
          try clear c27
          try clear c28
          try clear c30
          try clear c30b0
          try clear c32
          try clear c32b0
          try clear c33
          try clear c33b0
          try clear c34
          try clear c34b0
          try clear p40
          try clear q40
          try clear hx40
          try clear hcz29_0
          try clear hfz29_0
          try clear hx403_0
          try clear hx405_0
          try clear p2
          try clear p403
          try clear p405
          try clear q403
          try clear q405
          obtain ⟨kq, x56_24, rfl, HA, HJ24, HO_9, HO_33, BK393, BK394, BK404, HB⟩ := hcut
          cases kq with
          | zero => exact absurd HA.out (by simp [spilelaw39_SealOnce.j1])
          | succ kj24 =>
           have H := HA.out
           clear HA
           simp only [spilelaw39_SealOnce.j1] at H
           by_cases c43 : x56_24 = true
           ·subst c43
            have H1 : (none) = some r := by rw [if_pos rfl] at H; exact H
            clear H
            have H := H1
            clear H1
            exact absurd H (by simp)
           ·replace c43 := Bool.eq_false_iff.mpr c43
            subst c43
            have H1 : (spilelaw39_SealOnce.l0 kj24 l0 a2 t399 a1 a3 t399 (t399.length : Int) (wrap64 (x35_1 + 1)) a1 a3) = some r := by rw [if_neg (show ¬ (false = true) by decide)] at H; exact H
            clear H
            have H := H1
            clear H1
            have H' := Aside0.mk H
            clear H
            go_wp2
            go_roundg kj24
            case measure => have := HK1.out; have := HJ24.out; omega
            case rel => exact ⟨(wrap64 (x35_1 + 1)), (by first | rfl | (simp; done) | (simp [*]; done)), H', ⟨by have := HK1.out; have := HJ24.out; omega⟩, ⟨by (with_reducible repeat (first | apply Kd.R_alloc | apply Kd.R_drewN | apply Kd.R_drew)); exact HO_9.out⟩, ⟨by (with_reducible repeat (first | apply Kd.R_alloc | apply Kd.R_drewN | apply Kd.R_drew)); exact HO_33.out⟩, ⟨by (with_reducible repeat (first | refine bqN ?_ _ | refine bqD ?_ | refine bqA ?_ _)); exact BK393.out⟩, ⟨by (with_reducible repeat (first | refine bqN ?_ _ | refine bqD ?_ | refine bqA ?_ _)); exact BK394.out⟩, ⟨by repeat (first | (with_reducible first | exact HB.out | apply lqA | apply lqN | apply lqD | refine lqS ?_ GE393.out | refine lqS ?_ GE394.out | refine lqS ?_ GE404.out) | exact HB.out)⟩⟩
        ·rw [if_neg c24] at H
         exact absurd H (by simp)
       ·rw [if_neg c23] at H
        exact absurd H (by simp)
      ·rw [if_neg c22] at H
       have c22b0 : decide (x35_1 < (t399.length : Int)) = false := decide_eq_false c22
       clear c22
       replace H := Option.bind_eq_some_iff.mp H
       obtain ⟨t408, A440, H⟩ := H
       replace H : ((seal_Intact.f t408 a2 a3).bind fun bt411 => (if bt411.2 = 0 then (if a2 = a1 then (some true) else ((contB.f t399 bt411.1).bind fun t416 => (some (!t416)))) else (some true))) = some r := H
       have A44 := Aside0.mk A440
       clear A440
       replace H := Option.bind_eq_some_iff.mp H
       obtain ⟨⟨t411, t412⟩, A450, H⟩ := H
       replace H : (if t412 = 0 then (if a2 = a1 then (some true) else ((contB.f t399 t411).bind fun t416 => (some (!t416)))) else (some true)) = some r := H
       have A45 := Aside0.mk A450
       clear A450
       by_cases c46 : t412 = 0
       ·rw [if_pos c46] at H
        have c46b0 : (t412 == 0) = true := beq_iff_eq.mpr c46
        try simp only [beq_self_eq_true, Bool.not_true, Bool.false_or, Bool.true_and] at c46b0
        have c46b1 : (t412 != 0) = false := bne_eq_false_iff_eq.mpr c46
        clear c46
        by_cases c47 : a2 = a1
        ·rw [if_pos c47] at H
         have c47b0 : (a2 == a1) = true := beq_iff_eq.mpr c47
         try simp only [beq_self_eq_true, Bool.not_true, Bool.false_or, Bool.true_and] at c47b0
         have c47b1 : (a2 != a1) = false := bne_eq_false_iff_eq.mpr c47
         clear c47
         obtain rfl := Option.some.inj H
         try go_wp2
         have n0_ := Aside0.mk (Kd.R_drew HO_9.out)
         have n1_ := Aside0.mk (Kd.R_drew HO_33.out)
         have n2_ := Aside0.mk (bqD BK393.out)
         have n3_ := Aside0.mk (bqD BK394.out)
         have n4_ := Aside0.mk (lqD HB.out)
         clear HO_9
         clear HO_33
         clear BK393
         clear BK394
         clear HB
         have HO_9 := n0_
         have HO_33 := n1_
         have BK393 := n2_
         have BK394 := n3_
         have HB := n4_
         clear n0_ n1_ n2_ n3_ n4_
         refine start_ (n := 11) (S := fun w' => True) (ds := []) #[false, false, false, false, false, false, false, false, false, false, false] (by kernel_rfl) rfl rfl trivial (fun hHeld => ?_); refine with_tabW spilelaw39_SealOnce.tab14 spilelaw39_SealOnce.bits14 (fun HT_ HW_ => ?_)
         generalize wr.drew = w48 at HO_9 HO_33 BK393 BK394 HB hHeld ⊢
         refine pure_ (i := 0) (N := some 59) (v := ?_) (a' := ?_) #[true, false, false, false, false, false, false, false, false, false, false] rfl rfl (any_of HT_.out (by kernel_rfl)) (fun _ _ _ h => h) (Or.inl ⟨by rfl, ?_⟩) ?_ ?_
         rotate_left
         ·intro w'
          go_simp
          with_reducible rfl
         rotate_left
         ·simp only [Act.put, List.setIfInBounds_toArray, List.set_cons_zero, List.set_cons_succ, i64_w, i32_w]
          rfl
         refine pure_ (i := 2) (N := some 61) (v := ?_) (a' := ?_) #[true, false, true, false, false, false, false, false, false, false, false] rfl rfl (any_of HT_.out (by kernel_rfl)) (fun _ _ _ h => h) (Or.inl ⟨by rfl, ?_⟩) ?_ ?_
         rotate_left
         ·intro w'
          go_simp
          with_reducible rfl
         rotate_left
         ·simp only [Act.put, List.setIfInBounds_toArray, List.set_cons_zero, List.set_cons_succ, i64_w, i32_w]
          rfl
         refine inv_at [1, 3, 4, 5, 6, 7, 8, 9, 10] (fun a0_ b a w' => ∃ (v409 : Value) (v413 : Value) (gb415 : Nat) (m4_ : Value) (m5_ : Value) (m6_ : Value) (m8_ : Value), a = putSel a0_ b [(1, 60, v409), (3, 62, .int .i64 a3), (4, 63, m4_), (5, 58, m5_), (6, 64, m6_), (7, 65, .int .i64 t412), (8, 13, m8_), (10, 14, .int .i64 t412)] ∧ (Kd.R (Kd.int .i64) 3 w' w.heap.size (fun _ => True) (.slice Ao21 t399.length co21) t399) ∧ (Kd.R (Kd.int .i64) 3 w' w.heap.size (fun _ => True) (.slice Ao21 t399.length co21) t399) ∧ (w'.heap[gb393]? = some (.cells #[.int .i64 a1] 3 (0, 0))) ∧ (w'.heap[gb394]? = some (.cells #[.int .i64 a3] 3 (0, 0))) ∧ (Below w.heap.size w w') ∧ (b 1 = true → Kd.R k34 34 w' w.heap.size (fun _ => True) v409 t408) ∧ (b 8 = true → w'.heap[gb415]? = some (.cells #[if b 9 = true then v413 else .slice none 0 0] 28 (0, 0))) ∧ (b 8 = true → w.heap.size ≤ gb415) ∧ (b 8 = true → w.heap.size ≤ gb415) ∧ (b 8 = true → gb393 ≠ gb415) ∧ (b 8 = true → gb415 ≠ gb393) ∧ (b 8 = true → gb394 ≠ gb415) ∧ (b 8 = true → gb415 ≠ gb394) ∧ (b 4 = true → Kd.R (Kd.int .i64) 3 w' w.heap.size (fun _ => True) v413 t411) ∧ (b 4 = true → (m4_ : Value) = .tuple #[v413, .int .i64 t412]) ∧ (b 5 = true → (m5_ : Value) = .tuple #[v413, .int .i64 t412]) ∧ (b 6 = true → (m6_ : Value) = v413) ∧ (b 8 = true → (m8_ : Value) = .pointer (some ⟨gb415, 0, none⟩))) HT_.out HW_.out (by kernel_rfl) (by kernel_rfl) ?_ ?_ ?_
         ·exact ⟨.bool false, .bool false, 0, .bool false, .bool false, .bool false, .bool false, by simp only [putSel, Bool.false_eq_true, if_false], Kd.R_mono HO_33.out (fun _ _ => trivial), Kd.R_mono HO_9.out (fun _ _ => trivial), BK393.out, BK394.out, HB.out, fun h_ => absurd h_ (by decide), fun h_ => absurd h_ (by decide), fun h_ => absurd h_ (by decide), fun h_ => absurd h_ (by decide), fun h_ => absurd h_ (by decide), fun h_ => absurd h_ (by decide), fun h_ => absurd h_ (by decide), fun h_ => absurd h_ (by decide), fun h_ => absurd h_ (by decide), fun h_ => absurd h_ (by decide), fun h_ => absurd h_ (by decide), fun h_ => absurd h_ (by decide), fun h_ => absurd h_ (by decide)⟩
         ·skip
          clear BK393 BK394 HB HO_33 HO_9
          refine steps_cons ?_ ?_
          ·rintro b a w' ⟨v409, v413, gb415, m4_, m5_, m6_, m8_, ha, Q_HO_33, Q_HO_9, Q_BK393, Q_BK394, Q_HB, Q_HO410, Q_BK415, Q_GW415, Q_GE415, Q_NB393_415, Q_NB415_393, Q_NB394_415, Q_NB415_394, Q_HO414, Q_X4_, Q_X5_, Q_X6_, Q_X8_⟩ hb_ hon hoff
           refine ⟨_, rfl, fun K hK => ?_⟩
           have e59 : a.tmps[59]? = some (.slice A0 l0.length c0) := by rw [ha]; exact (putSel_off rfl).trans rfl
           replace ha := Aside0.mk ha
           have HO_33 := Aside0.mk Q_HO_33
           have HO_9 := Aside0.mk Q_HO_9
           have BK393 := Aside0.mk Q_BK393
           have BK394 := Aside0.mk Q_BK394
           have HB := Aside0.mk Q_HB
           refine goes_ Try.func14 (by kernel_rfl) rfl #[.slice A0 l0.length c0] (by rfl) rfl rfl (by first | (simp only [List.map_toArray, List.map_cons, List.map_nil, Act.eval, Array.getD_eq_getD_getElem?, Option.getD_some, e59]; done) | (simp only [List.map_toArray, List.map_cons, List.map_nil, Act.eval, Array.getD_eq_getD_getElem?, Option.getD_some, e59]; rfl)) ?_
           with_reducible refine (clone34.calls _ _ l0 t408 _ ?side1 ?side2 A44.out).mono ?_
           (case side1 => repeat (first | exact (Kd.C_below HR0.out HB.out) | (with_reducible refine Kd.C_alloc ?_ _) | (with_reducible refine Kd.C_drewN ?_ _) | (with_reducible refine Kd.C_drew ?_)))
           (case side2 => exact HC0.out)
           rintro e w49 ⟨v409, rfl, ho0, hb⟩
           refine ⟨_, rfl, ?_⟩
           have n0_ := Aside0.mk (Kd.R_below (by (with_reducible repeat (first | apply Kd.R_alloc | apply Kd.R_drewN | apply Kd.R_drew)); exact HO_9.out) hb)
           have n1_ := Aside0.mk (Kd.R_below (by (with_reducible repeat (first | apply Kd.R_alloc | apply Kd.R_drewN | apply Kd.R_drew)); exact HO_33.out) hb)
           have n2_ := Aside0.mk (Kd.R_lower ho0 (lqZ (by repeat (first | (with_reducible first | exact HB.out | apply lqA | apply lqN | apply lqD | refine lqS ?_ GE393.out | refine lqS ?_ GE394.out) | exact HB.out))))
           have n3_ := Aside0.mk (bqB (g := gb393) (o := .cells #[.int .i64 a1] 3 (0, 0)) (by (with_reducible repeat (first | refine bqN ?_ _ | refine bqD ?_ | refine bqA ?_ _)); exact BK393.out) hb)
           have n4_ := Aside0.mk (bqB (g := gb394) (o := .cells #[.int .i64 a3] 3 (0, 0)) (by (with_reducible repeat (first | refine bqN ?_ _ | refine bqD ?_ | refine bqA ?_ _)); exact BK394.out) hb)
           have n5_ := Aside0.mk (lqT (by repeat (first | (with_reducible first | exact HB.out | apply lqA | apply lqN | apply lqD | refine lqS ?_ GE393.out | refine lqS ?_ GE394.out) | exact HB.out)) hb)
           have z_BK415 := fun (h0_ : b 8 = true) => (show w49.heap[gb415]? = some (.cells #[if b 9 = true then v413 else .slice none 0 0] 28 (0, 0)) from by have h_ := Q_BK415 h0_; rw [if_neg (by rw [hoff 9 (by kernel_rfl)]; decide)] at h_ ⊢; first | exact (bqB (g := gb415) (o := .cells #[.slice none 0 0] 28 (0, 0)) (by (with_reducible repeat (first | refine bqN ?_ _ | refine bqD ?_ | refine bqA ?_ _)); exact h_) hb))
           clear HO_9
           clear HO_33
           clear BK393
           clear BK394
           clear HB
           have HO_9 := n0_
           have HO_33 := n1_
           have HO410 := n2_
           have BK393 := n3_
           have BK394 := n4_
           have HB := n5_
           clear n0_ n1_ n2_ n3_ n4_ n5_
           (try clear hb)
           (try clear hb2)
           (try clear hk)
           (try clear hi)
           (try clear ho0)
           refine hK.out _ _ ⟨v409, v413, gb415, m4_, m5_, m6_, m8_, (by rw [ha.out]; exact putSel_upk 0 hb_ rfl rfl rfl), (by (with_reducible repeat (first | apply Kd.R_alloc | apply Kd.R_drewN | apply Kd.R_drew)); exact Kd.R_mono HO_33.out (fun _ _ => trivial)), (by (with_reducible repeat (first | apply Kd.R_alloc | apply Kd.R_drewN | apply Kd.R_drew)); exact Kd.R_mono HO_9.out (fun _ _ => trivial)), (by (with_reducible repeat (first | refine bqN ?_ _ | refine bqD ?_ | refine bqA ?_ _)); exact BK393.out), (by (with_reducible repeat (first | refine bqN ?_ _ | refine bqD ?_ | refine bqA ?_ _)); exact BK394.out), (by repeat (first | (with_reducible first | exact HB.out | apply lqA | apply lqN | apply lqD | refine lqS ?_ GE393.out | refine lqS ?_ GE394.out) | exact HB.out)), fun _ => (by (with_reducible repeat (first | apply Kd.R_alloc | apply Kd.R_drewN | apply Kd.R_drew)); exact Kd.R_mono HO410.out (fun _ _ => trivial)), z_BK415, Q_GW415, Q_GE415, Q_NB393_415, Q_NB415_393, Q_NB394_415, Q_NB415_394, fun h0_ => absurd ((hoff 4 (by kernel_rfl)).symm.trans h0_) (by decide), fun h0_ => absurd ((hoff 4 (by kernel_rfl)).symm.trans h0_) (by decide), fun h0_ => absurd ((hoff 5 (by kernel_rfl)).symm.trans h0_) (by decide), fun h0_ => absurd ((hoff 6 (by kernel_rfl)).symm.trans h0_) (by decide), Q_X8_⟩
          refine steps_cons ?_ ?_
          ·rintro b a w' ⟨v409, v413, gb415, m4_, m5_, m6_, m8_, ha, Q_HO_33, Q_HO_9, Q_BK393, Q_BK394, Q_HB, Q_HO410, Q_BK415, Q_GW415, Q_GE415, Q_NB393_415, Q_NB415_393, Q_NB394_415, Q_NB415_394, Q_HO414, Q_X4_, Q_X5_, Q_X6_, Q_X8_⟩ hb_ hon hoff
           refine ⟨_, rfl, fun K hK => ?_⟩
           have e7 : a.tmps[7]? = some (.pointer (some ⟨gb394, 0, none⟩)) := by rw [ha]; exact (putSel_off rfl).trans rfl
           replace ha := Aside0.mk ha
           have HO_33 := Aside0.mk Q_HO_33
           have HO_9 := Aside0.mk Q_HO_9
           have BK393 := Aside0.mk Q_BK393
           have BK394 := Aside0.mk Q_BK394
           have HB := Aside0.mk Q_HB
           have hc0_ : w'.cell? ⟨gb394, 0, none⟩ = some (.int .i64 a3) := (bqC BK394.out 0).trans rfl
           refine value_ (w1 := w') (v := .int .i64 a3) (by rfl) rfl ?_ ?_
           ·go_simp
            (try simp only [i64_w])
            try rfl
           refine hK.out _ _ ⟨v409, v413, gb415, m4_, m5_, m6_, m8_, (by rw [ha.out]; exact putSel_upk 1 hb_ rfl rfl rfl), Q_HO_33, Q_HO_9, Q_BK393, Q_BK394, Q_HB, Q_HO410, Q_BK415, Q_GW415, Q_GE415, Q_NB393_415, Q_NB415_393, Q_NB394_415, Q_NB415_394, fun h0_ => absurd ((hoff 4 (by kernel_rfl)).symm.trans h0_) (by decide), fun h0_ => absurd ((hoff 4 (by kernel_rfl)).symm.trans h0_) (by decide), fun h0_ => absurd ((hoff 5 (by kernel_rfl)).symm.trans h0_) (by decide), fun h0_ => absurd ((hoff 6 (by kernel_rfl)).symm.trans h0_) (by decide), Q_X8_⟩
          refine steps_cons ?_ ?_
          ·rintro b a w' ⟨v409, v413, gb415, m4_, m5_, m6_, m8_, ha, Q_HO_33, Q_HO_9, Q_BK393, Q_BK394, Q_HB, Q_HO410, Q_BK415, Q_GW415, Q_GE415, Q_NB393_415, Q_NB415_393, Q_NB394_415, Q_NB415_394, Q_HO414, Q_X4_, Q_X5_, Q_X6_, Q_X8_⟩ hb_ hon hoff
           refine ⟨_, rfl, fun K hK => ?_⟩
           have e60 : a.tmps[60]? = some (v409) := by rw [ha]; exact putSel_on (e := (1, 60, v409)) 0 rfl rfl (hon 1 (by kernel_rfl)) rfl
           have e61 : a.tmps[61]? = some (.int .i64 a2) := by rw [ha]; exact (putSel_off rfl).trans rfl
           have e62 : a.tmps[62]? = some (.int .i64 a3) := by rw [ha]; exact putSel_on (e := (3, 62, .int .i64 a3)) 1 rfl rfl (hon 3 (by kernel_rfl)) rfl
           replace ha := Aside0.mk ha
           have HO_33 := Aside0.mk Q_HO_33
           have HO_9 := Aside0.mk Q_HO_9
           have BK393 := Aside0.mk Q_BK393
           have BK394 := Aside0.mk Q_BK394
           have HB := Aside0.mk Q_HB
           have HO410 := Aside0.mk (Q_HO410 (hon 1 (by kernel_rfl)))
           obtain ⟨Ao51, co51, eo51⟩ := Kd.R_slice HO410.out
           (first | subst eo51 | (injection eo51 with f1_ f2_ f3_; have f4_ := f1_.symm; have f5_ := f3_.symm; clear f1_ f2_ f3_; subst f4_; subst f5_))
           refine goes_ Try.func13 (by kernel_rfl) rfl #[.slice Ao51 t408.length co51, .int .i64 a2, .int .i64 a3] (by rfl) rfl rfl (by first | (simp only [List.map_toArray, List.map_cons, List.map_nil, Act.eval, Array.getD_eq_getD_getElem?, Option.getD_some, e60, e61, e62]; done) | (simp only [List.map_toArray, List.map_cons, List.map_nil, Act.eval, Array.getD_eq_getD_getElem?, Option.getD_some, e60, e61, e62]; rfl)) ?_
           with_reducible refine (seal_Intact.calls _ _ t408 a2 a3 t411 t412 _ ?side1 ?side2 A45.out).mono ?_
           (case side1 => repeat (first | exact (Kd.R_reads' HO410.out).2.2 | (with_reducible refine Kd.C_alloc ?_ _) | (with_reducible refine Kd.C_drewN ?_ _) | (with_reducible refine Kd.C_drew ?_)))
           (case side2 => exact (Kd.R_reads' HO410.out).2.1)
           rintro e w52 ⟨v413, rfl, ho0, hb⟩
           refine ⟨_, rfl, ?_⟩
           have n0_ := Aside0.mk (Kd.R_elder' (by (with_reducible repeat (first | apply Kd.R_alloc | apply Kd.R_drewN | apply Kd.R_drew)); exact HO_9.out) (Kd.R_base ho0) hb)
           have n1_ := Aside0.mk (Kd.R_elder' (by (with_reducible repeat (first | apply Kd.R_alloc | apply Kd.R_drewN | apply Kd.R_drew)); exact HO_33.out) (Kd.R_base ho0) hb)
           have n2_ := Aside0.mk (Kd.R_below (by (with_reducible repeat (first | apply Kd.R_alloc | apply Kd.R_drewN | apply Kd.R_drew)); exact HO410.out) hb)
           have n3_ := Aside0.mk (Kd.R_lower (Kd.R_new' (Kd.R_new' ho0 (Kd.R_lt (by (with_reducible repeat (first | apply Kd.R_alloc | apply Kd.R_drewN | apply Kd.R_drew)); exact HO_9.out))) (Kd.R_lt (by (with_reducible repeat (first | apply Kd.R_alloc | apply Kd.R_drewN | apply Kd.R_drew)); exact HO_33.out))) (lqZ (by repeat (first | (with_reducible first | exact HB.out | apply lqA | apply lqN | apply lqD | refine lqS ?_ GE393.out | refine lqS ?_ GE394.out) | exact HB.out))))
           have n4_ := Aside0.mk (bqB (g := gb393) (o := .cells #[.int .i64 a1] 3 (0, 0)) (by (with_reducible repeat (first | refine bqN ?_ _ | refine bqD ?_ | refine bqA ?_ _)); exact BK393.out) hb)
           have n5_ := Aside0.mk (bqB (g := gb394) (o := .cells #[.int .i64 a3] 3 (0, 0)) (by (with_reducible repeat (first | refine bqN ?_ _ | refine bqD ?_ | refine bqA ?_ _)); exact BK394.out) hb)
           have n6_ := Aside0.mk (lqT (by repeat (first | (with_reducible first | exact HB.out | apply lqA | apply lqN | apply lqD | refine lqS ?_ GE393.out | refine lqS ?_ GE394.out) | exact HB.out)) hb)
           have z_BK415 := fun (h0_ : b 8 = true) => (show w52.heap[gb415]? = some (.cells #[if b 9 = true then v413 else .slice none 0 0] 28 (0, 0)) from by have h_ := Q_BK415 h0_; rw [if_neg (by rw [hoff 9 (by kernel_rfl)]; decide)] at h_ ⊢; first | exact (bqB (g := gb415) (o := .cells #[.slice none 0 0] 28 (0, 0)) (by (with_reducible repeat (first | refine bqN ?_ _ | refine bqD ?_ | refine bqA ?_ _)); exact h_) hb))
           clear HO_9
           clear HO_33
           clear HO410
           clear BK393
           clear BK394
           clear HB
           have HO_9 := n0_
           have HO_33 := n1_
           have HO410 := n2_
           have HO414 := n3_
           have BK393 := n4_
           have BK394 := n5_
           have HB := n6_
           clear n0_ n1_ n2_ n3_ n4_ n5_ n6_
           (try clear hb)
           (try clear hb2)
           (try clear hk)
           (try clear hi)
           (try clear ho0)
           refine hK.out _ _ ⟨.slice Ao51 t408.length co51, v413, gb415, (.tuple #[v413, .int .i64 t412]), m5_, m6_, m8_, (by rw [ha.out]; exact putSel_upk 2 hb_ rfl rfl rfl), (by (with_reducible repeat (first | apply Kd.R_alloc | apply Kd.R_drewN | apply Kd.R_drew)); exact Kd.R_mono HO_33.out (fun _ _ => trivial)), (by (with_reducible repeat (first | apply Kd.R_alloc | apply Kd.R_drewN | apply Kd.R_drew)); exact Kd.R_mono HO_9.out (fun _ _ => trivial)), (by (with_reducible repeat (first | refine bqN ?_ _ | refine bqD ?_ | refine bqA ?_ _)); exact BK393.out), (by (with_reducible repeat (first | refine bqN ?_ _ | refine bqD ?_ | refine bqA ?_ _)); exact BK394.out), (by repeat (first | (with_reducible first | exact HB.out | apply lqA | apply lqN | apply lqD | refine lqS ?_ GE393.out | refine lqS ?_ GE394.out) | exact HB.out)), fun _ => (by (with_reducible repeat (first | apply Kd.R_alloc | apply Kd.R_drewN | apply Kd.R_drew)); exact Kd.R_mono HO410.out (fun _ _ => trivial)), z_BK415, Q_GW415, Q_GE415, Q_NB393_415, Q_NB415_393, Q_NB394_415, Q_NB415_394, fun _ => (by (with_reducible repeat (first | apply Kd.R_alloc | apply Kd.R_drewN | apply Kd.R_drew)); exact Kd.R_mono HO414.out (fun _ _ => trivial)), fun _ => rfl, fun h0_ => absurd ((hoff 5 (by kernel_rfl)).symm.trans h0_) (by decide), fun h0_ => absurd ((hoff 6 (by kernel_rfl)).symm.trans h0_) (by decide), Q_X8_⟩
          refine steps_cons ?_ ?_
          ·rintro b a w' ⟨v409, v413, gb415, m4_, m5_, m6_, m8_, ha, Q_HO_33, Q_HO_9, Q_BK393, Q_BK394, Q_HB, Q_HO410, Q_BK415, Q_GW415, Q_GE415, Q_NB393_415, Q_NB415_393, Q_NB394_415, Q_NB415_394, Q_HO414, Q_X4_, Q_X5_, Q_X6_, Q_X8_⟩ hb_ hon hoff
           refine ⟨_, rfl, fun K hK => ?_⟩
           have e63 : a.tmps[63]? = some (m4_) := by rw [ha]; exact putSel_on (e := (4, 63, m4_)) 2 rfl rfl (hon 4 (by kernel_rfl)) rfl
           rw [Q_X4_ (hon 4 (by kernel_rfl))] at e63
           replace ha := Aside0.mk ha
           have HO_33 := Aside0.mk Q_HO_33
           have HO_9 := Aside0.mk Q_HO_9
           have BK393 := Aside0.mk Q_BK393
           have BK394 := Aside0.mk Q_BK394
           have HB := Aside0.mk Q_HB
           have HO410 := Aside0.mk (Q_HO410 (hon 1 (by kernel_rfl)))
           have HO414 := Aside0.mk (Q_HO414 (hon 4 (by kernel_rfl)))
           refine value_ (w1 := w') (v := .tuple #[v413, .int .i64 t412]) (by rfl) rfl ?_ ?_
           ·go_simp
            (try simp only [i64_w])
            try rfl
           refine hK.out _ _ ⟨v409, v413, gb415, m4_, (.tuple #[v413, .int .i64 t412]), m6_, m8_, (by rw [ha.out]; exact putSel_upk 3 hb_ rfl rfl rfl), Q_HO_33, Q_HO_9, Q_BK393, Q_BK394, Q_HB, Q_HO410, Q_BK415, Q_GW415, Q_GE415, Q_NB393_415, Q_NB415_393, Q_NB394_415, Q_NB415_394, Q_HO414, Q_X4_, fun _ => rfl, fun h0_ => absurd ((hoff 6 (by kernel_rfl)).symm.trans h0_) (by decide), Q_X8_⟩
          refine steps_cons ?_ ?_
          ·rintro b a w' ⟨v409, v413, gb415, m4_, m5_, m6_, m8_, ha, Q_HO_33, Q_HO_9, Q_BK393, Q_BK394, Q_HB, Q_HO410, Q_BK415, Q_GW415, Q_GE415, Q_NB393_415, Q_NB415_393, Q_NB394_415, Q_NB415_394, Q_HO414, Q_X4_, Q_X5_, Q_X6_, Q_X8_⟩ hb_ hon hoff
           refine ⟨_, rfl, fun K hK => ?_⟩
           have e58 : a.tmps[58]? = some (m5_) := by rw [ha]; exact putSel_on (e := (5, 58, m5_)) 3 rfl rfl (hon 5 (by kernel_rfl)) rfl
           rw [Q_X5_ (hon 5 (by kernel_rfl))] at e58
           replace ha := Aside0.mk ha
           have HO_33 := Aside0.mk Q_HO_33
           have HO_9 := Aside0.mk Q_HO_9
           have BK393 := Aside0.mk Q_BK393
           have BK394 := Aside0.mk Q_BK394
           have HB := Aside0.mk Q_HB
           have HO410 := Aside0.mk (Q_HO410 (hon 1 (by kernel_rfl)))
           have HO414 := Aside0.mk (Q_HO414 (hon 4 (by kernel_rfl)))
           obtain ⟨Ao6_0, co6_0, eo_⟩ := Kd.R_slice HO414.out
           subst eo_
           refine value_ (w1 := w') (v := .slice Ao6_0 t411.length co6_0) (by rfl) rfl ?_ ?_
           ·go_simp
            (try simp only [i64_w])
            try rfl
           refine hK.out _ _ ⟨v409, .slice Ao6_0 t411.length co6_0, gb415, m4_, m5_, (.slice Ao6_0 t411.length co6_0), m8_, (by rw [ha.out]; exact putSel_upk 4 hb_ rfl rfl rfl), Q_HO_33, Q_HO_9, Q_BK393, Q_BK394, Q_HB, Q_HO410, Q_BK415, Q_GW415, Q_GE415, Q_NB393_415, Q_NB415_393, Q_NB394_415, Q_NB415_394, Q_HO414, Q_X4_, Q_X5_, fun _ => rfl, Q_X8_⟩
          refine steps_cons ?_ ?_
          ·rintro b a w' ⟨v409, v413, gb415, m4_, m5_, m6_, m8_, ha, Q_HO_33, Q_HO_9, Q_BK393, Q_BK394, Q_HB, Q_HO410, Q_BK415, Q_GW415, Q_GE415, Q_NB393_415, Q_NB415_393, Q_NB394_415, Q_NB415_394, Q_HO414, Q_X4_, Q_X5_, Q_X6_, Q_X8_⟩ hb_ hon hoff
           refine ⟨_, rfl, fun K hK => ?_⟩
           have e58 : a.tmps[58]? = some (m5_) := by rw [ha]; exact putSel_on (e := (5, 58, m5_)) 3 rfl rfl (hon 5 (by kernel_rfl)) rfl
           rw [Q_X5_ (hon 5 (by kernel_rfl))] at e58
           replace ha := Aside0.mk ha
           have HO_33 := Aside0.mk Q_HO_33
           have HO_9 := Aside0.mk Q_HO_9
           have BK393 := Aside0.mk Q_BK393
           have BK394 := Aside0.mk Q_BK394
           have HB := Aside0.mk Q_HB
           have HO410 := Aside0.mk (Q_HO410 (hon 1 (by kernel_rfl)))
           have HO414 := Aside0.mk (Q_HO414 (hon 4 (by kernel_rfl)))
           obtain ⟨Ao7_0, co7_0, eo_⟩ := Kd.R_slice HO414.out
           subst eo_
           refine value_ (w1 := w') (v := .int .i64 t412) (by rfl) rfl ?_ ?_
           ·go_simp
            (try simp only [i64_w])
            try rfl
           refine hK.out _ _ ⟨v409, .slice Ao7_0 t411.length co7_0, gb415, m4_, m5_, m6_, m8_, (by rw [ha.out]; exact putSel_upk 5 hb_ rfl rfl rfl), Q_HO_33, Q_HO_9, Q_BK393, Q_BK394, Q_HB, Q_HO410, Q_BK415, Q_GW415, Q_GE415, Q_NB393_415, Q_NB415_393, Q_NB394_415, Q_NB415_394, Q_HO414, Q_X4_, Q_X5_, Q_X6_, Q_X8_⟩
          refine steps_cons ?_ ?_
          ·rintro b a w' ⟨v409, v413, gb415, m4_, m5_, m6_, m8_, ha, Q_HO_33, Q_HO_9, Q_BK393, Q_BK394, Q_HB, Q_HO410, Q_BK415, Q_GW415, Q_GE415, Q_NB393_415, Q_NB415_393, Q_NB394_415, Q_NB415_394, Q_HO414, Q_X4_, Q_X5_, Q_X6_, Q_X8_⟩ hb_ hon hoff
           refine ⟨_, rfl, fun K hK => ?_⟩
           replace ha := Aside0.mk ha
           have HO_33 := Aside0.mk Q_HO_33
           have HO_9 := Aside0.mk Q_HO_9
           have BK393 := Aside0.mk Q_BK393
           have BK394 := Aside0.mk Q_BK394
           have HB := Aside0.mk Q_HB
           refine box_step ?hg (N := 13) ?hd (cs := #[.slice none 0 0]) (t := 28) ?hr ?_; (case hd => rfl); (case hg => rfl); (case hr => first | (go_simp; done) | (go_simp; rfl))
           intro gb415 hg w49 hbox hb
           have n0_ := Aside0.mk (Kd.R_below (by (with_reducible repeat (first | apply Kd.R_alloc | apply Kd.R_drewN | apply Kd.R_drew)); exact HO_9.out) hb)
           have n1_ := Aside0.mk (Kd.R_below (by (with_reducible repeat (first | apply Kd.R_alloc | apply Kd.R_drewN | apply Kd.R_drew)); exact HO_33.out) hb)
           have n2_ := Aside0.mk (bqB (g := gb393) (o := .cells #[.int .i64 a1] 3 (0, 0)) (by (with_reducible repeat (first | refine bqN ?_ _ | refine bqD ?_ | refine bqA ?_ _)); exact BK393.out) hb)
           have n3_ := Aside0.mk (bqB (g := gb394) (o := .cells #[.int .i64 a3] 3 (0, 0)) (by (with_reducible repeat (first | refine bqN ?_ _ | refine bqD ?_ | refine bqA ?_ _)); exact BK394.out) hb)
           have n4_ := Aside0.mk (lqT (by repeat (first | (with_reducible first | exact HB.out | apply lqA | apply lqN | apply lqD | refine lqS ?_ GE393.out | refine lqS ?_ GE394.out) | exact HB.out)) hb)
           have n5_ := Aside0.mk (hbox)
           have n6_ := Aside0.mk ((by rw [hg]; exact (lqZ (by repeat (first | (with_reducible first | exact HB.out | apply lqA | apply lqN | apply lqD | refine lqS ?_ GE393.out | refine lqS ?_ GE394.out) | exact HB.out))) : w.heap.size ≤ gb415))
           have n7_ := Aside0.mk ((by rw [hg]; exact (lqZ (by repeat (first | (with_reducible first | exact HB.out | apply lqA | apply lqN | apply lqD | refine lqS ?_ GE393.out | refine lqS ?_ GE394.out) | exact HB.out))) : w.heap.size ≤ gb415))
           have n8_ := Aside0.mk ((by rw [hg]; exact Nat.ne_of_lt (blk_lt (g := gb393) (o := .cells #[.int .i64 a1] 3 (0, 0)) (by (with_reducible repeat (first | refine bqN ?_ _ | refine bqD ?_ | refine bqA ?_ _)); exact BK393.out)) : gb393 ≠ gb415))
           have n9_ := Aside0.mk ((by rw [hg]; exact Nat.ne_of_gt (blk_lt (g := gb393) (o := .cells #[.int .i64 a1] 3 (0, 0)) (by (with_reducible repeat (first | refine bqN ?_ _ | refine bqD ?_ | refine bqA ?_ _)); exact BK393.out)) : gb415 ≠ gb393))
           have n10_ := Aside0.mk ((by rw [hg]; exact Nat.ne_of_lt (blk_lt (g := gb394) (o := .cells #[.int .i64 a3] 3 (0, 0)) (by (with_reducible repeat (first | refine bqN ?_ _ | refine bqD ?_ | refine bqA ?_ _)); exact BK394.out)) : gb394 ≠ gb415))
           have n11_ := Aside0.mk ((by rw [hg]; exact Nat.ne_of_gt (blk_lt (g := gb394) (o := .cells #[.int .i64 a3] 3 (0, 0)) (by (with_reducible repeat (first | refine bqN ?_ _ | refine bqD ?_ | refine bqA ?_ _)); exact BK394.out)) : gb415 ≠ gb394))
           have z_HO410 := fun (h0_ : b 1 = true) => (show Kd.R k34 34 w49 w.heap.size (fun _ => True) v409 t408 from by first | exact (Kd.R_below (by (with_reducible repeat (first | apply Kd.R_alloc | apply Kd.R_drewN | apply Kd.R_drew)); exact (Q_HO410 h0_)) hb) | exact Kd.R_mono (Kd.R_below (by (with_reducible repeat (first | apply Kd.R_alloc | apply Kd.R_drewN | apply Kd.R_drew)); exact (Q_HO410 h0_)) hb) (fun _ h_ => by first | trivial | exact h_ | exact h_.1 | exact ⟨h_.1, h_.2.1⟩ | exact ⟨h_.1, h_.2.1, h_.2.2.1⟩ | simp_all))
           have z_HO414 := fun (h0_ : b 4 = true) => (show Kd.R (Kd.int .i64) 3 w49 w.heap.size (fun _ => True) v413 t411 from by first | exact (Kd.R_below (by (with_reducible repeat (first | apply Kd.R_alloc | apply Kd.R_drewN | apply Kd.R_drew)); exact (Q_HO414 h0_)) hb) | exact Kd.R_mono (Kd.R_below (by (with_reducible repeat (first | apply Kd.R_alloc | apply Kd.R_drewN | apply Kd.R_drew)); exact (Q_HO414 h0_)) hb) (fun _ h_ => by first | trivial | exact h_ | exact h_.1 | exact ⟨h_.1, h_.2.1⟩ | exact ⟨h_.1, h_.2.1, h_.2.2.1⟩ | simp_all))
           clear HO_9
           clear HO_33
           clear BK393
           clear BK394
           clear HB
           have HO_9 := n0_
           have HO_33 := n1_
           have BK393 := n2_
           have BK394 := n3_
           have HB := n4_
           have BK415 := n5_
           have GW415 := n6_
           have GE415 := n7_
           have NB393_415 := n8_
           have NB415_393 := n9_
           have NB394_415 := n10_
           have NB415_394 := n11_
           clear n0_ n1_ n2_ n3_ n4_ n5_ n6_ n7_ n8_ n9_ n10_ n11_
           clear hb hbox hg
           refine hK.out _ _ ⟨v409, v413, gb415, m4_, m5_, m6_, (.pointer (some ⟨gb415, 0, none⟩)), (by rw [ha.out]; exact putSel_upk 6 hb_ rfl rfl rfl), (by (with_reducible repeat (first | apply Kd.R_alloc | apply Kd.R_drewN | apply Kd.R_drew)); exact Kd.R_mono HO_33.out (fun _ _ => trivial)), (by (with_reducible repeat (first | apply Kd.R_alloc | apply Kd.R_drewN | apply Kd.R_drew)); exact Kd.R_mono HO_9.out (fun _ _ => trivial)), (by (with_reducible repeat (first | refine bqN ?_ _ | refine bqD ?_ | refine bqA ?_ _)); exact BK393.out), (by (with_reducible repeat (first | refine bqN ?_ _ | refine bqD ?_ | refine bqA ?_ _)); exact BK394.out), (by repeat (first | (with_reducible first | exact HB.out | apply lqA | apply lqN | apply lqD | refine lqS ?_ GE393.out | refine lqS ?_ GE394.out | refine lqS ?_ GE415.out) | exact HB.out)), z_HO410, fun _ => (by have h11_ : b 9 = false := hoff 9 (by kernel_rfl); show (_ : Option Obj) = some (Obj.cells #[if b 9 = true then v413 else .slice none 0 0] 28 (0, 0)); rw [if_neg (by rw [h11_]; decide)]; (with_reducible repeat (first | refine bqN ?_ _ | refine bqD ?_ | refine bqA ?_ _)); exact BK415.out), fun _ => GW415.out, fun _ => GE415.out, fun _ => NB393_415.out, fun _ => NB415_393.out, fun _ => NB394_415.out, fun _ => NB415_394.out, z_HO414, Q_X4_, Q_X5_, Q_X6_, fun _ => rfl⟩
          refine steps_cons ?_ ?_
          ·rintro b a w' ⟨v409, v413, gb415, m4_, m5_, m6_, m8_, ha, Q_HO_33, Q_HO_9, Q_BK393, Q_BK394, Q_HB, Q_HO410, Q_BK415, Q_GW415, Q_GE415, Q_NB393_415, Q_NB415_393, Q_NB394_415, Q_NB415_394, Q_HO414, Q_X4_, Q_X5_, Q_X6_, Q_X8_⟩ hb_ hon hoff
           refine ⟨_, rfl, fun K hK => ?_⟩
           have e13 : a.tmps[13]? = some (m8_) := by rw [ha]; exact putSel_on (e := (8, 13, m8_)) 6 rfl rfl (hon 8 (by kernel_rfl)) rfl
           rw [Q_X8_ (hon 8 (by kernel_rfl))] at e13
           have e64 : a.tmps[64]? = some (m6_) := by rw [ha]; exact putSel_on (e := (6, 64, m6_)) 4 rfl rfl (hon 6 (by kernel_rfl)) rfl
           rw [Q_X6_ (hon 6 (by kernel_rfl))] at e64
           replace ha := Aside0.mk ha
           have HO_33 := Aside0.mk Q_HO_33
           have HO_9 := Aside0.mk Q_HO_9
           have BK393 := Aside0.mk Q_BK393
           have BK394 := Aside0.mk Q_BK394
           have HB := Aside0.mk Q_HB
           have HO410 := Aside0.mk (Q_HO410 (hon 1 (by kernel_rfl)))
           have BK415 := Aside0.mk (show w'.heap[gb415]? = some (.cells #[.slice none 0 0] 28 (0, 0)) from by have h_ := Q_BK415 (hon 8 (by kernel_rfl)); rw [if_neg (by rw [hb_]; decide)] at h_; exact h_)
           have GW415 := Aside0.mk (Q_GW415 (hon 8 (by kernel_rfl)))
           have GE415 := Aside0.mk (Q_GE415 (hon 8 (by kernel_rfl)))
           have NB393_415 := Aside0.mk (Q_NB393_415 (hon 8 (by kernel_rfl)))
           have NB415_393 := Aside0.mk (Q_NB415_393 (hon 8 (by kernel_rfl)))
           have NB394_415 := Aside0.mk (Q_NB394_415 (hon 8 (by kernel_rfl)))
           have NB415_394 := Aside0.mk (Q_NB415_394 (hon 8 (by kernel_rfl)))
           have HO414 := Aside0.mk (Q_HO414 (hon 4 (by kernel_rfl)))
           have hs54 : w'.cell? ⟨gb415, 0, none⟩ = some (.slice none 0 0) := (bqC BK415.out 0).trans rfl
           have hfs54 := bqF BK415.out 0
           have hns54_0 := NB393_415.out
           have hns54_1 := NB394_415.out
           have hms54_0 := NB415_393.out
           have hms54_1 := NB415_394.out
           obtain ⟨Aob_, cob_, eob_⟩ := Kd.R_slice HO414.out
           subst eob_
           refine skip_ (w1 := ?_) (by rfl) rfl ?_ ?_
           rotate_left
           ·go_simp
            rfl
           refine hK.out _ _ ⟨v409, .slice Aob_ t411.length cob_, gb415, m4_, m5_, m6_, m8_, (by rw [ha.out]; exact putSel_none (v := undef) rfl), (by (with_reducible repeat (first | apply Kd.R_alloc | apply Kd.R_drewN | apply Kd.R_drew)); exact Kd.R_mono (Kd.R_far (p := ⟨gb415, 0, none⟩) (Kd.R_types HO_33.out BK415.out (by decide)) (fun _ hk => hk.2) (.slice Aob_ t411.length cob_)) (fun _ _ => trivial)), (by (with_reducible repeat (first | apply Kd.R_alloc | apply Kd.R_drewN | apply Kd.R_drew)); exact Kd.R_mono (Kd.R_far (p := ⟨gb415, 0, none⟩) (Kd.R_types HO_9.out BK415.out (by decide)) (fun _ hk => hk.2) (.slice Aob_ t411.length cob_)) (fun _ _ => trivial)), (by (with_reducible repeat (first | refine bqN ?_ _ | refine bqD ?_ | refine bqA ?_ _)); refine blk_far ?_ NB393_415.out _; (with_reducible repeat (first | refine bqN ?_ _ | refine bqD ?_ | refine bqA ?_ _)); exact BK393.out), (by (with_reducible repeat (first | refine bqN ?_ _ | refine bqD ?_ | refine bqA ?_ _)); refine blk_far ?_ NB394_415.out _; (with_reducible repeat (first | refine bqN ?_ _ | refine bqD ?_ | refine bqA ?_ _)); exact BK394.out), (by repeat (first | (with_reducible first | exact HB.out | apply lqA | apply lqN | apply lqD | refine lqS ?_ GE393.out | refine lqS ?_ GE394.out | refine lqS ?_ GE415.out) | exact HB.out)), fun _ => (by (with_reducible repeat (first | apply Kd.R_alloc | apply Kd.R_drewN | apply Kd.R_drew)); exact Kd.R_mono (Kd.R_far (p := ⟨gb415, 0, none⟩) (Kd.R_types HO410.out BK415.out (by decide)) (fun _ hk => hk.2) (.slice Aob_ t411.length cob_)) (fun _ hk => trivial)), fun _ => (by (with_reducible repeat (first | refine bqN ?_ _ | refine bqD ?_ | refine bqA ?_ _)); refine bqP (cs := #[.slice none 0 0]) ?_ 0 _ rfl; (with_reducible repeat (first | refine bqN ?_ _ | refine bqD ?_ | refine bqA ?_ _)); exact BK415.out), fun _ => GW415.out, fun _ => GE415.out, fun _ => NB393_415.out, fun _ => NB415_393.out, fun _ => NB394_415.out, fun _ => NB415_394.out, fun _ => (by (with_reducible repeat (first | apply Kd.R_alloc | apply Kd.R_drewN | apply Kd.R_drew)); exact Kd.R_mono (Kd.R_far (p := ⟨gb415, 0, none⟩) (Kd.R_types HO414.out BK415.out (by decide)) (fun _ hk => hk.2) (.slice Aob_ t411.length cob_)) (fun _ _ => trivial)), Q_X4_, Q_X5_, Q_X6_, Q_X8_⟩
          refine steps_cons ?_ ?_
          ·rintro b a w' ⟨v409, v413, gb415, m4_, m5_, m6_, m8_, ha, Q_HO_33, Q_HO_9, Q_BK393, Q_BK394, Q_HB, Q_HO410, Q_BK415, Q_GW415, Q_GE415, Q_NB393_415, Q_NB415_393, Q_NB394_415, Q_NB415_394, Q_HO414, Q_X4_, Q_X5_, Q_X6_, Q_X8_⟩ hb_ hon hoff
           refine ⟨_, rfl, fun K hK => ?_⟩
           have e65 : a.tmps[65]? = some (.int .i64 t412) := by rw [ha]; exact putSel_on (e := (7, 65, .int .i64 t412)) 5 rfl rfl (hon 7 (by kernel_rfl)) rfl
           replace ha := Aside0.mk ha
           have HO_33 := Aside0.mk Q_HO_33
           have HO_9 := Aside0.mk Q_HO_9
           have BK393 := Aside0.mk Q_BK393
           have BK394 := Aside0.mk Q_BK394
           have HB := Aside0.mk Q_HB
           have HO410 := Aside0.mk (Q_HO410 (hon 1 (by kernel_rfl)))
           have BK415 := Aside0.mk (Q_BK415 (hon 8 (by kernel_rfl)))
           have GW415 := Aside0.mk (Q_GW415 (hon 8 (by kernel_rfl)))
           have GE415 := Aside0.mk (Q_GE415 (hon 8 (by kernel_rfl)))
           have NB393_415 := Aside0.mk (Q_NB393_415 (hon 8 (by kernel_rfl)))
           have NB415_393 := Aside0.mk (Q_NB415_393 (hon 8 (by kernel_rfl)))
           have NB394_415 := Aside0.mk (Q_NB394_415 (hon 8 (by kernel_rfl)))
           have NB415_394 := Aside0.mk (Q_NB415_394 (hon 8 (by kernel_rfl)))
           have HO414 := Aside0.mk (Q_HO414 (hon 4 (by kernel_rfl)))
           refine value_ (w1 := w') (v := .int .i64 t412) (by rfl) rfl ?_ ?_
           ·go_simp
            (try simp only [i64_w])
            try rfl
           refine hK.out _ _ ⟨v409, v413, gb415, m4_, m5_, m6_, m8_, (by rw [ha.out]; exact putSel_upk 7 hb_ rfl rfl rfl), Q_HO_33, Q_HO_9, Q_BK393, Q_BK394, Q_HB, Q_HO410, Q_BK415, Q_GW415, Q_GE415, Q_NB393_415, Q_NB415_393, Q_NB394_415, Q_NB415_394, Q_HO414, Q_X4_, Q_X5_, Q_X6_, Q_X8_⟩
          exact steps_nil
         rintro b a w54 hall ⟨v409, v413, gb415, m4_, m5_, m6_, m8_, ha, Q_HO_33, Q_HO_9, Q_BK393, Q_BK394, Q_HB, Q_HO410, Q_BK415, Q_GW415, Q_GE415, Q_NB393_415, Q_NB415_393, Q_NB394_415, Q_NB415_394, Q_HO414, Q_X4_, Q_X5_, Q_X6_, Q_X8_⟩
         clear BK393 BK394 HB HO_33 HO_9
         have hb1_ := hall 1 (by kernel_rfl)
         have hb3_ := hall 3 (by kernel_rfl)
         have hb4_ := hall 4 (by kernel_rfl)
         have hb5_ := hall 5 (by kernel_rfl)
         have hb6_ := hall 6 (by kernel_rfl)
         have hb7_ := hall 7 (by kernel_rfl)
         have hb8_ := hall 8 (by kernel_rfl)
         have hb9_ := hall 9 (by kernel_rfl)
         have hb10_ := hall 10 (by kernel_rfl)
         subst ha
         obtain rfl := Q_X4_ hb4_
         obtain rfl := Q_X5_ hb5_
         obtain rfl := (Q_X6_ hb6_).symm
         obtain rfl := Q_X8_ hb8_
         simp only [putSel, hb1_, hb3_, hb4_, hb5_, hb6_, hb7_, hb8_, hb9_, hb10_, if_true, Act.put, List.setIfInBounds_toArray, List.set_cons_zero, List.set_cons_succ]
         have HO_33 := Aside0.mk Q_HO_33
         clear Q_HO_33
         have HO_9 := Aside0.mk Q_HO_9
         clear Q_HO_9
         have BK393 := Aside0.mk Q_BK393
         clear Q_BK393
         have BK394 := Aside0.mk Q_BK394
         clear Q_BK394
         have HB := Aside0.mk Q_HB
         clear Q_HB
         have HO410 := Aside0.mk (Q_HO410 hb1_)
         clear Q_HO410
         have BK415 := Aside0.mk (by have h_ := Q_BK415 hb8_; rw [if_pos hb9_] at h_; exact h_)
         clear Q_BK415
         have GW415 := Aside0.mk (Q_GW415 hb8_)
         clear Q_GW415
         have GE415 := Aside0.mk (Q_GE415 hb8_)
         clear Q_GE415
         have NB393_415 := Aside0.mk (Q_NB393_415 hb8_)
         clear Q_NB393_415
         have NB415_393 := Aside0.mk (Q_NB415_393 hb8_)
         clear Q_NB415_393
         have NB394_415 := Aside0.mk (Q_NB394_415 hb8_)
         clear Q_NB394_415
         have NB415_394 := Aside0.mk (Q_NB415_394 hb8_)
         clear Q_NB415_394
         have HO414 := Aside0.mk (Q_HO414 hb4_)
         clear Q_HO414
         clear hall hb1_ hb3_ hb4_ hb5_ hb6_ hb7_ hb8_ hb9_ hb10_
         have hnb55 := NB393_394.out
         have hnc55 := NB394_393.out
         have hnb56 := NB393_415.out
         have hnc56 := NB415_393.out
         have hcz57_0 : w54.cell? ⟨gb393, 0, none⟩ = some (.int .i64 a1) := (bqC BK393.out 0).trans rfl
         have hfz57_0 := bqF BK393.out 0
         try go_wp2
         go_ret
         exact ⟨by first | rfl | (simp [errW_none, errW_some] <;> rfl) | (simp [*, errW_none, errW_some] <;> rfl), by repeat (first | (with_reducible first | exact HB.out | apply lqA | apply lqN | apply lqD | refine lqS ?_ GE393.out | refine lqS ?_ GE394.out | refine lqS ?_ GE415.out) | exact HB.out)⟩
        ·rw [if_neg c47] at H
         have c47b0 : (a2 == a1) = false := beq_eq_false_iff_ne.mpr c47
         try simp only [beq_self_eq_true, Bool.not_true, Bool.false_or, Bool.true_and] at c47b0
         have c47b1 : (a2 != a1) = true := bne_iff_ne.mpr c47
         replace H := Option.bind_eq_some_iff.mp H
         obtain ⟨t416, A580, H⟩ := H
         replace H : (some (!t416)) = some r := H
         have A58 := Aside0.mk A580
         clear A580
         obtain rfl := Option.some.inj H
         try go_wp2
         have n0_ := Aside0.mk (Kd.R_drew HO_9.out)
         have n1_ := Aside0.mk (Kd.R_drew HO_33.out)
         have n2_ := Aside0.mk (bqD BK393.out)
         have n3_ := Aside0.mk (bqD BK394.out)
         have n4_ := Aside0.mk (lqD HB.out)
         clear HO_9
         clear HO_33
         clear BK393
         clear BK394
         clear HB
         have HO_9 := n0_
         have HO_33 := n1_
         have BK393 := n2_
         have BK394 := n3_
         have HB := n4_
         clear n0_ n1_ n2_ n3_ n4_
         refine start_ (n := 11) (S := fun w' => True) (ds := []) #[false, false, false, false, false, false, false, false, false, false, false] (by kernel_rfl) rfl rfl trivial (fun hHeld => ?_); refine with_tabW spilelaw39_SealOnce.tab14 spilelaw39_SealOnce.bits14 (fun HT_ HW_ => ?_)
         generalize wr.drew = w59 at HO_9 HO_33 BK393 BK394 HB hHeld ⊢
         refine pure_ (i := 0) (N := some 59) (v := ?_) (a' := ?_) #[true, false, false, false, false, false, false, false, false, false, false] rfl rfl (any_of HT_.out (by kernel_rfl)) (fun _ _ _ h => h) (Or.inl ⟨by rfl, ?_⟩) ?_ ?_
         rotate_left
         ·intro w'
          go_simp
          with_reducible rfl
         rotate_left
         ·simp only [Act.put, List.setIfInBounds_toArray, List.set_cons_zero, List.set_cons_succ, i64_w, i32_w]
          rfl
         refine pure_ (i := 2) (N := some 61) (v := ?_) (a' := ?_) #[true, false, true, false, false, false, false, false, false, false, false] rfl rfl (any_of HT_.out (by kernel_rfl)) (fun _ _ _ h => h) (Or.inl ⟨by rfl, ?_⟩) ?_ ?_
         rotate_left
         ·intro w'
          go_simp
          with_reducible rfl
         rotate_left
         ·simp only [Act.put, List.setIfInBounds_toArray, List.set_cons_zero, List.set_cons_succ, i64_w, i32_w]
          rfl
         refine inv_at [1, 3, 4, 5, 6, 7, 8, 9, 10] (fun a0_ b a w' => ∃ (v409 : Value) (v413 : Value) (gb415 : Nat) (m4_ : Value) (m5_ : Value) (m6_ : Value) (m8_ : Value), a = putSel a0_ b [(1, 60, v409), (3, 62, .int .i64 a3), (4, 63, m4_), (5, 58, m5_), (6, 64, m6_), (7, 65, .int .i64 t412), (8, 13, m8_), (10, 14, .int .i64 t412)] ∧ (Kd.R (Kd.int .i64) 3 w' w.heap.size (fun _ => True) (.slice Ao21 t399.length co21) t399) ∧ (Kd.R (Kd.int .i64) 3 w' w.heap.size (fun _ => True) (.slice Ao21 t399.length co21) t399) ∧ (w'.heap[gb393]? = some (.cells #[.int .i64 a1] 3 (0, 0))) ∧ (w'.heap[gb394]? = some (.cells #[.int .i64 a3] 3 (0, 0))) ∧ (Below w.heap.size w w') ∧ (b 1 = true → Kd.R k34 34 w' w.heap.size (fun _ => True) v409 t408) ∧ (b 8 = true → w'.heap[gb415]? = some (.cells #[if b 9 = true then v413 else .slice none 0 0] 28 (0, 0))) ∧ (b 8 = true → w.heap.size ≤ gb415) ∧ (b 8 = true → w.heap.size ≤ gb415) ∧ (b 8 = true → gb393 ≠ gb415) ∧ (b 8 = true → gb415 ≠ gb393) ∧ (b 8 = true → gb394 ≠ gb415) ∧ (b 8 = true → gb415 ≠ gb394) ∧ (b 4 = true → Kd.R (Kd.int .i64) 3 w' w.heap.size (fun _ => True) v413 t411) ∧ (b 4 = true → (m4_ : Value) = .tuple #[v413, .int .i64 t412]) ∧ (b 5 = true → (m5_ : Value) = .tuple #[v413, .int .i64 t412]) ∧ (b 6 = true → (m6_ : Value) = v413) ∧ (b 8 = true → (m8_ : Value) = .pointer (some ⟨gb415, 0, none⟩))) HT_.out HW_.out (by kernel_rfl) (by kernel_rfl) ?_ ?_ ?_
         ·exact ⟨.bool false, .bool false, 0, .bool false, .bool false, .bool false, .bool false, by simp only [putSel, Bool.false_eq_true, if_false], Kd.R_mono HO_33.out (fun _ _ => trivial), Kd.R_mono HO_9.out (fun _ _ => trivial), BK393.out, BK394.out, HB.out, fun h_ => absurd h_ (by decide), fun h_ => absurd h_ (by decide), fun h_ => absurd h_ (by decide), fun h_ => absurd h_ (by decide), fun h_ => absurd h_ (by decide), fun h_ => absurd h_ (by decide), fun h_ => absurd h_ (by decide), fun h_ => absurd h_ (by decide), fun h_ => absurd h_ (by decide), fun h_ => absurd h_ (by decide), fun h_ => absurd h_ (by decide), fun h_ => absurd h_ (by decide), fun h_ => absurd h_ (by decide)⟩
         ·skip
          clear BK393 BK394 HB HO_33 HO_9
          refine steps_cons ?_ ?_
          ·rintro b a w' ⟨v409, v413, gb415, m4_, m5_, m6_, m8_, ha, Q_HO_33, Q_HO_9, Q_BK393, Q_BK394, Q_HB, Q_HO410, Q_BK415, Q_GW415, Q_GE415, Q_NB393_415, Q_NB415_393, Q_NB394_415, Q_NB415_394, Q_HO414, Q_X4_, Q_X5_, Q_X6_, Q_X8_⟩ hb_ hon hoff
           refine ⟨_, rfl, fun K hK => ?_⟩
           have e59 : a.tmps[59]? = some (.slice A0 l0.length c0) := by rw [ha]; exact (putSel_off rfl).trans rfl
           replace ha := Aside0.mk ha
           have HO_33 := Aside0.mk Q_HO_33
           have HO_9 := Aside0.mk Q_HO_9
           have BK393 := Aside0.mk Q_BK393
           have BK394 := Aside0.mk Q_BK394
           have HB := Aside0.mk Q_HB
           refine goes_ Try.func14 (by kernel_rfl) rfl #[.slice A0 l0.length c0] (by rfl) rfl rfl (by first | (simp only [List.map_toArray, List.map_cons, List.map_nil, Act.eval, Array.getD_eq_getD_getElem?, Option.getD_some, e59]; done) | (simp only [List.map_toArray, List.map_cons, List.map_nil, Act.eval, Array.getD_eq_getD_getElem?, Option.getD_some, e59]; rfl)) ?_
           with_reducible refine (clone34.calls _ _ l0 t408 _ ?side1 ?side2 A44.out).mono ?_
           (case side1 => repeat (first | exact (Kd.C_below HR0.out HB.out) | (with_reducible refine Kd.C_alloc ?_ _) | (with_reducible refine Kd.C_drewN ?_ _) | (with_reducible refine Kd.C_drew ?_)))
           (case side2 => exact HC0.out)
           rintro e w60 ⟨v409, rfl, ho0, hb⟩
           refine ⟨_, rfl, ?_⟩
           have n0_ := Aside0.mk (Kd.R_below (by (with_reducible repeat (first | apply Kd.R_alloc | apply Kd.R_drewN | apply Kd.R_drew)); exact HO_9.out) hb)
           have n1_ := Aside0.mk (Kd.R_below (by (with_reducible repeat (first | apply Kd.R_alloc | apply Kd.R_drewN | apply Kd.R_drew)); exact HO_33.out) hb)
           have n2_ := Aside0.mk (Kd.R_lower ho0 (lqZ (by repeat (first | (with_reducible first | exact HB.out | apply lqA | apply lqN | apply lqD | refine lqS ?_ GE393.out | refine lqS ?_ GE394.out) | exact HB.out))))
           have n3_ := Aside0.mk (bqB (g := gb393) (o := .cells #[.int .i64 a1] 3 (0, 0)) (by (with_reducible repeat (first | refine bqN ?_ _ | refine bqD ?_ | refine bqA ?_ _)); exact BK393.out) hb)
           have n4_ := Aside0.mk (bqB (g := gb394) (o := .cells #[.int .i64 a3] 3 (0, 0)) (by (with_reducible repeat (first | refine bqN ?_ _ | refine bqD ?_ | refine bqA ?_ _)); exact BK394.out) hb)
           have n5_ := Aside0.mk (lqT (by repeat (first | (with_reducible first | exact HB.out | apply lqA | apply lqN | apply lqD | refine lqS ?_ GE393.out | refine lqS ?_ GE394.out) | exact HB.out)) hb)
           have z_BK415 := fun (h0_ : b 8 = true) => (show w60.heap[gb415]? = some (.cells #[if b 9 = true then v413 else .slice none 0 0] 28 (0, 0)) from by have h_ := Q_BK415 h0_; rw [if_neg (by rw [hoff 9 (by kernel_rfl)]; decide)] at h_ ⊢; first | exact (bqB (g := gb415) (o := .cells #[.slice none 0 0] 28 (0, 0)) (by (with_reducible repeat (first | refine bqN ?_ _ | refine bqD ?_ | refine bqA ?_ _)); exact h_) hb))
           clear HO_9
           clear HO_33
           clear BK393
           clear BK394
           clear HB
           have HO_9 := n0_
           have HO_33 := n1_
           have HO410 := n2_
           have BK393 := n3_
           have BK394 := n4_
           have HB := n5_
           clear n0_ n1_ n2_ n3_ n4_ n5_
           (try clear hb)
           (try clear hb2)
           (try clear hk)
           (try clear hi)
           (try clear ho0)
           refine hK.out _ _ ⟨v409, v413, gb415, m4_, m5_, m6_, m8_, (by rw [ha.out]; exact putSel_upk 0 hb_ rfl rfl rfl), (by (with_reducible repeat (first | apply Kd.R_alloc | apply Kd.R_drewN | apply Kd.R_drew)); exact Kd.R_mono HO_33.out (fun _ _ => trivial)), (by (with_reducible repeat (first | apply Kd.R_alloc | apply Kd.R_drewN | apply Kd.R_drew)); exact Kd.R_mono HO_9.out (fun _ _ => trivial)), (by (with_reducible repeat (first | refine bqN ?_ _ | refine bqD ?_ | refine bqA ?_ _)); exact BK393.out), (by (with_reducible repeat (first | refine bqN ?_ _ | refine bqD ?_ | refine bqA ?_ _)); exact BK394.out), (by repeat (first | (with_reducible first | exact HB.out | apply lqA | apply lqN | apply lqD | refine lqS ?_ GE393.out | refine lqS ?_ GE394.out) | exact HB.out)), fun _ => (by (with_reducible repeat (first | apply Kd.R_alloc | apply Kd.R_drewN | apply Kd.R_drew)); exact Kd.R_mono HO410.out (fun _ _ => trivial)), z_BK415, Q_GW415, Q_GE415, Q_NB393_415, Q_NB415_393, Q_NB394_415, Q_NB415_394, fun h0_ => absurd ((hoff 4 (by kernel_rfl)).symm.trans h0_) (by decide), fun h0_ => absurd ((hoff 4 (by kernel_rfl)).symm.trans h0_) (by decide), fun h0_ => absurd ((hoff 5 (by kernel_rfl)).symm.trans h0_) (by decide), fun h0_ => absurd ((hoff 6 (by kernel_rfl)).symm.trans h0_) (by decide), Q_X8_⟩
          refine steps_cons ?_ ?_
          ·rintro b a w' ⟨v409, v413, gb415, m4_, m5_, m6_, m8_, ha, Q_HO_33, Q_HO_9, Q_BK393, Q_BK394, Q_HB, Q_HO410, Q_BK415, Q_GW415, Q_GE415, Q_NB393_415, Q_NB415_393, Q_NB394_415, Q_NB415_394, Q_HO414, Q_X4_, Q_X5_, Q_X6_, Q_X8_⟩ hb_ hon hoff
           refine ⟨_, rfl, fun K hK => ?_⟩
           have e7 : a.tmps[7]? = some (.pointer (some ⟨gb394, 0, none⟩)) := by rw [ha]; exact (putSel_off rfl).trans rfl
           replace ha := Aside0.mk ha
           have HO_33 := Aside0.mk Q_HO_33
           have HO_9 := Aside0.mk Q_HO_9
           have BK393 := Aside0.mk Q_BK393
           have BK394 := Aside0.mk Q_BK394
           have HB := Aside0.mk Q_HB
           have hc0_ : w'.cell? ⟨gb394, 0, none⟩ = some (.int .i64 a3) := (bqC BK394.out 0).trans rfl
           refine value_ (w1 := w') (v := .int .i64 a3) (by rfl) rfl ?_ ?_
           ·go_simp
            (try simp only [i64_w])
            try rfl
           refine hK.out _ _ ⟨v409, v413, gb415, m4_, m5_, m6_, m8_, (by rw [ha.out]; exact putSel_upk 1 hb_ rfl rfl rfl), Q_HO_33, Q_HO_9, Q_BK393, Q_BK394, Q_HB, Q_HO410, Q_BK415, Q_GW415, Q_GE415, Q_NB393_415, Q_NB415_393, Q_NB394_415, Q_NB415_394, fun h0_ => absurd ((hoff 4 (by kernel_rfl)).symm.trans h0_) (by decide), fun h0_ => absurd ((hoff 4 (by kernel_rfl)).symm.trans h0_) (by decide), fun h0_ => absurd ((hoff 5 (by kernel_rfl)).symm.trans h0_) (by decide), fun h0_ => absurd ((hoff 6 (by kernel_rfl)).symm.trans h0_) (by decide), Q_X8_⟩
          refine steps_cons ?_ ?_
          ·rintro b a w' ⟨v409, v413, gb415, m4_, m5_, m6_, m8_, ha, Q_HO_33, Q_HO_9, Q_BK393, Q_BK394, Q_HB, Q_HO410, Q_BK415, Q_GW415, Q_GE415, Q_NB393_415, Q_NB415_393, Q_NB394_415, Q_NB415_394, Q_HO414, Q_X4_, Q_X5_, Q_X6_, Q_X8_⟩ hb_ hon hoff
           refine ⟨_, rfl, fun K hK => ?_⟩
           have e60 : a.tmps[60]? = some (v409) := by rw [ha]; exact putSel_on (e := (1, 60, v409)) 0 rfl rfl (hon 1 (by kernel_rfl)) rfl
           have e61 : a.tmps[61]? = some (.int .i64 a2) := by rw [ha]; exact (putSel_off rfl).trans rfl
           have e62 : a.tmps[62]? = some (.int .i64 a3) := by rw [ha]; exact putSel_on (e := (3, 62, .int .i64 a3)) 1 rfl rfl (hon 3 (by kernel_rfl)) rfl
           replace ha := Aside0.mk ha
           have HO_33 := Aside0.mk Q_HO_33
           have HO_9 := Aside0.mk Q_HO_9
           have BK393 := Aside0.mk Q_BK393
           have BK394 := Aside0.mk Q_BK394
           have HB := Aside0.mk Q_HB
           have HO410 := Aside0.mk (Q_HO410 (hon 1 (by kernel_rfl)))
           obtain ⟨Ao62, co62, eo62⟩ := Kd.R_slice HO410.out
           (first | subst eo62 | (injection eo62 with f1_ f2_ f3_; have f4_ := f1_.symm; have f5_ := f3_.symm; clear f1_ f2_ f3_; subst f4_; subst f5_))
           refine goes_ Try.func13 (by kernel_rfl) rfl #[.slice Ao62 t408.length co62, .int .i64 a2, .int .i64 a3] (by rfl) rfl rfl (by first | (simp only [List.map_toArray, List.map_cons, List.map_nil, Act.eval, Array.getD_eq_getD_getElem?, Option.getD_some, e60, e61, e62]; done) | (simp only [List.map_toArray, List.map_cons, List.map_nil, Act.eval, Array.getD_eq_getD_getElem?, Option.getD_some, e60, e61, e62]; rfl)) ?_
           with_reducible refine (seal_Intact.calls _ _ t408 a2 a3 t411 t412 _ ?side1 ?side2 A45.out).mono ?_
           (case side1 => repeat (first | exact (Kd.R_reads' HO410.out).2.2 | (with_reducible refine Kd.C_alloc ?_ _) | (with_reducible refine Kd.C_drewN ?_ _) | (with_reducible refine Kd.C_drew ?_)))
           (case side2 => exact (Kd.R_reads' HO410.out).2.1)
           rintro e w63 ⟨v413, rfl, ho0, hb⟩
           refine ⟨_, rfl, ?_⟩
           have n0_ := Aside0.mk (Kd.R_elder' (by (with_reducible repeat (first | apply Kd.R_alloc | apply Kd.R_drewN | apply Kd.R_drew)); exact HO_9.out) (Kd.R_base ho0) hb)
           have n1_ := Aside0.mk (Kd.R_elder' (by (with_reducible repeat (first | apply Kd.R_alloc | apply Kd.R_drewN | apply Kd.R_drew)); exact HO_33.out) (Kd.R_base ho0) hb)
           have n2_ := Aside0.mk (Kd.R_below (by (with_reducible repeat (first | apply Kd.R_alloc | apply Kd.R_drewN | apply Kd.R_drew)); exact HO410.out) hb)
           have n3_ := Aside0.mk (Kd.R_lower (Kd.R_new' (Kd.R_new' ho0 (Kd.R_lt (by (with_reducible repeat (first | apply Kd.R_alloc | apply Kd.R_drewN | apply Kd.R_drew)); exact HO_9.out))) (Kd.R_lt (by (with_reducible repeat (first | apply Kd.R_alloc | apply Kd.R_drewN | apply Kd.R_drew)); exact HO_33.out))) (lqZ (by repeat (first | (with_reducible first | exact HB.out | apply lqA | apply lqN | apply lqD | refine lqS ?_ GE393.out | refine lqS ?_ GE394.out) | exact HB.out))))
           have n4_ := Aside0.mk (bqB (g := gb393) (o := .cells #[.int .i64 a1] 3 (0, 0)) (by (with_reducible repeat (first | refine bqN ?_ _ | refine bqD ?_ | refine bqA ?_ _)); exact BK393.out) hb)
           have n5_ := Aside0.mk (bqB (g := gb394) (o := .cells #[.int .i64 a3] 3 (0, 0)) (by (with_reducible repeat (first | refine bqN ?_ _ | refine bqD ?_ | refine bqA ?_ _)); exact BK394.out) hb)
           have n6_ := Aside0.mk (lqT (by repeat (first | (with_reducible first | exact HB.out | apply lqA | apply lqN | apply lqD | refine lqS ?_ GE393.out | refine lqS ?_ GE394.out) | exact HB.out)) hb)
           have z_BK415 := fun (h0_ : b 8 = true) => (show w63.heap[gb415]? = some (.cells #[if b 9 = true then v413 else .slice none 0 0] 28 (0, 0)) from by have h_ := Q_BK415 h0_; rw [if_neg (by rw [hoff 9 (by kernel_rfl)]; decide)] at h_ ⊢; first | exact (bqB (g := gb415) (o := .cells #[.slice none 0 0] 28 (0, 0)) (by (with_reducible repeat (first | refine bqN ?_ _ | refine bqD ?_ | refine bqA ?_ _)); exact h_) hb))
           clear HO_9
           clear HO_33
           clear HO410
           clear BK393
           clear BK394
           clear HB
           have HO_9 := n0_
           have HO_33 := n1_
           have HO410 := n2_
           have HO414 := n3_
           have BK393 := n4_
           have BK394 := n5_
           have HB := n6_
           clear n0_ n1_ n2_ n3_ n4_ n5_ n6_
           (try clear hb)
           (try clear hb2)
           (try clear hk)
           (try clear hi)
           (try clear ho0)
           refine hK.out _ _ ⟨.slice Ao62 t408.length co62, v413, gb415, (.tuple #[v413, .int .i64 t412]), m5_, m6_, m8_, (by rw [ha.out]; exact putSel_upk 2 hb_ rfl rfl rfl), (by (with_reducible repeat (first | apply Kd.R_alloc | apply Kd.R_drewN | apply Kd.R_drew)); exact Kd.R_mono HO_33.out (fun _ _ => trivial)), (by (with_reducible repeat (first | apply Kd.R_alloc | apply Kd.R_drewN | apply Kd.R_drew)); exact Kd.R_mono HO_9.out (fun _ _ => trivial)), (by (with_reducible repeat (first | refine bqN ?_ _ | refine bqD ?_ | refine bqA ?_ _)); exact BK393.out), (by (with_reducible repeat (first | refine bqN ?_ _ | refine bqD ?_ | refine bqA ?_ _)); exact BK394.out), (by repeat (first | (with_reducible first | exact HB.out | apply lqA | apply lqN | apply lqD | refine lqS ?_ GE393.out | refine lqS ?_ GE394.out) | exact HB.out)), fun _ => (by (with_reducible repeat (first | apply Kd.R_alloc | apply Kd.R_drewN | apply Kd.R_drew)); exact Kd.R_mono HO410.out (fun _ _ => trivial)), z_BK415, Q_GW415, Q_GE415, Q_NB393_415, Q_NB415_393, Q_NB394_415, Q_NB415_394, fun _ => (by (with_reducible repeat (first | apply Kd.R_alloc | apply Kd.R_drewN | apply Kd.R_drew)); exact Kd.R_mono HO414.out (fun _ _ => trivial)), fun _ => rfl, fun h0_ => absurd ((hoff 5 (by kernel_rfl)).symm.trans h0_) (by decide), fun h0_ => absurd ((hoff 6 (by kernel_rfl)).symm.trans h0_) (by decide), Q_X8_⟩
          refine steps_cons ?_ ?_
          ·rintro b a w' ⟨v409, v413, gb415, m4_, m5_, m6_, m8_, ha, Q_HO_33, Q_HO_9, Q_BK393, Q_BK394, Q_HB, Q_HO410, Q_BK415, Q_GW415, Q_GE415, Q_NB393_415, Q_NB415_393, Q_NB394_415, Q_NB415_394, Q_HO414, Q_X4_, Q_X5_, Q_X6_, Q_X8_⟩ hb_ hon hoff
           refine ⟨_, rfl, fun K hK => ?_⟩
           have e63 : a.tmps[63]? = some (m4_) := by rw [ha]; exact putSel_on (e := (4, 63, m4_)) 2 rfl rfl (hon 4 (by kernel_rfl)) rfl
           rw [Q_X4_ (hon 4 (by kernel_rfl))] at e63
           replace ha := Aside0.mk ha
           have HO_33 := Aside0.mk Q_HO_33
           have HO_9 := Aside0.mk Q_HO_9
           have BK393 := Aside0.mk Q_BK393
           have BK394 := Aside0.mk Q_BK394
           have HB := Aside0.mk Q_HB
           have HO410 := Aside0.mk (Q_HO410 (hon 1 (by kernel_rfl)))
           have HO414 := Aside0.mk (Q_HO414 (hon 4 (by kernel_rfl)))
           refine value_ (w1 := w') (v := .tuple #[v413, .int .i64 t412]) (by rfl) rfl ?_ ?_
           ·go_simp
            (try simp only [i64_w])
            try rfl
           refine hK.out _ _ ⟨v409, v413, gb415, m4_, (.tuple #[v413, .int .i64 t412]), m6_, m8_, (by rw [ha.out]; exact putSel_upk 3 hb_ rfl rfl rfl), Q_HO_33, Q_HO_9, Q_BK393, Q_BK394, Q_HB, Q_HO410, Q_BK415, Q_GW415, Q_GE415, Q_NB393_415, Q_NB415_393, Q_NB394_415, Q_NB415_394, Q_HO414, Q_X4_, fun _ => rfl, fun h0_ => absurd ((hoff 6 (by kernel_rfl)).symm.trans h0_) (by decide), Q_X8_⟩
          refine steps_cons ?_ ?_
          ·rintro b a w' ⟨v409, v413, gb415, m4_, m5_, m6_, m8_, ha, Q_HO_33, Q_HO_9, Q_BK393, Q_BK394, Q_HB, Q_HO410, Q_BK415, Q_GW415, Q_GE415, Q_NB393_415, Q_NB415_393, Q_NB394_415, Q_NB415_394, Q_HO414, Q_X4_, Q_X5_, Q_X6_, Q_X8_⟩ hb_ hon hoff
           refine ⟨_, rfl, fun K hK => ?_⟩
           have e58 : a.tmps[58]? = some (m5_) := by rw [ha]; exact putSel_on (e := (5, 58, m5_)) 3 rfl rfl (hon 5 (by kernel_rfl)) rfl
           rw [Q_X5_ (hon 5 (by kernel_rfl))] at e58
           replace ha := Aside0.mk ha
           have HO_33 := Aside0.mk Q_HO_33
           have HO_9 := Aside0.mk Q_HO_9
           have BK393 := Aside0.mk Q_BK393
           have BK394 := Aside0.mk Q_BK394
           have HB := Aside0.mk Q_HB
           have HO410 := Aside0.mk (Q_HO410 (hon 1 (by kernel_rfl)))
           have HO414 := Aside0.mk (Q_HO414 (hon 4 (by kernel_rfl)))
           obtain ⟨Ao6_0, co6_0, eo_⟩ := Kd.R_slice HO414.out
           subst eo_
           refine value_ (w1 := w') (v := .slice Ao6_0 t411.length co6_0) (by rfl) rfl ?_ ?_
           ·go_simp
            (try simp only [i64_w])
            try rfl
           refine hK.out _ _ ⟨v409, .slice Ao6_0 t411.length co6_0, gb415, m4_, m5_, (.slice Ao6_0 t411.length co6_0), m8_, (by rw [ha.out]; exact putSel_upk 4 hb_ rfl rfl rfl), Q_HO_33, Q_HO_9, Q_BK393, Q_BK394, Q_HB, Q_HO410, Q_BK415, Q_GW415, Q_GE415, Q_NB393_415, Q_NB415_393, Q_NB394_415, Q_NB415_394, Q_HO414, Q_X4_, Q_X5_, fun _ => rfl, Q_X8_⟩
          refine steps_cons ?_ ?_
          ·rintro b a w' ⟨v409, v413, gb415, m4_, m5_, m6_, m8_, ha, Q_HO_33, Q_HO_9, Q_BK393, Q_BK394, Q_HB, Q_HO410, Q_BK415, Q_GW415, Q_GE415, Q_NB393_415, Q_NB415_393, Q_NB394_415, Q_NB415_394, Q_HO414, Q_X4_, Q_X5_, Q_X6_, Q_X8_⟩ hb_ hon hoff
           refine ⟨_, rfl, fun K hK => ?_⟩
           have e58 : a.tmps[58]? = some (m5_) := by rw [ha]; exact putSel_on (e := (5, 58, m5_)) 3 rfl rfl (hon 5 (by kernel_rfl)) rfl
           rw [Q_X5_ (hon 5 (by kernel_rfl))] at e58
           replace ha := Aside0.mk ha
           have HO_33 := Aside0.mk Q_HO_33
           have HO_9 := Aside0.mk Q_HO_9
           have BK393 := Aside0.mk Q_BK393
           have BK394 := Aside0.mk Q_BK394
           have HB := Aside0.mk Q_HB
           have HO410 := Aside0.mk (Q_HO410 (hon 1 (by kernel_rfl)))
           have HO414 := Aside0.mk (Q_HO414 (hon 4 (by kernel_rfl)))
           obtain ⟨Ao7_0, co7_0, eo_⟩ := Kd.R_slice HO414.out
           subst eo_
           refine value_ (w1 := w') (v := .int .i64 t412) (by rfl) rfl ?_ ?_
           ·go_simp
            (try simp only [i64_w])
            try rfl
           refine hK.out _ _ ⟨v409, .slice Ao7_0 t411.length co7_0, gb415, m4_, m5_, m6_, m8_, (by rw [ha.out]; exact putSel_upk 5 hb_ rfl rfl rfl), Q_HO_33, Q_HO_9, Q_BK393, Q_BK394, Q_HB, Q_HO410, Q_BK415, Q_GW415, Q_GE415, Q_NB393_415, Q_NB415_393, Q_NB394_415, Q_NB415_394, Q_HO414, Q_X4_, Q_X5_, Q_X6_, Q_X8_⟩
          refine steps_cons ?_ ?_
          ·rintro b a w' ⟨v409, v413, gb415, m4_, m5_, m6_, m8_, ha, Q_HO_33, Q_HO_9, Q_BK393, Q_BK394, Q_HB, Q_HO410, Q_BK415, Q_GW415, Q_GE415, Q_NB393_415, Q_NB415_393, Q_NB394_415, Q_NB415_394, Q_HO414, Q_X4_, Q_X5_, Q_X6_, Q_X8_⟩ hb_ hon hoff
           refine ⟨_, rfl, fun K hK => ?_⟩
           replace ha := Aside0.mk ha
           have HO_33 := Aside0.mk Q_HO_33
           have HO_9 := Aside0.mk Q_HO_9
           have BK393 := Aside0.mk Q_BK393
           have BK394 := Aside0.mk Q_BK394
           have HB := Aside0.mk Q_HB
           refine box_step ?hg (N := 13) ?hd (cs := #[.slice none 0 0]) (t := 28) ?hr ?_; (case hd => rfl); (case hg => rfl); (case hr => first | (go_simp; done) | (go_simp; rfl))
           intro gb415 hg w60 hbox hb
           have n0_ := Aside0.mk (Kd.R_below (by (with_reducible repeat (first | apply Kd.R_alloc | apply Kd.R_drewN | apply Kd.R_drew)); exact HO_9.out) hb)
           have n1_ := Aside0.mk (Kd.R_below (by (with_reducible repeat (first | apply Kd.R_alloc | apply Kd.R_drewN | apply Kd.R_drew)); exact HO_33.out) hb)
           have n2_ := Aside0.mk (bqB (g := gb393) (o := .cells #[.int .i64 a1] 3 (0, 0)) (by (with_reducible repeat (first | refine bqN ?_ _ | refine bqD ?_ | refine bqA ?_ _)); exact BK393.out) hb)
           have n3_ := Aside0.mk (bqB (g := gb394) (o := .cells #[.int .i64 a3] 3 (0, 0)) (by (with_reducible repeat (first | refine bqN ?_ _ | refine bqD ?_ | refine bqA ?_ _)); exact BK394.out) hb)
           have n4_ := Aside0.mk (lqT (by repeat (first | (with_reducible first | exact HB.out | apply lqA | apply lqN | apply lqD | refine lqS ?_ GE393.out | refine lqS ?_ GE394.out) | exact HB.out)) hb)
           have n5_ := Aside0.mk (hbox)
           have n6_ := Aside0.mk ((by rw [hg]; exact (lqZ (by repeat (first | (with_reducible first | exact HB.out | apply lqA | apply lqN | apply lqD | refine lqS ?_ GE393.out | refine lqS ?_ GE394.out) | exact HB.out))) : w.heap.size ≤ gb415))
           have n7_ := Aside0.mk ((by rw [hg]; exact (lqZ (by repeat (first | (with_reducible first | exact HB.out | apply lqA | apply lqN | apply lqD | refine lqS ?_ GE393.out | refine lqS ?_ GE394.out) | exact HB.out))) : w.heap.size ≤ gb415))
           have n8_ := Aside0.mk ((by rw [hg]; exact Nat.ne_of_lt (blk_lt (g := gb393) (o := .cells #[.int .i64 a1] 3 (0, 0)) (by (with_reducible repeat (first | refine bqN ?_ _ | refine bqD ?_ | refine bqA ?_ _)); exact BK393.out)) : gb393 ≠ gb415))
           have n9_ := Aside0.mk ((by rw [hg]; exact Nat.ne_of_gt (blk_lt (g := gb393) (o := .cells #[.int .i64 a1] 3 (0, 0)) (by (with_reducible repeat (first | refine bqN ?_ _ | refine bqD ?_ | refine bqA ?_ _)); exact BK393.out)) : gb415 ≠ gb393))
           have n10_ := Aside0.mk ((by rw [hg]; exact Nat.ne_of_lt (blk_lt (g := gb394) (o := .cells #[.int .i64 a3] 3 (0, 0)) (by (with_reducible repeat (first | refine bqN ?_ _ | refine bqD ?_ | refine bqA ?_ _)); exact BK394.out)) : gb394 ≠ gb415))
           have n11_ := Aside0.mk ((by rw [hg]; exact Nat.ne_of_gt (blk_lt (g := gb394) (o := .cells #[.int .i64 a3] 3 (0, 0)) (by (with_reducible repeat (first | refine bqN ?_ _ | refine bqD ?_ | refine bqA ?_ _)); exact BK394.out)) : gb415 ≠ gb394))
           have z_HO410 := fun (h0_ : b 1 = true) => (show Kd.R k34 34 w60 w.heap.size (fun _ => True) v409 t408 from by first | exact (Kd.R_below (by (with_reducible repeat (first | apply Kd.R_alloc | apply Kd.R_drewN | apply Kd.R_drew)); exact (Q_HO410 h0_)) hb) | exact Kd.R_mono (Kd.R_below (by (with_reducible repeat (first | apply Kd.R_alloc | apply Kd.R_drewN | apply Kd.R_drew)); exact (Q_HO410 h0_)) hb) (fun _ h_ => by first | trivial | exact h_ | exact h_.1 | exact ⟨h_.1, h_.2.1⟩ | exact ⟨h_.1, h_.2.1, h_.2.2.1⟩ | simp_all))
           have z_HO414 := fun (h0_ : b 4 = true) => (show Kd.R (Kd.int .i64) 3 w60 w.heap.size (fun _ => True) v413 t411 from by first | exact (Kd.R_below (by (with_reducible repeat (first | apply Kd.R_alloc | apply Kd.R_drewN | apply Kd.R_drew)); exact (Q_HO414 h0_)) hb) | exact Kd.R_mono (Kd.R_below (by (with_reducible repeat (first | apply Kd.R_alloc | apply Kd.R_drewN | apply Kd.R_drew)); exact (Q_HO414 h0_)) hb) (fun _ h_ => by first | trivial | exact h_ | exact h_.1 | exact ⟨h_.1, h_.2.1⟩ | exact ⟨h_.1, h_.2.1, h_.2.2.1⟩ | simp_all))
           clear HO_9
           clear HO_33
           clear BK393
           clear BK394
           clear HB
           have HO_9 := n0_
           have HO_33 := n1_
           have BK393 := n2_
           have BK394 := n3_
           have HB := n4_
           have BK415 := n5_
           have GW415 := n6_
           have GE415 := n7_
           have NB393_415 := n8_
           have NB415_393 := n9_
           have NB394_415 := n10_
           have NB415_394 := n11_
           clear n0_ n1_ n2_ n3_ n4_ n5_ n6_ n7_ n8_ n9_ n10_ n11_
           clear hb hbox hg
           refine hK.out _ _ ⟨v409, v413, gb415, m4_, m5_, m6_, (.pointer (some ⟨gb415, 0, none⟩)), (by rw [ha.out]; exact putSel_upk 6 hb_ rfl rfl rfl), (by (with_reducible repeat (first | apply Kd.R_alloc | apply Kd.R_drewN | apply Kd.R_drew)); exact Kd.R_mono HO_33.out (fun _ _ => trivial)), (by (with_reducible repeat (first | apply Kd.R_alloc | apply Kd.R_drewN | apply Kd.R_drew)); exact Kd.R_mono HO_9.out (fun _ _ => trivial)), (by (with_reducible repeat (first | refine bqN ?_ _ | refine bqD ?_ | refine bqA ?_ _)); exact BK393.out), (by (with_reducible repeat (first | refine bqN ?_ _ | refine bqD ?_ | refine bqA ?_ _)); exact BK394.out), (by repeat (first | (with_reducible first | exact HB.out | apply lqA | apply lqN | apply lqD | refine lqS ?_ GE393.out | refine lqS ?_ GE394.out | refine lqS ?_ GE415.out) | exact HB.out)), z_HO410, fun _ => (by have h11_ : b 9 = false := hoff 9 (by kernel_rfl); show (_ : Option Obj) = some (Obj.cells #[if b 9 = true then v413 else .slice none 0 0] 28 (0, 0)); rw [if_neg (by rw [h11_]; decide)]; (with_reducible repeat (first | refine bqN ?_ _ | refine bqD ?_ | refine bqA ?_ _)); exact BK415.out), fun _ => GW415.out, fun _ => GE415.out, fun _ => NB393_415.out, fun _ => NB415_393.out, fun _ => NB394_415.out, fun _ => NB415_394.out, z_HO414, Q_X4_, Q_X5_, Q_X6_, fun _ => rfl⟩
          refine steps_cons ?_ ?_
          ·rintro b a w' ⟨v409, v413, gb415, m4_, m5_, m6_, m8_, ha, Q_HO_33, Q_HO_9, Q_BK393, Q_BK394, Q_HB, Q_HO410, Q_BK415, Q_GW415, Q_GE415, Q_NB393_415, Q_NB415_393, Q_NB394_415, Q_NB415_394, Q_HO414, Q_X4_, Q_X5_, Q_X6_, Q_X8_⟩ hb_ hon hoff
           refine ⟨_, rfl, fun K hK => ?_⟩
           have e13 : a.tmps[13]? = some (m8_) := by rw [ha]; exact putSel_on (e := (8, 13, m8_)) 6 rfl rfl (hon 8 (by kernel_rfl)) rfl
           rw [Q_X8_ (hon 8 (by kernel_rfl))] at e13
           have e64 : a.tmps[64]? = some (m6_) := by rw [ha]; exact putSel_on (e := (6, 64, m6_)) 4 rfl rfl (hon 6 (by kernel_rfl)) rfl
           rw [Q_X6_ (hon 6 (by kernel_rfl))] at e64
           replace ha := Aside0.mk ha
           have HO_33 := Aside0.mk Q_HO_33
           have HO_9 := Aside0.mk Q_HO_9
           have BK393 := Aside0.mk Q_BK393
           have BK394 := Aside0.mk Q_BK394
           have HB := Aside0.mk Q_HB
           have HO410 := Aside0.mk (Q_HO410 (hon 1 (by kernel_rfl)))
           have BK415 := Aside0.mk (show w'.heap[gb415]? = some (.cells #[.slice none 0 0] 28 (0, 0)) from by have h_ := Q_BK415 (hon 8 (by kernel_rfl)); rw [if_neg (by rw [hb_]; decide)] at h_; exact h_)
           have GW415 := Aside0.mk (Q_GW415 (hon 8 (by kernel_rfl)))
           have GE415 := Aside0.mk (Q_GE415 (hon 8 (by kernel_rfl)))
           have NB393_415 := Aside0.mk (Q_NB393_415 (hon 8 (by kernel_rfl)))
           have NB415_393 := Aside0.mk (Q_NB415_393 (hon 8 (by kernel_rfl)))
           have NB394_415 := Aside0.mk (Q_NB394_415 (hon 8 (by kernel_rfl)))
           have NB415_394 := Aside0.mk (Q_NB415_394 (hon 8 (by kernel_rfl)))
           have HO414 := Aside0.mk (Q_HO414 (hon 4 (by kernel_rfl)))
           have hs65 : w'.cell? ⟨gb415, 0, none⟩ = some (.slice none 0 0) := (bqC BK415.out 0).trans rfl
           have hfs65 := bqF BK415.out 0
           have hns65_0 := NB393_415.out
           have hns65_1 := NB394_415.out
           have hms65_0 := NB415_393.out
           have hms65_1 := NB415_394.out
           obtain ⟨Aob_, cob_, eob_⟩ := Kd.R_slice HO414.out
           subst eob_
           refine skip_ (w1 := ?_) (by rfl) rfl ?_ ?_
           rotate_left
           ·go_simp
            rfl
           refine hK.out _ _ ⟨v409, .slice Aob_ t411.length cob_, gb415, m4_, m5_, m6_, m8_, (by rw [ha.out]; exact putSel_none (v := undef) rfl), (by (with_reducible repeat (first | apply Kd.R_alloc | apply Kd.R_drewN | apply Kd.R_drew)); exact Kd.R_mono (Kd.R_far (p := ⟨gb415, 0, none⟩) (Kd.R_types HO_33.out BK415.out (by decide)) (fun _ hk => hk.2) (.slice Aob_ t411.length cob_)) (fun _ _ => trivial)), (by (with_reducible repeat (first | apply Kd.R_alloc | apply Kd.R_drewN | apply Kd.R_drew)); exact Kd.R_mono (Kd.R_far (p := ⟨gb415, 0, none⟩) (Kd.R_types HO_9.out BK415.out (by decide)) (fun _ hk => hk.2) (.slice Aob_ t411.length cob_)) (fun _ _ => trivial)), (by (with_reducible repeat (first | refine bqN ?_ _ | refine bqD ?_ | refine bqA ?_ _)); refine blk_far ?_ NB393_415.out _; (with_reducible repeat (first | refine bqN ?_ _ | refine bqD ?_ | refine bqA ?_ _)); exact BK393.out), (by (with_reducible repeat (first | refine bqN ?_ _ | refine bqD ?_ | refine bqA ?_ _)); refine blk_far ?_ NB394_415.out _; (with_reducible repeat (first | refine bqN ?_ _ | refine bqD ?_ | refine bqA ?_ _)); exact BK394.out), (by repeat (first | (with_reducible first | exact HB.out | apply lqA | apply lqN | apply lqD | refine lqS ?_ GE393.out | refine lqS ?_ GE394.out | refine lqS ?_ GE415.out) | exact HB.out)), fun _ => (by (with_reducible repeat (first | apply Kd.R_alloc | apply Kd.R_drewN | apply Kd.R_drew)); exact Kd.R_mono (Kd.R_far (p := ⟨gb415, 0, none⟩) (Kd.R_types HO410.out BK415.out (by decide)) (fun _ hk => hk.2) (.slice Aob_ t411.length cob_)) (fun _ hk => trivial)), fun _ => (by (with_reducible repeat (first | refine bqN ?_ _ | refine bqD ?_ | refine bqA ?_ _)); refine bqP (cs := #[.slice none 0 0]) ?_ 0 _ rfl; (with_reducible repeat (first | refine bqN ?_ _ | refine bqD ?_ | refine bqA ?_ _)); exact BK415.out), fun _ => GW415.out, fun _ => GE415.out, fun _ => NB393_415.out, fun _ => NB415_393.out, fun _ => NB394_415.out, fun _ => NB415_394.out, fun _ => (by (with_reducible repeat (first | apply Kd.R_alloc | apply Kd.R_drewN | apply Kd.R_drew)); exact Kd.R_mono (Kd.R_far (p := ⟨gb415, 0, none⟩) (Kd.R_types HO414.out BK415.out (by decide)) (fun _ hk => hk.2) (.slice Aob_ t411.length cob_)) (fun _ _ => trivial)), Q_X4_, Q_X5_, Q_X6_, Q_X8_⟩
          refine steps_cons ?_ ?_
          ·rintro b a w' ⟨v409, v413, gb415, m4_, m5_, m6_, m8_, ha, Q_HO_33, Q_HO_9, Q_BK393, Q_BK394, Q_HB, Q_HO410, Q_BK415, Q_GW415, Q_GE415, Q_NB393_415, Q_NB415_393, Q_NB394_415, Q_NB415_394, Q_HO414, Q_X4_, Q_X5_, Q_X6_, Q_X8_⟩ hb_ hon hoff
           refine ⟨_, rfl, fun K hK => ?_⟩
           have e65 : a.tmps[65]? = some (.int .i64 t412) := by rw [ha]; exact putSel_on (e := (7, 65, .int .i64 t412)) 5 rfl rfl (hon 7 (by kernel_rfl)) rfl
           replace ha := Aside0.mk ha
           have HO_33 := Aside0.mk Q_HO_33
           have HO_9 := Aside0.mk Q_HO_9
           have BK393 := Aside0.mk Q_BK393
           have BK394 := Aside0.mk Q_BK394
           have HB := Aside0.mk Q_HB
           have HO410 := Aside0.mk (Q_HO410 (hon 1 (by kernel_rfl)))
           have BK415 := Aside0.mk (Q_BK415 (hon 8 (by kernel_rfl)))
           have GW415 := Aside0.mk (Q_GW415 (hon 8 (by kernel_rfl)))
           have GE415 := Aside0.mk (Q_GE415 (hon 8 (by kernel_rfl)))
           have NB393_415 := Aside0.mk (Q_NB393_415 (hon 8 (by kernel_rfl)))
           have NB415_393 := Aside0.mk (Q_NB415_393 (hon 8 (by kernel_rfl)))
           have NB394_415 := Aside0.mk (Q_NB394_415 (hon 8 (by kernel_rfl)))
           have NB415_394 := Aside0.mk (Q_NB415_394 (hon 8 (by kernel_rfl)))
           have HO414 := Aside0.mk (Q_HO414 (hon 4 (by kernel_rfl)))
           refine value_ (w1 := w') (v := .int .i64 t412) (by rfl) rfl ?_ ?_
           ·go_simp
            (try simp only [i64_w])
            try rfl
           refine hK.out _ _ ⟨v409, v413, gb415, m4_, m5_, m6_, m8_, (by rw [ha.out]; exact putSel_upk 7 hb_ rfl rfl rfl), Q_HO_33, Q_HO_9, Q_BK393, Q_BK394, Q_HB, Q_HO410, Q_BK415, Q_GW415, Q_GE415, Q_NB393_415, Q_NB415_393, Q_NB394_415, Q_NB415_394, Q_HO414, Q_X4_, Q_X5_, Q_X6_, Q_X8_⟩
          exact steps_nil
         rintro b a w65 hall ⟨v409, v413, gb415, m4_, m5_, m6_, m8_, ha, Q_HO_33, Q_HO_9, Q_BK393, Q_BK394, Q_HB, Q_HO410, Q_BK415, Q_GW415, Q_GE415, Q_NB393_415, Q_NB415_393, Q_NB394_415, Q_NB415_394, Q_HO414, Q_X4_, Q_X5_, Q_X6_, Q_X8_⟩
         clear BK393 BK394 HB HO_33 HO_9
         have hb1_ := hall 1 (by kernel_rfl)
         have hb3_ := hall 3 (by kernel_rfl)
         have hb4_ := hall 4 (by kernel_rfl)
         have hb5_ := hall 5 (by kernel_rfl)
         have hb6_ := hall 6 (by kernel_rfl)
         have hb7_ := hall 7 (by kernel_rfl)
         have hb8_ := hall 8 (by kernel_rfl)
         have hb9_ := hall 9 (by kernel_rfl)
         have hb10_ := hall 10 (by kernel_rfl)
         subst ha
         obtain rfl := Q_X4_ hb4_
         obtain rfl := Q_X5_ hb5_
         obtain rfl := (Q_X6_ hb6_).symm
         obtain rfl := Q_X8_ hb8_
         simp only [putSel, hb1_, hb3_, hb4_, hb5_, hb6_, hb7_, hb8_, hb9_, hb10_, if_true, Act.put, List.setIfInBounds_toArray, List.set_cons_zero, List.set_cons_succ]
         have HO_33 := Aside0.mk Q_HO_33
         clear Q_HO_33
         have HO_9 := Aside0.mk Q_HO_9
         clear Q_HO_9
         have BK393 := Aside0.mk Q_BK393
         clear Q_BK393
         have BK394 := Aside0.mk Q_BK394
         clear Q_BK394
         have HB := Aside0.mk Q_HB
         clear Q_HB
         have HO410 := Aside0.mk (Q_HO410 hb1_)
         clear Q_HO410
         have BK415 := Aside0.mk (by have h_ := Q_BK415 hb8_; rw [if_pos hb9_] at h_; exact h_)
         clear Q_BK415
         have GW415 := Aside0.mk (Q_GW415 hb8_)
         clear Q_GW415
         have GE415 := Aside0.mk (Q_GE415 hb8_)
         clear Q_GE415
         have NB393_415 := Aside0.mk (Q_NB393_415 hb8_)
         clear Q_NB393_415
         have NB415_393 := Aside0.mk (Q_NB415_393 hb8_)
         clear Q_NB415_393
         have NB394_415 := Aside0.mk (Q_NB394_415 hb8_)
         clear Q_NB394_415
         have NB415_394 := Aside0.mk (Q_NB415_394 hb8_)
         clear Q_NB415_394
         have HO414 := Aside0.mk (Q_HO414 hb4_)
         clear Q_HO414
         clear hall hb1_ hb3_ hb4_ hb5_ hb6_ hb7_ hb8_ hb9_ hb10_
         have hnb66 := NB393_394.out
         have hnc66 := NB394_393.out
         have hnb67 := NB393_415.out
         have hnc67 := NB415_393.out
         have hcz68_0 : w65.cell? ⟨gb393, 0, none⟩ = some (.int .i64 a1) := (bqC BK393.out 0).trans rfl
         have hfz68_0 := bqF BK393.out 0
         obtain ⟨Ao69, co69, eo69⟩ := Kd.R_slice HO414.out
         subst eo69
         try go_wp2_with (first | (go_at_call 23; (with_reducible refine (contB.calls _ _ t399 Ao69 co69 t411 t416 _ ?side1 ?side2 ?side3 ?side4 A58.out 24 gb415 (.inl rfl) ?side5).mono ?_); (case side5 => exact (by (with_reducible repeat (first | refine bqN ?_ _ | refine bqD ?_ | refine bqA ?_ _)); exact BK415.out)); (case side1 => repeat (first | exact (Kd.R_reads' HO_9.out).2.2 | (with_reducible refine Kd.C_alloc ?_ _) | (with_reducible refine Kd.C_drewN ?_ _) | (with_reducible refine Kd.C_drew ?_))); (case side2 => exact (Kd.R_reads' HO_9.out).2.1); (case side3 => repeat (first | exact (Kd.R_reads' HO414.out).2.2 | (with_reducible refine Kd.C_alloc ?_ _) | (with_reducible refine Kd.C_drewN ?_ _) | (with_reducible refine Kd.C_drew ?_))); (case side4 => exact (Kd.R_reads' HO414.out).2.1); rintro e w70 ⟨rfl, hb⟩; have n0_ := Aside0.mk (Kd.R_below (by (with_reducible repeat (first | apply Kd.R_alloc | apply Kd.R_drewN | apply Kd.R_drew)); exact HO_9.out) hb); have n1_ := Aside0.mk (Kd.R_below (by (with_reducible repeat (first | apply Kd.R_alloc | apply Kd.R_drewN | apply Kd.R_drew)); exact HO_33.out) hb); have n2_ := Aside0.mk (Kd.R_below (by (with_reducible repeat (first | apply Kd.R_alloc | apply Kd.R_drewN | apply Kd.R_drew)); exact HO410.out) hb); have n3_ := Aside0.mk (Kd.R_below (by (with_reducible repeat (first | apply Kd.R_alloc | apply Kd.R_drewN | apply Kd.R_drew)); exact HO414.out) hb); have n4_ := Aside0.mk (bqB (g := gb393) (o := .cells #[.int .i64 a1] 3 (0, 0)) (by (with_reducible repeat (first | refine bqN ?_ _ | refine bqD ?_ | refine bqA ?_ _)); exact BK393.out) hb); have n5_ := Aside0.mk (bqB (g := gb394) (o := .cells #[.int .i64 a3] 3 (0, 0)) (by (with_reducible repeat (first | refine bqN ?_ _ | refine bqD ?_ | refine bqA ?_ _)); exact BK394.out) hb); have n6_ := Aside0.mk (bqB (g := gb415) (o := .cells #[.slice Ao69 t411.length co69] 28 (0, 0)) (by (with_reducible repeat (first | refine bqN ?_ _ | refine bqD ?_ | refine bqA ?_ _)); exact BK415.out) hb); have n7_ := Aside0.mk (lqT (by repeat (first | (with_reducible first | exact HB.out | apply lqA | apply lqN | apply lqD | refine lqS ?_ GE393.out | refine lqS ?_ GE394.out | refine lqS ?_ GE415.out) | exact HB.out)) hb); clear HO_9; clear HO_33; clear HO410; clear HO414; clear BK393; clear BK394; clear BK415; clear HB; have HO_9 := n0_; have HO_33 := n1_; have HO410 := n2_; have HO414 := n3_; have BK393 := n4_; have BK394 := n5_; have BK415 := n6_; have HB := n7_; clear n0_ n1_ n2_ n3_ n4_ n5_ n6_ n7_; (try clear hb); (try clear hb2); (try clear hk); (try clear hi)))
         go_ret
         exact ⟨by first | rfl | (simp [errW_none, errW_some] <;> rfl) | (simp [*, errW_none, errW_some] <;> rfl), by repeat (first | (with_reducible first | exact HB.out | apply lqA | apply lqN | apply lqD | refine lqS ?_ GE393.out | refine lqS ?_ GE394.out | refine lqS ?_ GE415.out) | exact HB.out)⟩
       ·rw [if_neg c46] at H
        have c46b0 : (t412 == 0) = false := beq_eq_false_iff_ne.mpr c46
        try simp only [beq_self_eq_true, Bool.not_true, Bool.false_or, Bool.true_and] at c46b0
        have c46b1 : (t412 != 0) = true := bne_iff_ne.mpr c46
        obtain rfl := Option.some.inj H
        try go_wp2
        have n0_ := Aside0.mk (Kd.R_drew HO_9.out)
        have n1_ := Aside0.mk (Kd.R_drew HO_33.out)
        have n2_ := Aside0.mk (bqD BK393.out)
        have n3_ := Aside0.mk (bqD BK394.out)
        have n4_ := Aside0.mk (lqD HB.out)
        clear HO_9
        clear HO_33
        clear BK393
        clear BK394
        clear HB
        have HO_9 := n0_
        have HO_33 := n1_
        have BK393 := n2_
        have BK394 := n3_
        have HB := n4_
        clear n0_ n1_ n2_ n3_ n4_
        refine start_ (n := 11) (S := fun w' => True) (ds := []) #[false, false, false, false, false, false, false, false, false, false, false] (by kernel_rfl) rfl rfl trivial (fun hHeld => ?_); refine with_tabW spilelaw39_SealOnce.tab14 spilelaw39_SealOnce.bits14 (fun HT_ HW_ => ?_)
        generalize wr.drew = w71 at HO_9 HO_33 BK393 BK394 HB hHeld ⊢
        refine pure_ (i := 0) (N := some 59) (v := ?_) (a' := ?_) #[true, false, false, false, false, false, false, false, false, false, false] rfl rfl (any_of HT_.out (by kernel_rfl)) (fun _ _ _ h => h) (Or.inl ⟨by rfl, ?_⟩) ?_ ?_
        rotate_left
        ·intro w'
         go_simp
         with_reducible rfl
        rotate_left
        ·simp only [Act.put, List.setIfInBounds_toArray, List.set_cons_zero, List.set_cons_succ, i64_w, i32_w]
         rfl
        refine pure_ (i := 2) (N := some 61) (v := ?_) (a' := ?_) #[true, false, true, false, false, false, false, false, false, false, false] rfl rfl (any_of HT_.out (by kernel_rfl)) (fun _ _ _ h => h) (Or.inl ⟨by rfl, ?_⟩) ?_ ?_
        rotate_left
        ·intro w'
         go_simp
         with_reducible rfl
        rotate_left
        ·simp only [Act.put, List.setIfInBounds_toArray, List.set_cons_zero, List.set_cons_succ, i64_w, i32_w]
         rfl
        refine inv_at [1, 3, 4, 5, 6, 7, 8, 9, 10] (fun a0_ b a w' => ∃ (v409 : Value) (v413 : Value) (gb415 : Nat) (m4_ : Value) (m5_ : Value) (m6_ : Value) (m8_ : Value), a = putSel a0_ b [(1, 60, v409), (3, 62, .int .i64 a3), (4, 63, m4_), (5, 58, m5_), (6, 64, m6_), (7, 65, .int .i64 t412), (8, 13, m8_), (10, 14, .int .i64 t412)] ∧ (Kd.R (Kd.int .i64) 3 w' w.heap.size (fun _ => True) (.slice Ao21 t399.length co21) t399) ∧ (Kd.R (Kd.int .i64) 3 w' w.heap.size (fun _ => True) (.slice Ao21 t399.length co21) t399) ∧ (w'.heap[gb393]? = some (.cells #[.int .i64 a1] 3 (0, 0))) ∧ (w'.heap[gb394]? = some (.cells #[.int .i64 a3] 3 (0, 0))) ∧ (Below w.heap.size w w') ∧ (b 1 = true → Kd.R k34 34 w' w.heap.size (fun _ => True) v409 t408) ∧ (b 8 = true → w'.heap[gb415]? = some (.cells #[if b 9 = true then v413 else .slice none 0 0] 28 (0, 0))) ∧ (b 8 = true → w.heap.size ≤ gb415) ∧ (b 8 = true → w.heap.size ≤ gb415) ∧ (b 8 = true → gb393 ≠ gb415) ∧ (b 8 = true → gb415 ≠ gb393) ∧ (b 8 = true → gb394 ≠ gb415) ∧ (b 8 = true → gb415 ≠ gb394) ∧ (b 4 = true → Kd.R (Kd.int .i64) 3 w' w.heap.size (fun _ => True) v413 t411) ∧ (b 4 = true → (m4_ : Value) = .tuple #[v413, .int .i64 t412]) ∧ (b 5 = true → (m5_ : Value) = .tuple #[v413, .int .i64 t412]) ∧ (b 6 = true → (m6_ : Value) = v413) ∧ (b 8 = true → (m8_ : Value) = .pointer (some ⟨gb415, 0, none⟩))) HT_.out HW_.out (by kernel_rfl) (by kernel_rfl) ?_ ?_ ?_
        ·exact ⟨.bool false, .bool false, 0, .bool false, .bool false, .bool false, .bool false, by simp only [putSel, Bool.false_eq_true, if_false], Kd.R_mono HO_33.out (fun _ _ => trivial), Kd.R_mono HO_9.out (fun _ _ => trivial), BK393.out, BK394.out, HB.out, fun h_ => absurd h_ (by decide), fun h_ => absurd h_ (by decide), fun h_ => absurd h_ (by decide), fun h_ => absurd h_ (by decide), fun h_ => absurd h_ (by decide), fun h_ => absurd h_ (by decide), fun h_ => absurd h_ (by decide), fun h_ => absurd h_ (by decide), fun h_ => absurd h_ (by decide), fun h_ => absurd h_ (by decide), fun h_ => absurd h_ (by decide), fun h_ => absurd h_ (by decide), fun h_ => absurd h_ (by decide)⟩
        ·skip
         clear BK393 BK394 HB HO_33 HO_9
         refine steps_cons ?_ ?_
         ·rintro b a w' ⟨v409, v413, gb415, m4_, m5_, m6_, m8_, ha, Q_HO_33, Q_HO_9, Q_BK393, Q_BK394, Q_HB, Q_HO410, Q_BK415, Q_GW415, Q_GE415, Q_NB393_415, Q_NB415_393, Q_NB394_415, Q_NB415_394, Q_HO414, Q_X4_, Q_X5_, Q_X6_, Q_X8_⟩ hb_ hon hoff
          refine ⟨_, rfl, fun K hK => ?_⟩
          have e59 : a.tmps[59]? = some (.slice A0 l0.length c0) := by rw [ha]; exact (putSel_off rfl).trans rfl
          replace ha := Aside0.mk ha
          have HO_33 := Aside0.mk Q_HO_33
          have HO_9 := Aside0.mk Q_HO_9
          have BK393 := Aside0.mk Q_BK393
          have BK394 := Aside0.mk Q_BK394
          have HB := Aside0.mk Q_HB
          refine goes_ Try.func14 (by kernel_rfl) rfl #[.slice A0 l0.length c0] (by rfl) rfl rfl (by first | (simp only [List.map_toArray, List.map_cons, List.map_nil, Act.eval, Array.getD_eq_getD_getElem?, Option.getD_some, e59]; done) | (simp only [List.map_toArray, List.map_cons, List.map_nil, Act.eval, Array.getD_eq_getD_getElem?, Option.getD_some, e59]; rfl)) ?_
          with_reducible refine (clone34.calls _ _ l0 t408 _ ?side1 ?side2 A44.out).mono ?_
          (case side1 => repeat (first | exact (Kd.C_below HR0.out HB.out) | (with_reducible refine Kd.C_alloc ?_ _) | (with_reducible refine Kd.C_drewN ?_ _) | (with_reducible refine Kd.C_drew ?_)))
          (case side2 => exact HC0.out)
          rintro e w72 ⟨v409, rfl, ho0, hb⟩
          refine ⟨_, rfl, ?_⟩
          have n0_ := Aside0.mk (Kd.R_below (by (with_reducible repeat (first | apply Kd.R_alloc | apply Kd.R_drewN | apply Kd.R_drew)); exact HO_9.out) hb)
          have n1_ := Aside0.mk (Kd.R_below (by (with_reducible repeat (first | apply Kd.R_alloc | apply Kd.R_drewN | apply Kd.R_drew)); exact HO_33.out) hb)
          have n2_ := Aside0.mk (Kd.R_lower ho0 (lqZ (by repeat (first | (with_reducible first | exact HB.out | apply lqA | apply lqN | apply lqD | refine lqS ?_ GE393.out | refine lqS ?_ GE394.out) | exact HB.out))))
          have n3_ := Aside0.mk (bqB (g := gb393) (o := .cells #[.int .i64 a1] 3 (0, 0)) (by (with_reducible repeat (first | refine bqN ?_ _ | refine bqD ?_ | refine bqA ?_ _)); exact BK393.out) hb)
          have n4_ := Aside0.mk (bqB (g := gb394) (o := .cells #[.int .i64 a3] 3 (0, 0)) (by (with_reducible repeat (first | refine bqN ?_ _ | refine bqD ?_ | refine bqA ?_ _)); exact BK394.out) hb)
          have n5_ := Aside0.mk (lqT (by repeat (first | (with_reducible first | exact HB.out | apply lqA | apply lqN | apply lqD | refine lqS ?_ GE393.out | refine lqS ?_ GE394.out) | exact HB.out)) hb)
          have z_BK415 := fun (h0_ : b 8 = true) => (show w72.heap[gb415]? = some (.cells #[if b 9 = true then v413 else .slice none 0 0] 28 (0, 0)) from by have h_ := Q_BK415 h0_; rw [if_neg (by rw [hoff 9 (by kernel_rfl)]; decide)] at h_ ⊢; first | exact (bqB (g := gb415) (o := .cells #[.slice none 0 0] 28 (0, 0)) (by (with_reducible repeat (first | refine bqN ?_ _ | refine bqD ?_ | refine bqA ?_ _)); exact h_) hb))
          clear HO_9
          clear HO_33
          clear BK393
          clear BK394
          clear HB
          have HO_9 := n0_
          have HO_33 := n1_
          have HO410 := n2_
          have BK393 := n3_
          have BK394 := n4_
          have HB := n5_
          clear n0_ n1_ n2_ n3_ n4_ n5_
          (try clear hb)
          (try clear hb2)
          (try clear hk)
          (try clear hi)
          (try clear ho0)
          refine hK.out _ _ ⟨v409, v413, gb415, m4_, m5_, m6_, m8_, (by rw [ha.out]; exact putSel_upk 0 hb_ rfl rfl rfl), (by (with_reducible repeat (first | apply Kd.R_alloc | apply Kd.R_drewN | apply Kd.R_drew)); exact Kd.R_mono HO_33.out (fun _ _ => trivial)), (by (with_reducible repeat (first | apply Kd.R_alloc | apply Kd.R_drewN | apply Kd.R_drew)); exact Kd.R_mono HO_9.out (fun _ _ => trivial)), (by (with_reducible repeat (first | refine bqN ?_ _ | refine bqD ?_ | refine bqA ?_ _)); exact BK393.out), (by (with_reducible repeat (first | refine bqN ?_ _ | refine bqD ?_ | refine bqA ?_ _)); exact BK394.out), (by repeat (first | (with_reducible first | exact HB.out | apply lqA | apply lqN | apply lqD | refine lqS ?_ GE393.out | refine lqS ?_ GE394.out) | exact HB.out)), fun _ => (by (with_reducible repeat (first | apply Kd.R_alloc | apply Kd.R_drewN | apply Kd.R_drew)); exact Kd.R_mono HO410.out (fun _ _ => trivial)), z_BK415, Q_GW415, Q_GE415, Q_NB393_415, Q_NB415_393, Q_NB394_415, Q_NB415_394, fun h0_ => absurd ((hoff 4 (by kernel_rfl)).symm.trans h0_) (by decide), fun h0_ => absurd ((hoff 4 (by kernel_rfl)).symm.trans h0_) (by decide), fun h0_ => absurd ((hoff 5 (by kernel_rfl)).symm.trans h0_) (by decide), fun h0_ => absurd ((hoff 6 (by kernel_rfl)).symm.trans h0_) (by decide), Q_X8_⟩
         refine steps_cons ?_ ?_
         ·rintro b a w' ⟨v409, v413, gb415, m4_, m5_, m6_, m8_, ha, Q_HO_33, Q_HO_9, Q_BK393, Q_BK394, Q_HB, Q_HO410, Q_BK415, Q_GW415, Q_GE415, Q_NB393_415, Q_NB415_393, Q_NB394_415, Q_NB415_394, Q_HO414, Q_X4_, Q_X5_, Q_X6_, Q_X8_⟩ hb_ hon hoff
          refine ⟨_, rfl, fun K hK => ?_⟩
          have e7 : a.tmps[7]? = some (.pointer (some ⟨gb394, 0, none⟩)) := by rw [ha]; exact (putSel_off rfl).trans rfl
          replace ha := Aside0.mk ha
          have HO_33 := Aside0.mk Q_HO_33
          have HO_9 := Aside0.mk Q_HO_9
          have BK393 := Aside0.mk Q_BK393
          have BK394 := Aside0.mk Q_BK394
          have HB := Aside0.mk Q_HB
          have hc0_ : w'.cell? ⟨gb394, 0, none⟩ = some (.int .i64 a3) := (bqC BK394.out 0).trans rfl
          refine value_ (w1 := w') (v := .int .i64 a3) (by rfl) rfl ?_ ?_
          ·go_simp
           (try simp only [i64_w])
           try rfl
          refine hK.out _ _ ⟨v409, v413, gb415, m4_, m5_, m6_, m8_, (by rw [ha.out]; exact putSel_upk 1 hb_ rfl rfl rfl), Q_HO_33, Q_HO_9, Q_BK393, Q_BK394, Q_HB, Q_HO410, Q_BK415, Q_GW415, Q_GE415, Q_NB393_415, Q_NB415_393, Q_NB394_415, Q_NB415_394, fun h0_ => absurd ((hoff 4 (by kernel_rfl)).symm.trans h0_) (by decide), fun h0_ => absurd ((hoff 4 (by kernel_rfl)).symm.trans h0_) (by decide), fun h0_ => absurd ((hoff 5 (by kernel_rfl)).symm.trans h0_) (by decide), fun h0_ => absurd ((hoff 6 (by kernel_rfl)).symm.trans h0_) (by decide), Q_X8_⟩
         refine steps_cons ?_ ?_
         ·rintro b a w' ⟨v409, v413, gb415, m4_, m5_, m6_, m8_, ha, Q_HO_33, Q_HO_9, Q_BK393, Q_BK394, Q_HB, Q_HO410, Q_BK415, Q_GW415, Q_GE415, Q_NB393_415, Q_NB415_393, Q_NB394_415, Q_NB415_394, Q_HO414, Q_X4_, Q_X5_, Q_X6_, Q_X8_⟩ hb_ hon hoff
          refine ⟨_, rfl, fun K hK => ?_⟩
          have e60 : a.tmps[60]? = some (v409) := by rw [ha]; exact putSel_on (e := (1, 60, v409)) 0 rfl rfl (hon 1 (by kernel_rfl)) rfl
          have e61 : a.tmps[61]? = some (.int .i64 a2) := by rw [ha]; exact (putSel_off rfl).trans rfl
          have e62 : a.tmps[62]? = some (.int .i64 a3) := by rw [ha]; exact putSel_on (e := (3, 62, .int .i64 a3)) 1 rfl rfl (hon 3 (by kernel_rfl)) rfl
          replace ha := Aside0.mk ha
          have HO_33 := Aside0.mk Q_HO_33
          have HO_9 := Aside0.mk Q_HO_9
          have BK393 := Aside0.mk Q_BK393
          have BK394 := Aside0.mk Q_BK394
          have HB := Aside0.mk Q_HB
          have HO410 := Aside0.mk (Q_HO410 (hon 1 (by kernel_rfl)))
          obtain ⟨Ao74, co74, eo74⟩ := Kd.R_slice HO410.out
          (first | subst eo74 | (injection eo74 with f1_ f2_ f3_; have f4_ := f1_.symm; have f5_ := f3_.symm; clear f1_ f2_ f3_; subst f4_; subst f5_))
          refine goes_ Try.func13 (by kernel_rfl) rfl #[.slice Ao74 t408.length co74, .int .i64 a2, .int .i64 a3] (by rfl) rfl rfl (by first | (simp only [List.map_toArray, List.map_cons, List.map_nil, Act.eval, Array.getD_eq_getD_getElem?, Option.getD_some, e60, e61, e62]; done) | (simp only [List.map_toArray, List.map_cons, List.map_nil, Act.eval, Array.getD_eq_getD_getElem?, Option.getD_some, e60, e61, e62]; rfl)) ?_
          with_reducible refine (seal_Intact.calls _ _ t408 a2 a3 t411 t412 _ ?side1 ?side2 A45.out).mono ?_
          (case side1 => repeat (first | exact (Kd.R_reads' HO410.out).2.2 | (with_reducible refine Kd.C_alloc ?_ _) | (with_reducible refine Kd.C_drewN ?_ _) | (with_reducible refine Kd.C_drew ?_)))
          (case side2 => exact (Kd.R_reads' HO410.out).2.1)
          rintro e w75 ⟨v413, rfl, ho0, hb⟩
          refine ⟨_, rfl, ?_⟩
          have n0_ := Aside0.mk (Kd.R_elder' (by (with_reducible repeat (first | apply Kd.R_alloc | apply Kd.R_drewN | apply Kd.R_drew)); exact HO_9.out) (Kd.R_base ho0) hb)
          have n1_ := Aside0.mk (Kd.R_elder' (by (with_reducible repeat (first | apply Kd.R_alloc | apply Kd.R_drewN | apply Kd.R_drew)); exact HO_33.out) (Kd.R_base ho0) hb)
          have n2_ := Aside0.mk (Kd.R_below (by (with_reducible repeat (first | apply Kd.R_alloc | apply Kd.R_drewN | apply Kd.R_drew)); exact HO410.out) hb)
          have n3_ := Aside0.mk (Kd.R_lower (Kd.R_new' (Kd.R_new' ho0 (Kd.R_lt (by (with_reducible repeat (first | apply Kd.R_alloc | apply Kd.R_drewN | apply Kd.R_drew)); exact HO_9.out))) (Kd.R_lt (by (with_reducible repeat (first | apply Kd.R_alloc | apply Kd.R_drewN | apply Kd.R_drew)); exact HO_33.out))) (lqZ (by repeat (first | (with_reducible first | exact HB.out | apply lqA | apply lqN | apply lqD | refine lqS ?_ GE393.out | refine lqS ?_ GE394.out) | exact HB.out))))
          have n4_ := Aside0.mk (bqB (g := gb393) (o := .cells #[.int .i64 a1] 3 (0, 0)) (by (with_reducible repeat (first | refine bqN ?_ _ | refine bqD ?_ | refine bqA ?_ _)); exact BK393.out) hb)
          have n5_ := Aside0.mk (bqB (g := gb394) (o := .cells #[.int .i64 a3] 3 (0, 0)) (by (with_reducible repeat (first | refine bqN ?_ _ | refine bqD ?_ | refine bqA ?_ _)); exact BK394.out) hb)
          have n6_ := Aside0.mk (lqT (by repeat (first | (with_reducible first | exact HB.out | apply lqA | apply lqN | apply lqD | refine lqS ?_ GE393.out | refine lqS ?_ GE394.out) | exact HB.out)) hb)
          have z_BK415 := fun (h0_ : b 8 = true) => (show w75.heap[gb415]? = some (.cells #[if b 9 = true then v413 else .slice none 0 0] 28 (0, 0)) from by have h_ := Q_BK415 h0_; rw [if_neg (by rw [hoff 9 (by kernel_rfl)]; decide)] at h_ ⊢; first | exact (bqB (g := gb415) (o := .cells #[.slice none 0 0] 28 (0, 0)) (by (with_reducible repeat (first | refine bqN ?_ _ | refine bqD ?_ | refine bqA ?_ _)); exact h_) hb))
          clear HO_9
          clear HO_33
          clear HO410
          clear BK393
          clear BK394
          clear HB
          have HO_9 := n0_
          have HO_33 := n1_
          have HO410 := n2_
          have HO414 := n3_
          have BK393 := n4_
          have BK394 := n5_
          have HB := n6_
          clear n0_ n1_ n2_ n3_ n4_ n5_ n6_
          (try clear hb)
          (try clear hb2)
          (try clear hk)
          (try clear hi)
          (try clear ho0)
          refine hK.out _ _ ⟨.slice Ao74 t408.length co74, v413, gb415, (.tuple #[v413, .int .i64 t412]), m5_, m6_, m8_, (by rw [ha.out]; exact putSel_upk 2 hb_ rfl rfl rfl), (by (with_reducible repeat (first | apply Kd.R_alloc | apply Kd.R_drewN | apply Kd.R_drew)); exact Kd.R_mono HO_33.out (fun _ _ => trivial)), (by (with_reducible repeat (first | apply Kd.R_alloc | apply Kd.R_drewN | apply Kd.R_drew)); exact Kd.R_mono HO_9.out (fun _ _ => trivial)), (by (with_reducible repeat (first | refine bqN ?_ _ | refine bqD ?_ | refine bqA ?_ _)); exact BK393.out), (by (with_reducible repeat (first | refine bqN ?_ _ | refine bqD ?_ | refine bqA ?_ _)); exact BK394.out), (by repeat (first | (with_reducible first | exact HB.out | apply lqA | apply lqN | apply lqD | refine lqS ?_ GE393.out | refine lqS ?_ GE394.out) | exact HB.out)), fun _ => (by (with_reducible repeat (first | apply Kd.R_alloc | apply Kd.R_drewN | apply Kd.R_drew)); exact Kd.R_mono HO410.out (fun _ _ => trivial)), z_BK415, Q_GW415, Q_GE415, Q_NB393_415, Q_NB415_393, Q_NB394_415, Q_NB415_394, fun _ => (by (with_reducible repeat (first | apply Kd.R_alloc | apply Kd.R_drewN | apply Kd.R_drew)); exact Kd.R_mono HO414.out (fun _ _ => trivial)), fun _ => rfl, fun h0_ => absurd ((hoff 5 (by kernel_rfl)).symm.trans h0_) (by decide), fun h0_ => absurd ((hoff 6 (by kernel_rfl)).symm.trans h0_) (by decide), Q_X8_⟩
         refine steps_cons ?_ ?_
         ·rintro b a w' ⟨v409, v413, gb415, m4_, m5_, m6_, m8_, ha, Q_HO_33, Q_HO_9, Q_BK393, Q_BK394, Q_HB, Q_HO410, Q_BK415, Q_GW415, Q_GE415, Q_NB393_415, Q_NB415_393, Q_NB394_415, Q_NB415_394, Q_HO414, Q_X4_, Q_X5_, Q_X6_, Q_X8_⟩ hb_ hon hoff
          refine ⟨_, rfl, fun K hK => ?_⟩
          have e63 : a.tmps[63]? = some (m4_) := by rw [ha]; exact putSel_on (e := (4, 63, m4_)) 2 rfl rfl (hon 4 (by kernel_rfl)) rfl
          rw [Q_X4_ (hon 4 (by kernel_rfl))] at e63
          replace ha := Aside0.mk ha
          have HO_33 := Aside0.mk Q_HO_33
          have HO_9 := Aside0.mk Q_HO_9
          have BK393 := Aside0.mk Q_BK393
          have BK394 := Aside0.mk Q_BK394
          have HB := Aside0.mk Q_HB
          have HO410 := Aside0.mk (Q_HO410 (hon 1 (by kernel_rfl)))
          have HO414 := Aside0.mk (Q_HO414 (hon 4 (by kernel_rfl)))
          refine value_ (w1 := w') (v := .tuple #[v413, .int .i64 t412]) (by rfl) rfl ?_ ?_
          ·go_simp
           (try simp only [i64_w])
           try rfl
          refine hK.out _ _ ⟨v409, v413, gb415, m4_, (.tuple #[v413, .int .i64 t412]), m6_, m8_, (by rw [ha.out]; exact putSel_upk 3 hb_ rfl rfl rfl), Q_HO_33, Q_HO_9, Q_BK393, Q_BK394, Q_HB, Q_HO410, Q_BK415, Q_GW415, Q_GE415, Q_NB393_415, Q_NB415_393, Q_NB394_415, Q_NB415_394, Q_HO414, Q_X4_, fun _ => rfl, fun h0_ => absurd ((hoff 6 (by kernel_rfl)).symm.trans h0_) (by decide), Q_X8_⟩
         refine steps_cons ?_ ?_
         ·rintro b a w' ⟨v409, v413, gb415, m4_, m5_, m6_, m8_, ha, Q_HO_33, Q_HO_9, Q_BK393, Q_BK394, Q_HB, Q_HO410, Q_BK415, Q_GW415, Q_GE415, Q_NB393_415, Q_NB415_393, Q_NB394_415, Q_NB415_394, Q_HO414, Q_X4_, Q_X5_, Q_X6_, Q_X8_⟩ hb_ hon hoff
          refine ⟨_, rfl, fun K hK => ?_⟩
          have e58 : a.tmps[58]? = some (m5_) := by rw [ha]; exact putSel_on (e := (5, 58, m5_)) 3 rfl rfl (hon 5 (by kernel_rfl)) rfl
          rw [Q_X5_ (hon 5 (by kernel_rfl))] at e58
          replace ha := Aside0.mk ha
          have HO_33 := Aside0.mk Q_HO_33
          have HO_9 := Aside0.mk Q_HO_9
          have BK393 := Aside0.mk Q_BK393
          have BK394 := Aside0.mk Q_BK394
          have HB := Aside0.mk Q_HB
          have HO410 := Aside0.mk (Q_HO410 (hon 1 (by kernel_rfl)))
          have HO414 := Aside0.mk (Q_HO414 (hon 4 (by kernel_rfl)))
          obtain ⟨Ao6_0, co6_0, eo_⟩ := Kd.R_slice HO414.out
          subst eo_
          refine value_ (w1 := w') (v := .slice Ao6_0 t411.length co6_0) (by rfl) rfl ?_ ?_
          ·go_simp
           (try simp only [i64_w])
           try rfl
          refine hK.out _ _ ⟨v409, .slice Ao6_0 t411.length co6_0, gb415, m4_, m5_, (.slice Ao6_0 t411.length co6_0), m8_, (by rw [ha.out]; exact putSel_upk 4 hb_ rfl rfl rfl), Q_HO_33, Q_HO_9, Q_BK393, Q_BK394, Q_HB, Q_HO410, Q_BK415, Q_GW415, Q_GE415, Q_NB393_415, Q_NB415_393, Q_NB394_415, Q_NB415_394, Q_HO414, Q_X4_, Q_X5_, fun _ => rfl, Q_X8_⟩
         refine steps_cons ?_ ?_
         ·rintro b a w' ⟨v409, v413, gb415, m4_, m5_, m6_, m8_, ha, Q_HO_33, Q_HO_9, Q_BK393, Q_BK394, Q_HB, Q_HO410, Q_BK415, Q_GW415, Q_GE415, Q_NB393_415, Q_NB415_393, Q_NB394_415, Q_NB415_394, Q_HO414, Q_X4_, Q_X5_, Q_X6_, Q_X8_⟩ hb_ hon hoff
          refine ⟨_, rfl, fun K hK => ?_⟩
          have e58 : a.tmps[58]? = some (m5_) := by rw [ha]; exact putSel_on (e := (5, 58, m5_)) 3 rfl rfl (hon 5 (by kernel_rfl)) rfl
          rw [Q_X5_ (hon 5 (by kernel_rfl))] at e58
          replace ha := Aside0.mk ha
          have HO_33 := Aside0.mk Q_HO_33
          have HO_9 := Aside0.mk Q_HO_9
          have BK393 := Aside0.mk Q_BK393
          have BK394 := Aside0.mk Q_BK394
          have HB := Aside0.mk Q_HB
          have HO410 := Aside0.mk (Q_HO410 (hon 1 (by kernel_rfl)))
          have HO414 := Aside0.mk (Q_HO414 (hon 4 (by kernel_rfl)))
          obtain ⟨Ao7_0, co7_0, eo_⟩ := Kd.R_slice HO414.out
          subst eo_
          refine value_ (w1 := w') (v := .int .i64 t412) (by rfl) rfl ?_ ?_
          ·go_simp
           (try simp only [i64_w])
           try rfl
          refine hK.out _ _ ⟨v409, .slice Ao7_0 t411.length co7_0, gb415, m4_, m5_, m6_, m8_, (by rw [ha.out]; exact putSel_upk 5 hb_ rfl rfl rfl), Q_HO_33, Q_HO_9, Q_BK393, Q_BK394, Q_HB, Q_HO410, Q_BK415, Q_GW415, Q_GE415, Q_NB393_415, Q_NB415_393, Q_NB394_415, Q_NB415_394, Q_HO414, Q_X4_, Q_X5_, Q_X6_, Q_X8_⟩
         refine steps_cons ?_ ?_
         ·rintro b a w' ⟨v409, v413, gb415, m4_, m5_, m6_, m8_, ha, Q_HO_33, Q_HO_9, Q_BK393, Q_BK394, Q_HB, Q_HO410, Q_BK415, Q_GW415, Q_GE415, Q_NB393_415, Q_NB415_393, Q_NB394_415, Q_NB415_394, Q_HO414, Q_X4_, Q_X5_, Q_X6_, Q_X8_⟩ hb_ hon hoff
          refine ⟨_, rfl, fun K hK => ?_⟩
          replace ha := Aside0.mk ha
          have HO_33 := Aside0.mk Q_HO_33
          have HO_9 := Aside0.mk Q_HO_9
          have BK393 := Aside0.mk Q_BK393
          have BK394 := Aside0.mk Q_BK394
          have HB := Aside0.mk Q_HB
          refine box_step ?hg (N := 13) ?hd (cs := #[.slice none 0 0]) (t := 28) ?hr ?_; (case hd => rfl); (case hg => rfl); (case hr => first | (go_simp; done) | (go_simp; rfl))
          intro gb415 hg w72 hbox hb
          have n0_ := Aside0.mk (Kd.R_below (by (with_reducible repeat (first | apply Kd.R_alloc | apply Kd.R_drewN | apply Kd.R_drew)); exact HO_9.out) hb)
          have n1_ := Aside0.mk (Kd.R_below (by (with_reducible repeat (first | apply Kd.R_alloc | apply Kd.R_drewN | apply Kd.R_drew)); exact HO_33.out) hb)
          have n2_ := Aside0.mk (bqB (g := gb393) (o := .cells #[.int .i64 a1] 3 (0, 0)) (by (with_reducible repeat (first | refine bqN ?_ _ | refine bqD ?_ | refine bqA ?_ _)); exact BK393.out) hb)
          have n3_ := Aside0.mk (bqB (g := gb394) (o := .cells #[.int .i64 a3] 3 (0, 0)) (by (with_reducible repeat (first | refine bqN ?_ _ | refine bqD ?_ | refine bqA ?_ _)); exact BK394.out) hb)
          have n4_ := Aside0.mk (lqT (by repeat (first | (with_reducible first | exact HB.out | apply lqA | apply lqN | apply lqD | refine lqS ?_ GE393.out | refine lqS ?_ GE394.out) | exact HB.out)) hb)
          have n5_ := Aside0.mk (hbox)
          have n6_ := Aside0.mk ((by rw [hg]; exact (lqZ (by repeat (first | (with_reducible first | exact HB.out | apply lqA | apply lqN | apply lqD | refine lqS ?_ GE393.out | refine lqS ?_ GE394.out) | exact HB.out))) : w.heap.size ≤ gb415))
          have n7_ := Aside0.mk ((by rw [hg]; exact (lqZ (by repeat (first | (with_reducible first | exact HB.out | apply lqA | apply lqN | apply lqD | refine lqS ?_ GE393.out | refine lqS ?_ GE394.out) | exact HB.out))) : w.heap.size ≤ gb415))
          have n8_ := Aside0.mk ((by rw [hg]; exact Nat.ne_of_lt (blk_lt (g := gb393) (o := .cells #[.int .i64 a1] 3 (0, 0)) (by (with_reducible repeat (first | refine bqN ?_ _ | refine bqD ?_ | refine bqA ?_ _)); exact BK393.out)) : gb393 ≠ gb415))
          have n9_ := Aside0.mk ((by rw [hg]; exact Nat.ne_of_gt (blk_lt (g := gb393) (o := .cells #[.int .i64 a1] 3 (0, 0)) (by (with_reducible repeat (first | refine bqN ?_ _ | refine bqD ?_ | refine bqA ?_ _)); exact BK393.out)) : gb415 ≠ gb393))
          have n10_ := Aside0.mk ((by rw [hg]; exact Nat.ne_of_lt (blk_lt (g := gb394) (o := .cells #[.int .i64 a3] 3 (0, 0)) (by (with_reducible repeat (first | refine bqN ?_ _ | refine bqD ?_ | refine bqA ?_ _)); exact BK394.out)) : gb394 ≠ gb415))
          have n11_ := Aside0.mk ((by rw [hg]; exact Nat.ne_of_gt (blk_lt (g := gb394) (o := .cells #[.int .i64 a3] 3 (0, 0)) (by (with_reducible repeat (first | refine bqN ?_ _ | refine bqD ?_ | refine bqA ?_ _)); exact BK394.out)) : gb415 ≠ gb394))
          have z_HO410 := fun (h0_ : b 1 = true) => (show Kd.R k34 34 w72 w.heap.size (fun _ => True) v409 t408 from by first | exact (Kd.R_below (by (with_reducible repeat (first | apply Kd.R_alloc | apply Kd.R_drewN | apply Kd.R_drew)); exact (Q_HO410 h0_)) hb) | exact Kd.R_mono (Kd.R_below (by (with_reducible repeat (first | apply Kd.R_alloc | apply Kd.R_drewN | apply Kd.R_drew)); exact (Q_HO410 h0_)) hb) (fun _ h_ => by first | trivial | exact h_ | exact h_.1 | exact ⟨h_.1, h_.2.1⟩ | exact ⟨h_.1, h_.2.1, h_.2.2.1⟩ | simp_all))
          have z_HO414 := fun (h0_ : b 4 = true) => (show Kd.R (Kd.int .i64) 3 w72 w.heap.size (fun _ => True) v413 t411 from by first | exact (Kd.R_below (by (with_reducible repeat (first | apply Kd.R_alloc | apply Kd.R_drewN | apply Kd.R_drew)); exact (Q_HO414 h0_)) hb) | exact Kd.R_mono (Kd.R_below (by (with_reducible repeat (first | apply Kd.R_alloc | apply Kd.R_drewN | apply Kd.R_drew)); exact (Q_HO414 h0_)) hb) (fun _ h_ => by first | trivial | exact h_ | exact h_.1 | exact ⟨h_.1, h_.2.1⟩ | exact ⟨h_.1, h_.2.1, h_.2.2.1⟩ | simp_all))
          clear HO_9
          clear HO_33
          clear BK393
          clear BK394
          clear HB
          have HO_9 := n0_
          have HO_33 := n1_
          have BK393 := n2_
          have BK394 := n3_
          have HB := n4_
          have BK415 := n5_
          have GW415 := n6_
          have GE415 := n7_
          have NB393_415 := n8_
          have NB415_393 := n9_
          have NB394_415 := n10_
          have NB415_394 := n11_
          clear n0_ n1_ n2_ n3_ n4_ n5_ n6_ n7_ n8_ n9_ n10_ n11_
          clear hb hbox hg
          refine hK.out _ _ ⟨v409, v413, gb415, m4_, m5_, m6_, (.pointer (some ⟨gb415, 0, none⟩)), (by rw [ha.out]; exact putSel_upk 6 hb_ rfl rfl rfl), (by (with_reducible repeat (first | apply Kd.R_alloc | apply Kd.R_drewN | apply Kd.R_drew)); exact Kd.R_mono HO_33.out (fun _ _ => trivial)), (by (with_reducible repeat (first | apply Kd.R_alloc | apply Kd.R_drewN | apply Kd.R_drew)); exact Kd.R_mono HO_9.out (fun _ _ => trivial)), (by (with_reducible repeat (first | refine bqN ?_ _ | refine bqD ?_ | refine bqA ?_ _)); exact BK393.out), (by (with_reducible repeat (first | refine bqN ?_ _ | refine bqD ?_ | refine bqA ?_ _)); exact BK394.out), (by repeat (first | (with_reducible first | exact HB.out | apply lqA | apply lqN | apply lqD | refine lqS ?_ GE393.out | refine lqS ?_ GE394.out | refine lqS ?_ GE415.out) | exact HB.out)), z_HO410, fun _ => (by have h11_ : b 9 = false := hoff 9 (by kernel_rfl); show (_ : Option Obj) = some (Obj.cells #[if b 9 = true then v413 else .slice none 0 0] 28 (0, 0)); rw [if_neg (by rw [h11_]; decide)]; (with_reducible repeat (first | refine bqN ?_ _ | refine bqD ?_ | refine bqA ?_ _)); exact BK415.out), fun _ => GW415.out, fun _ => GE415.out, fun _ => NB393_415.out, fun _ => NB415_393.out, fun _ => NB394_415.out, fun _ => NB415_394.out, z_HO414, Q_X4_, Q_X5_, Q_X6_, fun _ => rfl⟩
         refine steps_cons ?_ ?_
         ·rintro b a w' ⟨v409, v413, gb415, m4_, m5_, m6_, m8_, ha, Q_HO_33, Q_HO_9, Q_BK393, Q_BK394, Q_HB, Q_HO410, Q_BK415, Q_GW415, Q_GE415, Q_NB393_415, Q_NB415_393, Q_NB394_415, Q_NB415_394, Q_HO414, Q_X4_, Q_X5_, Q_X6_, Q_X8_⟩ hb_ hon hoff
          refine ⟨_, rfl, fun K hK => ?_⟩
          have e13 : a.tmps[13]? = some (m8_) := by rw [ha]; exact putSel_on (e := (8, 13, m8_)) 6 rfl rfl (hon 8 (by kernel_rfl)) rfl
          rw [Q_X8_ (hon 8 (by kernel_rfl))] at e13
          have e64 : a.tmps[64]? = some (m6_) := by rw [ha]; exact putSel_on (e := (6, 64, m6_)) 4 rfl rfl (hon 6 (by kernel_rfl)) rfl
          rw [Q_X6_ (hon 6 (by kernel_rfl))] at e64
          replace ha := Aside0.mk ha
          have HO_33 := Aside0.mk Q_HO_33
          have HO_9 := Aside0.mk Q_HO_9
          have BK393 := Aside0.mk Q_BK393
          have BK394 := Aside0.mk Q_BK394
          have HB := Aside0.mk Q_HB
          have HO410 := Aside0.mk (Q_HO410 (hon 1 (by kernel_rfl)))
          have BK415 := Aside0.mk (show w'.heap[gb415]? = some (.cells #[.slice none 0 0] 28 (0, 0)) from by have h_ := Q_BK415 (hon 8 (by kernel_rfl)); rw [if_neg (by rw [hb_]; decide)] at h_; exact h_)
          have GW415 := Aside0.mk (Q_GW415 (hon 8 (by kernel_rfl)))
          have GE415 := Aside0.mk (Q_GE415 (hon 8 (by kernel_rfl)))
          have NB393_415 := Aside0.mk (Q_NB393_415 (hon 8 (by kernel_rfl)))
          have NB415_393 := Aside0.mk (Q_NB415_393 (hon 8 (by kernel_rfl)))
          have NB394_415 := Aside0.mk (Q_NB394_415 (hon 8 (by kernel_rfl)))
          have NB415_394 := Aside0.mk (Q_NB415_394 (hon 8 (by kernel_rfl)))
          have HO414 := Aside0.mk (Q_HO414 (hon 4 (by kernel_rfl)))
          have hs77 : w'.cell? ⟨gb415, 0, none⟩ = some (.slice none 0 0) := (bqC BK415.out 0).trans rfl
          have hfs77 := bqF BK415.out 0
          have hns77_0 := NB393_415.out
          have hns77_1 := NB394_415.out
          have hms77_0 := NB415_393.out
          have hms77_1 := NB415_394.out
          obtain ⟨Aob_, cob_, eob_⟩ := Kd.R_slice HO414.out
          subst eob_
          refine skip_ (w1 := ?_) (by rfl) rfl ?_ ?_
          rotate_left
          ·go_simp
           rfl
          refine hK.out _ _ ⟨v409, .slice Aob_ t411.length cob_, gb415, m4_, m5_, m6_, m8_, (by rw [ha.out]; exact putSel_none (v := undef) rfl), (by (with_reducible repeat (first | apply Kd.R_alloc | apply Kd.R_drewN | apply Kd.R_drew)); exact Kd.R_mono (Kd.R_far (p := ⟨gb415, 0, none⟩) (Kd.R_types HO_33.out BK415.out (by decide)) (fun _ hk => hk.2) (.slice Aob_ t411.length cob_)) (fun _ _ => trivial)), (by (with_reducible repeat (first | apply Kd.R_alloc | apply Kd.R_drewN | apply Kd.R_drew)); exact Kd.R_mono (Kd.R_far (p := ⟨gb415, 0, none⟩) (Kd.R_types HO_9.out BK415.out (by decide)) (fun _ hk => hk.2) (.slice Aob_ t411.length cob_)) (fun _ _ => trivial)), (by (with_reducible repeat (first | refine bqN ?_ _ | refine bqD ?_ | refine bqA ?_ _)); refine blk_far ?_ NB393_415.out _; (with_reducible repeat (first | refine bqN ?_ _ | refine bqD ?_ | refine bqA ?_ _)); exact BK393.out), (by (with_reducible repeat (first | refine bqN ?_ _ | refine bqD ?_ | refine bqA ?_ _)); refine blk_far ?_ NB394_415.out _; (with_reducible repeat (first | refine bqN ?_ _ | refine bqD ?_ | refine bqA ?_ _)); exact BK394.out), (by repeat (first | (with_reducible first | exact HB.out | apply lqA | apply lqN | apply lqD | refine lqS ?_ GE393.out | refine lqS ?_ GE394.out | refine lqS ?_ GE415.out) | exact HB.out)), fun _ => (by (with_reducible repeat (first | apply Kd.R_alloc | apply Kd.R_drewN | apply Kd.R_drew)); exact Kd.R_mono (Kd.R_far (p := ⟨gb415, 0, none⟩) (Kd.R_types HO410.out BK415.out (by decide)) (fun _ hk => hk.2) (.slice Aob_ t411.length cob_)) (fun _ hk => trivial)), fun _ => (by (with_reducible repeat (first | refine bqN ?_ _ | refine bqD ?_ | refine bqA ?_ _)); refine bqP (cs := #[.slice none 0 0]) ?_ 0 _ rfl; (with_reducible repeat (first | refine bqN ?_ _ | refine bqD ?_ | refine bqA ?_ _)); exact BK415.out), fun _ => GW415.out, fun _ => GE415.out, fun _ => NB393_415.out, fun _ => NB415_393.out, fun _ => NB394_415.out, fun _ => NB415_394.out, fun _ => (by (with_reducible repeat (first | apply Kd.R_alloc | apply Kd.R_drewN | apply Kd.R_drew)); exact Kd.R_mono (Kd.R_far (p := ⟨gb415, 0, none⟩) (Kd.R_types HO414.out BK415.out (by decide)) (fun _ hk => hk.2) (.slice Aob_ t411.length cob_)) (fun _ _ => trivial)), Q_X4_, Q_X5_, Q_X6_, Q_X8_⟩
         refine steps_cons ?_ ?_
         ·rintro b a w' ⟨v409, v413, gb415, m4_, m5_, m6_, m8_, ha, Q_HO_33, Q_HO_9, Q_BK393, Q_BK394, Q_HB, Q_HO410, Q_BK415, Q_GW415, Q_GE415, Q_NB393_415, Q_NB415_393, Q_NB394_415, Q_NB415_394, Q_HO414, Q_X4_, Q_X5_, Q_X6_, Q_X8_⟩ hb_ hon hoff
          refine ⟨_, rfl, fun K hK => ?_⟩
          have e65 : a.tmps[65]? = some (.int .i64 t412) := by rw [ha]; exact putSel_on (e := (7, 65, .int .i64 t412)) 5 rfl rfl (hon 7 (by kernel_rfl)) rfl
          replace ha := Aside0.mk ha
          have HO_33 := Aside0.mk Q_HO_33
          have HO_9 := Aside0.mk Q_HO_9
          have BK393 := Aside0.mk Q_BK393
          have BK394 := Aside0.mk Q_BK394
          have HB := Aside0.mk Q_HB
          have HO410 := Aside0.mk (Q_HO410 (hon 1 (by kernel_rfl)))
          have BK415 := Aside0.mk (Q_BK415 (hon 8 (by kernel_rfl)))
          have GW415 := Aside0.mk (Q_GW415 (hon 8 (by kernel_rfl)))
          have GE415 := Aside0.mk (Q_GE415 (hon 8 (by kernel_rfl)))
          have NB393_415 := Aside0.mk (Q_NB393_415 (hon 8 (by kernel_rfl)))
          have NB415_393 := Aside0.mk (Q_NB415_393 (hon 8 (by kernel_rfl)))
          have NB394_415 := Aside0.mk (Q_NB394_415 (hon 8 (by kernel_rfl)))
          have NB415_394 := Aside0.mk (Q_NB415_394 (hon 8 (by kernel_rfl)))
          have HO414 := Aside0.mk (Q_HO414 (hon 4 (by kernel_rfl)))
          refine value_ (w1 := w') (v := .int .i64 t412) (by rfl) rfl ?_ ?_
          ·go_simp
           (try simp only [i64_w])
           try rfl
          refine hK.out _ _ ⟨v409, v413, gb415, m4_, m5_, m6_, m8_, (by rw [ha.out]; exact putSel_upk 7 hb_ rfl rfl rfl), Q_HO_33, Q_HO_9, Q_BK393, Q_BK394, Q_HB, Q_HO410, Q_BK415, Q_GW415, Q_GE415, Q_NB393_415, Q_NB415_393, Q_NB394_415, Q_NB415_394, Q_HO414, Q_X4_, Q_X5_, Q_X6_, Q_X8_⟩
         exact steps_nil
        rintro b a w77 hall ⟨v409, v413, gb415, m4_, m5_, m6_, m8_, ha, Q_HO_33, Q_HO_9, Q_BK393, Q_BK394, Q_HB, Q_HO410, Q_BK415, Q_GW415, Q_GE415, Q_NB393_415, Q_NB415_393, Q_NB394_415, Q_NB415_394, Q_HO414, Q_X4_, Q_X5_, Q_X6_, Q_X8_⟩
        clear BK393 BK394 HB HO_33 HO_9
        have hb1_ := hall 1 (by kernel_rfl)
        have hb3_ := hall 3 (by kernel_rfl)
        have hb4_ := hall 4 (by kernel_rfl)
        have hb5_ := hall 5 (by kernel_rfl)
        have hb6_ := hall 6 (by kernel_rfl)
        have hb7_ := hall 7 (by kernel_rfl)
        have hb8_ := hall 8 (by kernel_rfl)
        have hb9_ := hall 9 (by kernel_rfl)
        have hb10_ := hall 10 (by kernel_rfl)
        subst ha
        obtain rfl := Q_X4_ hb4_
        obtain rfl := Q_X5_ hb5_
        obtain rfl := (Q_X6_ hb6_).symm
        obtain rfl := Q_X8_ hb8_
        simp only [putSel, hb1_, hb3_, hb4_, hb5_, hb6_, hb7_, hb8_, hb9_, hb10_, if_true, Act.put, List.setIfInBounds_toArray, List.set_cons_zero, List.set_cons_succ]
        have HO_33 := Aside0.mk Q_HO_33
        clear Q_HO_33
        have HO_9 := Aside0.mk Q_HO_9
        clear Q_HO_9
        have BK393 := Aside0.mk Q_BK393
        clear Q_BK393
        have BK394 := Aside0.mk Q_BK394
        clear Q_BK394
        have HB := Aside0.mk Q_HB
        clear Q_HB
        have HO410 := Aside0.mk (Q_HO410 hb1_)
        clear Q_HO410
        have BK415 := Aside0.mk (by have h_ := Q_BK415 hb8_; rw [if_pos hb9_] at h_; exact h_)
        clear Q_BK415
        have GW415 := Aside0.mk (Q_GW415 hb8_)
        clear Q_GW415
        have GE415 := Aside0.mk (Q_GE415 hb8_)
        clear Q_GE415
        have NB393_415 := Aside0.mk (Q_NB393_415 hb8_)
        clear Q_NB393_415
        have NB415_393 := Aside0.mk (Q_NB415_393 hb8_)
        clear Q_NB415_393
        have NB394_415 := Aside0.mk (Q_NB394_415 hb8_)
        clear Q_NB394_415
        have NB415_394 := Aside0.mk (Q_NB415_394 hb8_)
        clear Q_NB415_394
        have HO414 := Aside0.mk (Q_HO414 hb4_)
        clear Q_HO414
        clear hall hb1_ hb3_ hb4_ hb5_ hb6_ hb7_ hb8_ hb9_ hb10_
        try go_wp2
        go_ret
        exact ⟨by first | rfl | (simp [errW_none, errW_some] <;> rfl) | (simp [*, errW_none, errW_some] <;> rfl), by repeat (first | (with_reducible first | exact HB.out | apply lqA | apply lqN | apply lqD | refine lqS ?_ GE393.out | refine lqS ?_ GE394.out | refine lqS ?_ GE415.out) | exact HB.out)⟩
   ·rw [if_neg c13] at H
    have c13b0 : (t400 == 0) = false := beq_eq_false_iff_ne.mpr c13
    try simp only [beq_self_eq_true, Bool.not_true, Bool.false_or, Bool.true_and] at c13b0
    have c13b1 : (t400 != 0) = true := bne_iff_ne.mpr c13
    obtain rfl := Option.some.inj H
    go_enter Try.func5, Try.ntmps5
    try go_wp2_with (first | ((with_reducible refine gqD (N := 5) rfl ?_); refine box_event ?hg (N := 5) ?hd (cs := #[.int .i64 a1]) (t := 3) ?hr ?_; (case hd => rfl); (case hg => rfl); (case hr => first | (go_simp; done) | (go_simp; rfl)); intro gb393 hg w78 hbox hb; have n0_ := Aside0.mk (lqT (by repeat (first | (with_reducible first | exact HB.out | apply lqA | apply lqN | apply lqD) | exact HB.out)) hb); have n1_ := Aside0.mk (hbox); have n2_ := Aside0.mk ((by rw [hg]; exact (lqZ (by repeat (first | (with_reducible first | exact HB.out | apply lqA | apply lqN | apply lqD) | exact HB.out))) : w.heap.size ≤ gb393)); have n3_ := Aside0.mk ((by rw [hg]; exact (lqZ (by repeat (first | (with_reducible first | exact HB.out | apply lqA | apply lqN | apply lqD) | exact HB.out))) : w.heap.size ≤ gb393)); clear HB; have HB := n0_; have BK393 := n1_; have GW393 := n2_; have GE393 := n3_; clear n0_ n1_ n2_ n3_; clear hb hbox hg) | ((with_reducible refine gqD (N := 7) rfl ?_); refine box_event ?hg (N := 7) ?hd (cs := #[.int .i64 a3]) (t := 3) ?hr ?_; (case hd => rfl); (case hg => rfl); (case hr => first | (go_simp; done) | (go_simp; rfl)); intro gb394 hg w79 hbox hb; have n0_ := Aside0.mk (bqB (g := gb393) (o := .cells #[.int .i64 a1] 3 (0, 0)) (by (with_reducible repeat (first | refine bqN ?_ _ | refine bqD ?_ | refine bqA ?_ _)); exact BK393.out) hb); have n1_ := Aside0.mk (lqT (by repeat (first | (with_reducible first | exact HB.out | apply lqA | apply lqN | apply lqD | refine lqS ?_ GE393.out) | exact HB.out)) hb); have n2_ := Aside0.mk (hbox); have n3_ := Aside0.mk ((by rw [hg]; exact (lqZ (by repeat (first | (with_reducible first | exact HB.out | apply lqA | apply lqN | apply lqD | refine lqS ?_ GE393.out) | exact HB.out))) : w.heap.size ≤ gb394)); have n4_ := Aside0.mk ((by rw [hg]; exact (lqZ (by repeat (first | (with_reducible first | exact HB.out | apply lqA | apply lqN | apply lqD | refine lqS ?_ GE393.out) | exact HB.out))) : w.heap.size ≤ gb394)); have n5_ := Aside0.mk ((by rw [hg]; exact Nat.ne_of_lt (blk_lt (g := gb393) (o := .cells #[.int .i64 a1] 3 (0, 0)) (by (with_reducible repeat (first | refine bqN ?_ _ | refine bqD ?_ | refine bqA ?_ _)); exact BK393.out)) : gb393 ≠ gb394)); have n6_ := Aside0.mk ((by rw [hg]; exact Nat.ne_of_gt (blk_lt (g := gb393) (o := .cells #[.int .i64 a1] 3 (0, 0)) (by (with_reducible repeat (first | refine bqN ?_ _ | refine bqD ?_ | refine bqA ?_ _)); exact BK393.out)) : gb394 ≠ gb393)); clear BK393; clear HB; have BK393 := n0_; have HB := n1_; have BK394 := n2_; have GW394 := n3_; have GE394 := n4_; have NB393_394 := n5_; have NB394_393 := n6_; clear n0_ n1_ n2_ n3_ n4_ n5_ n6_; clear hb hbox hg) | ((with_reducible refine gqC (f := 10) rfl ?_); refine goesL_ (some 15) rfl rfl Try.func10 (by kernel_rfl) rfl #[] rfl (by (try simp only [List.map_toArray, List.map_cons, List.map_nil]); first | done | rfl | (simp only [List.length_drop, List.length_take]; rfl)) ?_; (with_reducible refine (spilelaw39_awake.calls k  true _ A5.out).mono ?_); rintro e w80 ⟨rfl, hb⟩; refine ⟨_, rfl, ?_⟩; have n0_ := Aside0.mk (bqB (g := gb393) (o := .cells #[.int .i64 a1] 3 (0, 0)) (by (with_reducible repeat (first | refine bqN ?_ _ | refine bqD ?_ | refine bqA ?_ _)); exact BK393.out) hb); have n1_ := Aside0.mk (bqB (g := gb394) (o := .cells #[.int .i64 a3] 3 (0, 0)) (by (with_reducible repeat (first | refine bqN ?_ _ | refine bqD ?_ | refine bqA ?_ _)); exact BK394.out) hb); have n2_ := Aside0.mk (lqT (by repeat (first | (with_reducible first | exact HB.out | apply lqA | apply lqN | apply lqD | refine lqS ?_ GE393.out | refine lqS ?_ GE394.out) | exact HB.out)) hb); clear BK393; clear BK394; clear HB; have BK393 := n0_; have BK394 := n1_; have HB := n2_; clear n0_ n1_ n2_; (try clear hb); (try clear hb2); (try clear hk); (try clear hi)))
    have n0_ := Aside0.mk (bqD BK393.out)
    have n1_ := Aside0.mk (bqD BK394.out)
    have n2_ := Aside0.mk (lqD HB.out)
    clear BK393
    clear BK394
    clear HB
    have BK393 := n0_
    have BK394 := n1_
    have HB := n2_
    clear n0_ n1_ n2_
    refine start_ (n := 10) (S := fun w' => w'.cell? ⟨gb393, 0, none⟩ = some (.int .i64 a1) ∧ w'.cell? ⟨gb394, 0, none⟩ = some (.int .i64 a3)) (ds := []) #[false, false, false, false, false, false, false, false, false, false] (by kernel_rfl) rfl rfl ⟨(bqC BK393.out 0).trans rfl, (bqC BK394.out 0).trans rfl⟩ (fun hHeld => ?_); refine with_tabW spilelaw39_SealOnce.tab5 spilelaw39_SealOnce.bits5 (fun HT_ HW_ => ?_)
    generalize w80.drew = w81 at BK393 BK394 HB hHeld ⊢
    refine pure_ (i := 0) (N := some 21) (v := ?_) (a' := ?_) #[true, false, false, false, false, false, false, false, false, false] rfl rfl (any_of HT_.out (by kernel_rfl)) (fun _ _ _ h => h) (Or.inl ⟨by rfl, ?_⟩) ?_ ?_
    rotate_left
    ·intro w'
     go_simp
     with_reducible rfl
    rotate_left
    ·simp only [Act.put, List.setIfInBounds_toArray, List.set_cons_zero, List.set_cons_succ, i64_w, i32_w]
     rfl
    refine take_ (i := 2) (N := some 23) (v := ?_) (a' := ?_) #[true, false, true, false, false, false, false, false, false, false] rfl rfl (take_ofW HT_.out HW_.out (by kernel_rfl)) (fun _ _ _ h => h) (Or.inl ⟨by rfl, ?_⟩) hHeld ?_ ?_
    rotate_left
    ·rintro w' ⟨s0, s1⟩
     go_simp
     with_reducible rfl
    rotate_left
    ·simp only [Act.put, List.setIfInBounds_toArray, List.set_cons_zero, List.set_cons_succ, i64_w, i32_w]
     rfl
    refine take_ (i := 3) (N := some 24) (v := ?_) (a' := ?_) #[true, false, true, true, false, false, false, false, false, false] rfl rfl (take_ofW HT_.out HW_.out (by kernel_rfl)) (fun _ _ _ h => h) (Or.inl ⟨by rfl, ?_⟩) hHeld ?_ ?_
    rotate_left
    ·rintro w' ⟨s0, s1⟩
     go_simp
     with_reducible rfl
    rotate_left
    ·simp only [Act.put, List.setIfInBounds_toArray, List.set_cons_zero, List.set_cons_succ, i64_w, i32_w]
     rfl
    refine one_ (i := 1) (N := some 22) #[true, true, true, true, false, false, false, false, false, false] rfl rfl (one_of HT_.out (by kernel_rfl)) (by decide) (fun K hK => ?_)
    refine goes_ Try.func14 (by kernel_rfl) rfl #[.slice A0 l0.length c0] (by rfl) rfl rfl (by (try simp only [List.map_toArray, List.map_cons, List.map_nil]); first | done | rfl | (simp only [List.length_drop, List.length_take]; rfl)) ?_
    with_reducible refine (clone34.calls _ _ l0 t396 _ ?side1 ?side2 A11.out).mono ?_
    (case side1 => repeat (first | exact (Kd.C_below HR0.out HB.out) | (with_reducible refine Kd.C_alloc ?_ _) | (with_reducible refine Kd.C_drewN ?_ _) | (with_reducible refine Kd.C_drew ?_)))
    (case side2 => exact HC0.out)
    rintro e w82 ⟨v397, rfl, ho0, hb⟩
    refine ⟨_, rfl, ?_⟩
    have n0_ := Aside0.mk (Kd.R_lower ho0 (lqZ (by repeat (first | (with_reducible first | exact HB.out | apply lqA | apply lqN | apply lqD | refine lqS ?_ GE393.out | refine lqS ?_ GE394.out) | exact HB.out))))
    have n1_ := Aside0.mk (bqB (g := gb393) (o := .cells #[.int .i64 a1] 3 (0, 0)) (by (with_reducible repeat (first | refine bqN ?_ _ | refine bqD ?_ | refine bqA ?_ _)); exact BK393.out) hb)
    have n2_ := Aside0.mk (bqB (g := gb394) (o := .cells #[.int .i64 a3] 3 (0, 0)) (by (with_reducible repeat (first | refine bqN ?_ _ | refine bqD ?_ | refine bqA ?_ _)); exact BK394.out) hb)
    have n3_ := Aside0.mk (lqT (by repeat (first | (with_reducible first | exact HB.out | apply lqA | apply lqN | apply lqD | refine lqS ?_ GE393.out | refine lqS ?_ GE394.out) | exact HB.out)) hb)
    clear BK393
    clear BK394
    clear HB
    have HO398 := n0_
    have BK393 := n1_
    have BK394 := n2_
    have HB := n3_
    clear n0_ n1_ n2_ n3_
    (try clear hb)
    (try clear hb2)
    (try clear hk)
    (try clear hi)
    (try clear ho0)
    obtain ⟨Ao83, co83, eo83⟩ := Kd.R_slice HO398.out
    (first | subst eo83 | (injection eo83 with f1_ f2_ f3_; have f4_ := f1_.symm; have f5_ := f3_.symm; clear f1_ f2_ f3_; subst f4_; subst f5_))
    refine hK.out _ _ ⟨(bqC BK393.out 0).trans rfl, (bqC BK394.out 0).trans rfl⟩ (fun hHeld => ?_)
    clear hK K
    refine norm_ (a' := ?_) ?_ ?_
    rotate_left
    ·show Act.put _ (some 22) _ = _
     simp only [Act.put, List.setIfInBounds_toArray, List.set_cons_zero, List.set_cons_succ, i64_w, i32_w]
     rfl
    refine one_ (i := 4) (N := some 25) #[true, true, true, true, true, false, false, false, false, false] rfl rfl (one_of HT_.out (by kernel_rfl)) (by decide) (fun K hK => ?_)
    refine goes_ Try.func13 (by kernel_rfl) rfl #[.slice Ao83 t396.length co83, .int .i64 a1, .int .i64 a3] (by rfl) rfl rfl (by (try simp only [List.map_toArray, List.map_cons, List.map_nil]); first | done | rfl | (simp only [List.length_drop, List.length_take]; rfl)) ?_
    with_reducible refine (seal_Intact.calls _ _ t396 a1 a3 t399 t400 _ ?side1 ?side2 A12.out).mono ?_
    (case side1 => repeat (first | exact (Kd.R_reads' HO398.out).2.2 | (with_reducible refine Kd.C_alloc ?_ _) | (with_reducible refine Kd.C_drewN ?_ _) | (with_reducible refine Kd.C_drew ?_)))
    (case side2 => exact (Kd.R_reads' HO398.out).2.1)
    rintro e w84 ⟨v401, rfl, ho0, hb⟩
    refine ⟨_, rfl, ?_⟩
    have n0_ := Aside0.mk (Kd.R_below (by (with_reducible repeat (first | apply Kd.R_alloc | apply Kd.R_drewN | apply Kd.R_drew)); exact HO398.out) hb)
    have n1_ := Aside0.mk (Kd.R_lower ho0 (lqZ (by repeat (first | (with_reducible first | exact HB.out | apply lqA | apply lqN | apply lqD | refine lqS ?_ GE393.out | refine lqS ?_ GE394.out) | exact HB.out))))
    have n2_ := Aside0.mk (bqB (g := gb393) (o := .cells #[.int .i64 a1] 3 (0, 0)) (by (with_reducible repeat (first | refine bqN ?_ _ | refine bqD ?_ | refine bqA ?_ _)); exact BK393.out) hb)
    have n3_ := Aside0.mk (bqB (g := gb394) (o := .cells #[.int .i64 a3] 3 (0, 0)) (by (with_reducible repeat (first | refine bqN ?_ _ | refine bqD ?_ | refine bqA ?_ _)); exact BK394.out) hb)
    have n4_ := Aside0.mk (lqT (by repeat (first | (with_reducible first | exact HB.out | apply lqA | apply lqN | apply lqD | refine lqS ?_ GE393.out | refine lqS ?_ GE394.out) | exact HB.out)) hb)
    clear HO398
    clear BK393
    clear BK394
    clear HB
    have HO398 := n0_
    have HO402 := n1_
    have BK393 := n2_
    have BK394 := n3_
    have HB := n4_
    clear n0_ n1_ n2_ n3_ n4_
    (try clear hb)
    (try clear hb2)
    (try clear hk)
    (try clear hi)
    (try clear ho0)
    refine hK.out _ _ ⟨(bqC BK393.out 0).trans rfl, (bqC BK394.out 0).trans rfl⟩ (fun hHeld => ?_)
    clear hK K
    refine norm_ (a' := ?_) ?_ ?_
    rotate_left
    ·show Act.put _ (some 25) _ = _
     simp only [Act.put, List.setIfInBounds_toArray, List.set_cons_zero, List.set_cons_succ, i64_w, i32_w]
     rfl
    refine pure_ (i := 5) (N := some 20) (v := ?_) (a' := ?_) #[true, true, true, true, true, true, false, false, false, false] rfl rfl (any_of HT_.out (by kernel_rfl)) (fun _ _ _ h => h) (Or.inl ⟨by rfl, ?_⟩) ?_ ?_
    rotate_left
    ·intro w'
     go_simp
     with_reducible rfl
    rotate_left
    ·simp only [Act.put, List.setIfInBounds_toArray, List.set_cons_zero, List.set_cons_succ, i64_w, i32_w]
     rfl
    refine pure_ (i := 6) (N := some 26) (v := ?_) (a' := ?_) #[true, true, true, true, true, true, true, false, false, false] rfl rfl (any_of HT_.out (by kernel_rfl)) (fun _ _ _ h => h) (Or.inl ⟨by rfl, ?_⟩) ?_ ?_
    rotate_left
    ·intro w'
     go_simp
     with_reducible rfl
    rotate_left
    ·simp only [Act.put, List.setIfInBounds_toArray, List.set_cons_zero, List.set_cons_succ, i64_w, i32_w]
     rfl
    refine pure_ (i := 7) (N := some 27) (v := ?_) (a' := ?_) #[true, true, true, true, true, true, true, true, false, false] rfl rfl (any_of HT_.out (by kernel_rfl)) (fun _ _ _ h => h) (Or.inl ⟨by rfl, ?_⟩) ?_ ?_
    rotate_left
    ·intro w'
     go_simp
     with_reducible rfl
    rotate_left
    ·simp only [Act.put, List.setIfInBounds_toArray, List.set_cons_zero, List.set_cons_succ, i64_w, i32_w]
     rfl
    refine pure_ (i := 8) (N := some 9) (v := ?_) (a' := ?_) #[true, true, true, true, true, true, true, true, true, false] rfl rfl (any_of HT_.out (by kernel_rfl)) (fun _ _ _ h => h) (Or.inl ⟨by rfl, ?_⟩) ?_ ?_
    rotate_left
    ·intro w'
     go_simp
     with_reducible rfl
    rotate_left
    ·simp only [Act.put, List.setIfInBounds_toArray, List.set_cons_zero, List.set_cons_succ, i64_w, i32_w]
     rfl
    refine pure_ (i := 9) (N := some 10) (v := ?_) (a' := ?_) #[true, true, true, true, true, true, true, true, true, true] rfl rfl (any_of HT_.out (by kernel_rfl)) (fun _ _ _ h => h) (Or.inl ⟨by rfl, ?_⟩) ?_ ?_
    rotate_left
    ·intro w'
     go_simp
     with_reducible rfl
    rotate_left
    ·simp only [Act.put, List.setIfInBounds_toArray, List.set_cons_zero, List.set_cons_succ, i64_w, i32_w]
     rfl
    refine done_ (done_of HT_.out (by kernel_rfl)) ?_
    obtain ⟨Ao85, co85, eo85⟩ := Kd.R_slice HO402.out
    subst eo85
    try go_wp2
    go_ret
    exact ⟨by first | rfl | (simp [errW_none, errW_some] <;> rfl) | (simp [*, errW_none, errW_some] <;> rfl), by repeat (first | (with_reducible first | exact HB.out | apply lqA | apply lqN | apply lqD | refine lqS ?_ GE393.out | refine lqS ?_ GE394.out) | exact HB.out)⟩
 ·replace c6 := Bool.eq_false_iff.mpr c6
  subst c6
  have H1 : (none) = some r := by rw [if_neg (show ¬ (false = true) by decide)] at H; exact H
  clear H
  have H := H1
  clear H1
  exact absurd H (by simp)

end Go.Proofs.Ytfjenooajbdcmaa.K
