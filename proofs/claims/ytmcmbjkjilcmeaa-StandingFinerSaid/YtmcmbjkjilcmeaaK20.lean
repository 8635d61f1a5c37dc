-- PRINTED by print.py (a twelfth state) out of the translation. Not trusted: Lean checks it.
import Derived.Test.YtmcmbjkjilcmeaaK0
import Derived.Test.YtmcmbjkjilcmeaaGPu
import Derived.Test.YtmcmbjkjilcmeaaGShort
import Derived.Test.YtmcmbjkjilcmeaaK18
import Derived.Test.YtmcmbjkjilcmeaaK19
namespace Go.Proofs.Ytmcmbjkjilcmeaa.K
open Go.RowKit Go.Proofs.YtmcmbjkjilcmeaaW.PrintWords Go.Proofs.YtmcmbjkjilcmeaaW.PrintLast Go.Proofs.YtmcmbjkjilcmeaaW.PrintMore
attribute [local go_sem] max2_int min2_int max_two min_two max_three min_three max_four min_four   -- for this text's walks alone
set_option linter.unusedVariables false
set_option linter.unusedSimpArgs false

/-! ### spileref12_Check: function 19 -/
mutual
def spileref12_Check.l0 : Nat → List Int → List (S33) → Int → Option (Int)
 | 0, _, _, _ => none
 | k + 1, x1, x6, x7 => if x7 < (x1.length : Int) then (if 0 ≤ x7 then (if (rd x1 x7) < 0 then (some 2) else (if 0 ≤ (wrap64 ((x6.length : Int) - 1)) then (if (wrap64 ((x6.length : Int) - 1)) < (x6.length : Int) then (if (rd x1 x7) > ((rd_T33 x6 (wrap64 ((x6.length : Int) - 1))).f0) then (some 2) else (spileref12_Check.l0 k x1 x6 (wrap64 (x7 + 1)))) else (none)) else (none))) else (none)) else (spileref12_Check.l1 k x1 x6 1)
def spileref12_Check.l1 : Nat → List Int → List (S33) → Int → Option (Int)
 | 0, _, _, _ => none
 | k + 1, x1, x6, x8 => if x8 < (x1.length : Int) then (if 0 ≤ (wrap64 (x8 - 1)) then (if (wrap64 (x8 - 1)) < (x1.length : Int) then (if 0 ≤ x8 then (if (rd x1 (wrap64 (x8 - 1))) ≥ (rd x1 x8) then (some 5) else (spileref12_Check.l1 k x1 x6 (wrap64 (x8 + 1)))) else (none)) else (none)) else (none)) else (spileref12_Check.l2 k x1 x6 0)
def spileref12_Check.l2 : Nat → List Int → List (S33) → Int → Option (Int)
 | 0, _, _, _ => none
 | k + 1, x1, x6, x9 => if x9 < (x6.length : Int) then (if 0 ≤ x9 then (if 0 < (x1.length : Int) then (if ((rd_T33 x6 x9).f0) > (rd x1 0) then (if 0 ≤ (wrap64 ((x1.length : Int) - 1)) then (if (wrap64 ((x1.length : Int) - 1)) < (x1.length : Int) then (if ((rd_T33 x6 x9).f0) < (rd x1 (wrap64 ((x1.length : Int) - 1))) then ((spileref12_has.f k x1 ((rd_T33 x6 x9).f0)).bind fun t410 => (spileref12_Check.j3 k x1 x6 x9 (!t410))) else (spileref12_Check.j3 k x1 x6 x9 false)) else (none)) else (none)) else (spileref12_Check.j3 k x1 x6 x9 false)) else (none)) else (none)) else (some 0)
def spileref12_Check.j3 : Nat → List Int → List (S33) → Int → Bool → Option (Int)
 | 0, _, _, _, _ => none
 | k + 1, x1, x6, x9, x102 => if x102 = true then (some 7) else (spileref12_Check.l2 k x1 x6 (wrap64 (x9 + 1)))
end
def spileref12_Check.f (k : Nat) (a0_0 : ByteArray) (a0_1 : Int) (l0_2 : List (S33)) (a0_3 : Int) (l1 : List Int) : Option (Int) := (spileref12_is.f k a0_0 a0_1 l0_2 a0_3).bind fun t399 => (if t399 = 0 then (if (l1.length : Int) < 2 then (some 9) else (if (l1.length : Int) > 128 then (some 8) else (spileref12_Check.l0 k l1 l0_2 0))) else (some t399))
theorem spileref12_Check.mono_l : ∀ k, (∀ y0 y1 y2, LeO (spileref12_Check.l0 k y0 y1 y2) (spileref12_Check.l0 (k + 1) y0 y1 y2)) ∧ (∀ y0 y1 y2, LeO (spileref12_Check.l1 k y0 y1 y2) (spileref12_Check.l1 (k + 1) y0 y1 y2)) ∧ (∀ y0 y1 y2, LeO (spileref12_Check.l2 k y0 y1 y2) (spileref12_Check.l2 (k + 1) y0 y1 y2)) ∧ (∀ y0 y1 y2 y3, LeO (spileref12_Check.j3 k y0 y1 y2 y3) (spileref12_Check.j3 (k + 1) y0 y1 y2 y3))
 | 0 => ⟨fun _ _ _ r h => by simp [spileref12_Check.l0] at h, fun _ _ _ r h => by simp [spileref12_Check.l1] at h, fun _ _ _ r h => by simp [spileref12_Check.l2] at h, fun _ _ _ _ r h => by simp [spileref12_Check.j3] at h⟩
 | k + 1 => by
  obtain ⟨ih0, ih1, ih2, ih3⟩ := spileref12_Check.mono_l k
  refine ⟨?_, ?_, ?_, ?_⟩
  ·intro y0 y1 y2
   unfold spileref12_Check.l0
   repeat' first
   | (with_reducible exact ih0 _ _ _)
   | (with_reducible exact ih1 _ _ _)
   | (with_reducible exact ih2 _ _ _)
   | (with_reducible exact ih3 _ _ _ _)
   | (with_reducible exact spileref12_has.mono _ _ _)
   | (with_reducible exact spileref12_is.mono _ _ _ _ _)
   | (with_reducible exact LeO.refl _)
   | (with_reducible exact LeO.none _)
   | (with_reducible refine LeO.ite ?_ ?_)
   | (with_reducible refine LeO.bind ?_ (fun _ => ?_))
   | exact ih0 _ _ _
   | exact ih1 _ _ _
   | exact ih2 _ _ _
   | exact ih3 _ _ _ _
   | exact spileref12_has.mono _ _ _
   | exact spileref12_is.mono _ _ _ _ _
   | exact LeO.none _
   | refine LeO.ite ?_ ?_
   | refine LeO.bind ?_ (fun _ => ?_)
  ·intro y0 y1 y2
   unfold spileref12_Check.l1
   repeat' first
   | (with_reducible exact ih0 _ _ _)
   | (with_reducible exact ih1 _ _ _)
   | (with_reducible exact ih2 _ _ _)
   | (with_reducible exact ih3 _ _ _ _)
   | (with_reducible exact spileref12_has.mono _ _ _)
   | (with_reducible exact spileref12_is.mono _ _ _ _ _)
   | (with_reducible exact LeO.refl _)
   | (with_reducible exact LeO.none _)
   | (with_reducible refine LeO.ite ?_ ?_)
   | (with_reducible refine LeO.bind ?_ (fun _ => ?_))
   | exact ih0 _ _ _
   | exact ih1 _ _ _
   | exact ih2 _ _ _
   | exact ih3 _ _ _ _
   | exact spileref12_has.mono _ _ _
   | exact spileref12_is.mono _ _ _ _ _
   | exact LeO.none _
   | refine LeO.ite ?_ ?_
   | refine LeO.bind ?_ (fun _ => ?_)
  ·intro y0 y1 y2
   unfold spileref12_Check.l2
   repeat' first
   | (with_reducible exact ih0 _ _ _)
   | (with_reducible exact ih1 _ _ _)
   | (with_reducible exact ih2 _ _ _)
   | (with_reducible exact ih3 _ _ _ _)
   | (with_reducible exact spileref12_has.mono _ _ _)
   | (with_reducible exact spileref12_is.mono _ _ _ _ _)
   | (with_reducible exact LeO.refl _)
   | (with_reducible exact LeO.none _)
   | (with_reducible refine LeO.ite ?_ ?_)
   | (with_reducible refine LeO.bind ?_ (fun _ => ?_))
   | exact ih0 _ _ _
   | exact ih1 _ _ _
   | exact ih2 _ _ _
   | exact ih3 _ _ _ _
   | exact spileref12_has.mono _ _ _
   | exact spileref12_is.mono _ _ _ _ _
   | exact LeO.none _
   | refine LeO.ite ?_ ?_
   | refine LeO.bind ?_ (fun _ => ?_)
  ·intro y0 y1 y2 y3
   unfold spileref12_Check.j3
   repeat' first
   | (with_reducible exact ih0 _ _ _)
   | (with_reducible exact ih1 _ _ _)
   | (with_reducible exact ih2 _ _ _)
   | (with_reducible exact ih3 _ _ _ _)
   | (with_reducible exact spileref12_has.mono _ _ _)
   | (with_reducible exact spileref12_is.mono _ _ _ _ _)
   | (with_reducible exact LeO.refl _)
   | (with_reducible exact LeO.none _)
   | (with_reducible refine LeO.ite ?_ ?_)
   | (with_reducible refine LeO.bind ?_ (fun _ => ?_))
   | exact ih0 _ _ _
   | exact ih1 _ _ _
   | exact ih2 _ _ _
   | exact ih3 _ _ _ _
   | exact spileref12_has.mono _ _ _
   | exact spileref12_is.mono _ _ _ _ _
   | exact LeO.none _
   | refine LeO.ite ?_ ?_
   | refine LeO.bind ?_ (fun _ => ?_)
theorem spileref12_Check.mono : ∀ a0 a1 a2 a3 a4 k, LeO (spileref12_Check.f k a0 a1 a2 a3 a4) (spileref12_Check.f (k + 1) a0 a1 a2 a3 a4) := by
 intro a0 a1 a2 a3 a4 k
 obtain ⟨ih0, ih1, ih2, ih3⟩ := spileref12_Check.mono_l k
 unfold spileref12_Check.f
 repeat' first
   | (with_reducible exact ih0 _ _ _)
   | (with_reducible exact ih1 _ _ _)
   | (with_reducible exact ih2 _ _ _)
   | (with_reducible exact ih3 _ _ _ _)
   | (with_reducible exact spileref12_has.mono _ _ _)
   | (with_reducible exact spileref12_is.mono _ _ _ _ _)
   | (with_reducible exact LeO.refl _)
   | (with_reducible exact LeO.none _)
   | (with_reducible refine LeO.ite ?_ ?_)
   | (with_reducible refine LeO.bind ?_ (fun _ => ?_))
   | exact ih0 _ _ _
   | exact ih1 _ _ _
   | exact ih2 _ _ _
   | exact ih3 _ _ _ _
   | exact spileref12_has.mono _ _ _
   | exact spileref12_is.mono _ _ _ _ _
   | exact LeO.none _
   | refine LeO.ite ?_ ?_
   | refine LeO.bind ?_ (fun _ => ?_)
def spileref12_Check.T12 : Bool × List (List Nat × List Nat) := (true, [([], []), ([], []), ([0, 1], [0, 1]), ([2], [2]), ([3], [3]), ([4], [4]), ([5], [5]), ([5], [5]), ([6, 7, 5], [5, 6, 7]), ([8, 5], [5, 8]), ([5], [5]), ([5], [5]), ([11, 5], [5, 11]), ([12, 5], [5, 12]), ([10, 13, 5], [5, 10, 13]), ([14, 5], [5, 14]), ([15, 5], [5, 15]), ([9, 16, 5], [5, 9, 16]), ([5, 17], [5, 17])])
def spileref12_Check.B12 : List Nat := [0, 0, 3, 7, 15, 31, 63, 63, 255, 511, 63, 63, 2111, 6207, 15423, 31807, 64575, 131071, 262143]
theorem spileref12_Check.tab12 : rtab .any (opsOf Try.f19 12) = spileref12_Check.T12 := by kernel_rfl
theorem spileref12_Check.bits12 : waitsOk spileref12_Check.T12.2 spileref12_Check.B12 = true := by kernel_rfl
def spileref12_Check.T17 : Bool × List (List Nat × List Nat) := (true, [([], []), ([], []), ([1], [1]), ([0, 2], [0, 2]), ([3], [3]), ([], []), ([], []), ([5, 6], [5, 6]), ([7], [7]), ([4, 8], [4, 8])])
def spileref12_Check.B17 : List Nat := [0, 0, 2, 7, 15, 0, 0, 96, 224, 511]
theorem spileref12_Check.tab17 : rtab .any (opsOf Try.f19 17) = spileref12_Check.T17 := by kernel_rfl
theorem spileref12_Check.bits17 : waitsOk spileref12_Check.T17.2 spileref12_Check.B17 = true := by kernel_rfl
def spileref12_Check.T22 : Bool × List (List Nat × List Nat) := (true, [([], []), ([], []), ([0, 1], [0, 1]), ([2], [2]), ([3], [3]), ([], []), ([5], [5]), ([6], [6]), ([4, 7], [4, 7]), ([8], [8]), ([9], [9]), ([9], [9]), ([10, 11, 9], [9, 10, 11]), ([12, 9], [9, 12]), ([13, 9], [9, 13]), ([9], [9]), ([9], [9]), ([16, 9], [9, 16]), ([17, 9], [9, 17]), ([15, 18, 9], [9, 15, 18]), ([19, 9], [9, 19]), ([14, 20, 9], [9, 14, 20]), ([9, 21], [9, 21]), ([22, 9], [22]), ([23], [23]), ([23], [23]), ([23], [23]), ([25, 26, 23], [23, 25, 26]), ([27, 23], [23, 27]), ([28, 23], [23, 28]), ([24, 29, 23, 23], [23, 24, 29]), ([30, 23], [23, 30]), ([23, 31], [23, 31])])
def spileref12_Check.B22 : List Nat := [0, 0, 3, 7, 15, 0, 32, 96, 255, 511, 1023, 1023, 4095, 8191, 16383, 1023, 1023, 66559, 197631, 492543, 1016831, 2097151, 4194303, 8388607, 16777215, 16777215, 16777215, 117440511, 251658239, 520093695, 1073741823, 2147483647, 4294967295]
theorem spileref12_Check.tab22 : rtab .any (opsOf Try.f19 22) = spileref12_Check.T22 := by kernel_rfl
theorem spileref12_Check.bits22 : waitsOk spileref12_Check.T22.2 spileref12_Check.B22 = true := by kernel_rfl
set_option maxHeartbeats 8000000 in
set_option maxRecDepth 100000 in
theorem spileref12_Check.calls (k : Nat) (a0_0 : ByteArray) (a0_1 : Int) (A0_2 : Option Addr) (c0_2 : Nat) (l0_2 : List (S33)) (a0_3 : Int) (A1 : Option Addr) (c1 : Nat) (l1 : List Int) (r : Int) (w : World) (hr0_2 : Kd.C k33 w A0_2 l0_2.length l0_2) (hc0_2 : l0_2.length ≤ c0_2) (hr1 : Kd.C (Kd.int .i64) w A1 l1.length l1) (hc1 : l1.length ≤ c1) (h : spileref12_Check.f k a0_0 a0_1 l0_2 a0_3 l1 = some r) :
  Calls Try.prog 19 #[.agg #[.string a0_0, .int .i64 a0_1, .slice A0_2 l0_2.length c0_2, .int .i64 a0_3], .slice A1 l1.length c1] w fun e w' => e = .returned (.int .i64 r) ∧ Below w.heap.size w w' := by
 have hu24 := Try.underlying24
 have HR0_2 := Aside0.mk hr0_2
 have HC0_2 := Aside0.mk hc0_2
 clear hr0_2 hc0_2
 have HR1 := Aside0.mk hr1
 have HC1 := Aside0.mk hc1
 clear hr1 hc1
 have HB := Aside0.mk (Below.refl w.heap.size w)
 have H : ((spileref12_is.f k a0_0 a0_1 l0_2 a0_3).bind fun t399 => (if t399 = 0 then (if (l1.length : Int) < 2 then (some 9) else (if (l1.length : Int) > 128 then (some 8) else (spileref12_Check.l0 k l1 l0_2 0))) else (some t399))) = some r := h
 clear h
 replace H := Option.bind_eq_some_iff.mp H
 obtain ⟨t399, A30, H⟩ := H
 replace H : (if t399 = 0 then (if (l1.length : Int) < 2 then (some 9) else (if (l1.length : Int) > 128 then (some 8) else (spileref12_Check.l0 k l1 l0_2 0))) else (some t399)) = some r := H
 have A3 := Aside0.mk A30
 clear A30
 by_cases c4 : t399 = 0
 ·rw [if_pos c4] at H
  have c4b0 : (t399 == 0) = true := beq_iff_eq.mpr c4
  try simp only [beq_self_eq_true, Bool.not_true, Bool.false_or, Bool.true_and] at c4b0
  have c4b1 : (t399 != 0) = false := bne_eq_false_iff_eq.mpr c4
  clear c4
  by_cases c5 : (l1.length : Int) < 2
  ·rw [if_pos c5] at H
   have c5b0 : decide ((l1.length : Int) < 2) = true := decide_eq_true c5
   have c5b1 : decide (l1.length < 2) = true := decide_eq_true (by omega)
   clear c5
   obtain rfl := Option.some.inj H
   go_enter Try.func19, Try.ntmps19
   go_wp2_with (first | ((with_reducible refine gqD (N := 2) rfl ?_); (try (refine gate_guard (by rfl) ?_; dsimp only)); refine GS.bx (N := 2) (cs := #[.string a0_0, .int .i64 a0_1, .slice A0_2 l0_2.length c0_2, .int .i64 a0_3]) (t := 24) ?_; intro gb398 hg w6 hbox hb; have n0_ := Aside0.mk (lqT (GS.lB HB.out) hb); have n1_ := Aside0.mk (hbox); have n2_ := Aside0.mk ((by rw [hg]; exact (lqZ (GS.lB HB.out)) : w.heap.size ≤ gb398)); have n3_ := Aside0.mk ((by rw [hg]; exact (lqZ (GS.lB HB.out)) : w.heap.size ≤ gb398)); clear HB; have HB := n0_; have BK398 := n1_; have GW398 := n2_; have GE398 := n3_; clear n0_ n1_ n2_ n3_; clear hb hbox hg; obtain ⟨hcz7_0, hcz7_1, hcz7_2, hcz7_3, hfz7_0, hfz7_1, hfz7_2, hfz7_3⟩ := GS.c4 BK398.out) | ((with_reducible refine gqC (f := 40) rfl ?_); refine GS.gL (some 11) Try.func40 #[.agg #[.string a0_0, .int .i64 a0_1, .slice A0_2 l0_2.length c0_2, .int .i64 a0_3]] ?_; (with_reducible refine (spileref12_is.calls k a0_0 a0_1 _ _ l0_2 a0_3 t399 _ ?side1 ?side2 A3.out).mono ?_); (case side1 => exact GS.rC (Kd.C_below HR0_2.out HB.out)); (case side2 => exact HC0_2.out); rintro e w8 ⟨rfl, hb⟩; refine ⟨_, rfl, ?_⟩; have n0_ := Aside0.mk (bqB (GS.bqX BK398.out) hb); have n1_ := Aside0.mk (lqT (GS.lB HB.out) hb); clear BK398; clear HB; have BK398 := n0_; have HB := n1_; clear n0_ n1_; (try clear hb); (try clear hb2); (try clear hk); (try clear hi)))
   go_ret
   exact ⟨by first | rfl | (simp [errW_none, errW_some] <;> rfl) | (simp [*, errW_none, errW_some] <;> rfl), GS.lB HB.out⟩
  ·rw [if_neg c5] at H
   have c5b0 : decide ((l1.length : Int) < 2) = false := decide_eq_false c5
   have c5b1 : decide (l1.length < 2) = false := decide_eq_false (by omega)
   clear c5
   by_cases c9 : (l1.length : Int) > 128
   ·rw [if_pos c9] at H
    have c9b0 : decide (128 < (l1.length : Int)) = true := decide_eq_true c9
    have c9b1 : decide (128 < l1.length) = true := decide_eq_true (by omega)
    clear c9
    obtain rfl := Option.some.inj H
    go_enter Try.func19, Try.ntmps19
    go_wp2_with (first | ((with_reducible refine gqD (N := 2) rfl ?_); (try (refine gate_guard (by rfl) ?_; dsimp only)); refine GS.bx (N := 2) (cs := #[.string a0_0, .int .i64 a0_1, .slice A0_2 l0_2.length c0_2, .int .i64 a0_3]) (t := 24) ?_; intro gb398 hg w10 hbox hb; have n0_ := Aside0.mk (lqT (GS.lB HB.out) hb); have n1_ := Aside0.mk (hbox); have n2_ := Aside0.mk ((by rw [hg]; exact (lqZ (GS.lB HB.out)) : w.heap.size ≤ gb398)); have n3_ := Aside0.mk ((by rw [hg]; exact (lqZ (GS.lB HB.out)) : w.heap.size ≤ gb398)); clear HB; have HB := n0_; have BK398 := n1_; have GW398 := n2_; have GE398 := n3_; clear n0_ n1_ n2_ n3_; clear hb hbox hg; obtain ⟨hcz11_0, hcz11_1, hcz11_2, hcz11_3, hfz11_0, hfz11_1, hfz11_2, hfz11_3⟩ := GS.c4 BK398.out) | ((with_reducible refine gqC (f := 40) rfl ?_); refine GS.gL (some 11) Try.func40 #[.agg #[.string a0_0, .int .i64 a0_1, .slice A0_2 l0_2.length c0_2, .int .i64 a0_3]] ?_; (with_reducible refine (spileref12_is.calls k a0_0 a0_1 _ _ l0_2 a0_3 t399 _ ?side1 ?side2 A3.out).mono ?_); (case side1 => exact GS.rC (Kd.C_below HR0_2.out HB.out)); (case side2 => exact HC0_2.out); rintro e w12 ⟨rfl, hb⟩; refine ⟨_, rfl, ?_⟩; have n0_ := Aside0.mk (bqB (GS.bqX BK398.out) hb); have n1_ := Aside0.mk (lqT (GS.lB HB.out) hb); clear BK398; clear HB; have BK398 := n0_; have HB := n1_; clear n0_ n1_; (try clear hb); (try clear hb2); (try clear hk); (try clear hi)))
    go_ret
    exact ⟨by first | rfl | (simp [errW_none, errW_some] <;> rfl) | (simp [*, errW_none, errW_some] <;> rfl), GS.lB HB.out⟩
   ·rw [if_neg c9] at H
    have c9b0 : decide (128 < (l1.length : Int)) = false := decide_eq_false c9
    have c9b1 : decide (128 < l1.length) = false := decide_eq_false (by omega)
    clear c9
    have H' := Aside0.mk H
    clear H
    go_enter Try.func19, Try.ntmps19
    go_wp2_with (first | ((with_reducible refine gqD (N := 2) rfl ?_); (try (refine gate_guard (by rfl) ?_; dsimp only)); refine GS.bx (N := 2) (cs := #[.string a0_0, .int .i64 a0_1, .slice A0_2 l0_2.length c0_2, .int .i64 a0_3]) (t := 24) ?_; intro gb398 hg w13 hbox hb; have n0_ := Aside0.mk (lqT (GS.lB HB.out) hb); have n1_ := Aside0.mk (hbox); have n2_ := Aside0.mk ((by rw [hg]; exact (lqZ (GS.lB HB.out)) : w.heap.size ≤ gb398)); have n3_ := Aside0.mk ((by rw [hg]; exact (lqZ (GS.lB HB.out)) : w.heap.size ≤ gb398)); clear HB; have HB := n0_; have BK398 := n1_; have GW398 := n2_; have GE398 := n3_; clear n0_ n1_ n2_ n3_; clear hb hbox hg; obtain ⟨hcz14_0, hcz14_1, hcz14_2, hcz14_3, hfz14_0, hfz14_1, hfz14_2, hfz14_3⟩ := GS.c4 BK398.out) | ((with_reducible refine gqC (f := 40) rfl ?_); refine GS.gL (some 11) Try.func40 #[.agg #[.string a0_0, .int .i64 a0_1, .slice A0_2 l0_2.length c0_2, .int .i64 a0_3]] ?_; (with_reducible refine (spileref12_is.calls k a0_0 a0_1 _ _ l0_2 a0_3 t399 _ ?side1 ?side2 A3.out).mono ?_); (case side1 => exact GS.rC (Kd.C_below HR0_2.out HB.out)); (case side2 => exact HC0_2.out); rintro e w15 ⟨rfl, hb⟩; refine ⟨_, rfl, ?_⟩; have n0_ := Aside0.mk (bqB (GS.bqX BK398.out) hb); have n1_ := Aside0.mk (lqT (GS.lB HB.out) hb); clear BK398; clear HB; have BK398 := n0_; have HB := n1_; clear n0_ n1_; (try clear hb); (try clear hb2); (try clear hk); (try clear hi); obtain ⟨hcz16_0, hcz16_1, hcz16_2, hcz16_3, hfz16_0, hfz16_1, hfz16_2, hfz16_3⟩ := GS.c4 BK398.out))
    go_loopg [7] k (fun kq v7 w' => ∃ (x7_1 : Int), v7 = .int .i64 x7_1 ∧ Aside0 (spileref12_Check.l0 kq l1 l0_2 x7_1 = some r) ∧ Aside0 (kq ≤ k) ∧ Aside0 (w'.heap[gb398]? = some (.cells #[.string a0_0, .int .i64 a0_1, (.slice A0_2 l0_2.length c0_2), .int .i64 a0_3] 24 (0, 0))) ∧ Aside0 (Below w.heap.size w w'))
    case atStart => exact ⟨(0), (by first | rfl | (simp; done) | (simp [*]; done)), H', ⟨Nat.le_refl _⟩, ⟨GS.bqX BK398.out⟩, ⟨GS.lB HB.out⟩⟩
    case round =>
     clear H'
     try clear c1
     try clear p2
     try clear c4
     try clear c4b0
     try clear c4b1
     try clear c5
     try clear c5b0
     try clear c5b1
     try clear c9
     try clear c9b0
     try clear c9b1
     try clear hcz11_0
     try clear hcz11_1
     try clear hcz11_2
     try clear hcz11_3
     try clear hcz14_0
     try clear hcz14_1
     try clear hcz14_2
     try clear hcz14_3
     try clear hcz16_0
     try clear hcz16_1
     try clear hcz16_2
     try clear hcz16_3
     try clear hcz7_0
     try clear hcz7_1
     try clear hcz7_2
     try clear hcz7_3
     try clear hfz11_0
     try clear hfz11_1
     try clear hfz11_2
     try clear hfz11_3
     try clear hfz14_0
     try clear hfz14_1
     try clear hfz14_2
     try clear hfz14_3
     try clear hfz16_0
     try clear hfz16_1
     try clear hfz16_2
     try clear hfz16_3
     try clear hfz7_0
     try clear hfz7_1
     try clear hfz7_2
     try clear hfz7_3
     obtain ⟨x7_1, rfl, HA, HK1, BK398, HB⟩ := hrel
     cases gk with
     | zero => exact absurd HA.out (by simp [spileref12_Check.l0])
     | succ k1 =>
      have H := HA.out
      clear HA
      simp only [spileref12_Check.l0] at H
      by_cases c17 : x7_1 < (l1.length : Int)
      ·rw [if_pos c17] at H
       have c17b0 : decide (x7_1 < (l1.length : Int)) = true := decide_eq_true c17
       clear c17
       by_cases c18 : 0 ≤ x7_1
       ·rw [if_pos c18] at H
        have c18b0 : decide (0 ≤ x7_1) = true := decide_eq_true c18
        clear c18
        by_cases c19 : (rd l1 x7_1) < 0
        ·rw [if_pos c19] at H
         have c19b0 : decide ((rd l1 x7_1) < 0) = true := decide_eq_true c19
         clear c19
         obtain rfl := Option.some.inj H
         try go_wp2
         have n0_ := Aside0.mk (bqD BK398.out)
         have n1_ := Aside0.mk (lqD HB.out)
         clear BK398
         clear HB
         have BK398 := n0_
         have HB := n1_
         clear n0_ n1_
         have p400 : 0 ≤ (x7_1 : Int) := of_decide_eq_true (by first | (with_reducible assumption) | assumption)
         have q400 : x7_1 < (l1.length : Int) := of_decide_eq_true (by first | (with_reducible assumption) | assumption)
         obtain ⟨ad400, e400, hx400_0⟩ := Kd.at_int HR1.out x7_1 p400 q400
         have hw400_0 := hx400_0
         cases e400
         replace hx400_0 := (HB.out.cell (World.block_lt_of_cell? w _ hx400_0)).trans hx400_0
         replace p400 := eq_true p400
         replace q400 := eq_true q400
         refine start_ (n := 19) (S := fun w' => w'.cell? (ad400.add (x7_1).toNat) = some (.int .i64 (rd l1 x7_1))) (ds := []) #[false, false, false, false, false, false, false, false, false, false, false, false, false, false, false, false, false, false, false] (by kernel_rfl) rfl rfl (((HB.out.cell (World.block_lt_of_cell? w _ hw400_0)).trans hw400_0)) (fun hHeld => ?_); refine with_tabW spileref12_Check.tab12 spileref12_Check.bits12 (fun HT_ HW_ => ?_)
         generalize wr.drew = w20 at BK398 HB hx400_0 hHeld ⊢
         refine GS.pu 0 (some 29) HT_.out ?_
         refine GS.pu 1 (some 30) HT_.out ?_
         refine GS.pu 2 (some 31) HT_.out ?_
         refine take_ (i := 3) (N := some 32) (v := ?_) (a' := ?_) #[true, true, true, true, false, false, false, false, false, false, false, false, false, false, false, false, false, false, false] rfl rfl (take_ofW HT_.out HW_.out (by kernel_rfl)) (fun _ _ _ h => h) (Or.inl ⟨by rfl, ?_⟩) hHeld ?_ ?_
         rotate_left
         ·intro w' s0
          go_simp
          with_reducible rfl
         rotate_left
         ·simp only [Act.put, List.setIfInBounds_toArray, List.set_cons_zero, List.set_cons_succ, i64_w, i32_w]
          rfl
         refine GS.pu 4 (some 33) HT_.out ?_
         refine GS.pu 5 (some 34) HT_.out ?_
         refine GS.pn 6 (some 35) HT_.out ?_
         refine GS.pn 7 (some 36) HT_.out ?_
         refine GS.pn 8 (some 37) HT_.out ?_
         refine GS.pn 9 (some 38) HT_.out ?_
         refine GS.pn 10 (some 39) HT_.out ?_
         refine GS.pn 11 (some 40) HT_.out ?_
         refine GS.pn 12 (some 41) HT_.out ?_
         refine GS.pn 13 (some 42) HT_.out ?_
         refine GS.pn 14 (some 43) HT_.out ?_
         refine GS.pn 15 (some 44) HT_.out ?_
         refine GS.pn 16 (some 45) HT_.out ?_
         refine GS.pn 17 (some 46) HT_.out ?_
         refine GS.pu 18 (some 47) HT_.out ?_
         refine done_ (done_of HT_.out (by kernel_rfl)) ?_
         try go_wp2
         go_ret
         exact ⟨by first | rfl | (simp [errW_none, errW_some] <;> rfl) | (simp [*, errW_none, errW_some] <;> rfl), GS.lB HB.out⟩
        ·rw [if_neg c19] at H
         have c19b0 : decide ((rd l1 x7_1) < 0) = false := decide_eq_false c19
         clear c19
         obtain ⟨ji21, hji21⟩ : ∃ j_ : Int, (wrap64 ((l0_2.length : Int) - 1)) = j_ := ⟨_, rfl⟩
         replace H : (if 0 ≤ (ji21) then (if (ji21) < (l0_2.length : Int) then (if (rd l1 x7_1) > ((rd_T33 l0_2 (ji21)).f0) then (some 2) else (spileref12_Check.l0 k1 l1 l0_2 (wrap64 (x7_1 + 1)))) else (none)) else (none)) = some r := by first | (rw [hji21] at H; exact H) | (simp only [hji21] at H ⊢; exact H)
         have hji21w : (IntKind.i64.wrap ((l0_2.length : Int) - 1)) = ji21 := (i64_w _).trans hji21
         by_cases c22 : 0 ≤ (ji21)
         ·rw [if_pos c22] at H
          have c22b0 : decide (0 ≤ (ji21)) = true := decide_eq_true c22
          clear c22
          by_cases c23 : (ji21) < (l0_2.length : Int)
          ·rw [if_pos c23] at H
           have c23b0 : decide ((ji21) < (l0_2.length : Int)) = true := decide_eq_true c23
           clear c23
           by_cases c24 : (rd l1 x7_1) > ((rd_T33 l0_2 (ji21)).f0)
           ·rw [if_pos c24] at H
            have c24b0 : decide (((rd_T33 l0_2 (ji21)).f0) < (rd l1 x7_1)) = true := decide_eq_true c24
            clear c24
            obtain rfl := Option.some.inj H
            try go_wp2
            have n0_ := Aside0.mk (bqD BK398.out)
            have n1_ := Aside0.mk (lqD HB.out)
            clear BK398
            clear HB
            have BK398 := n0_
            have HB := n1_
            clear n0_ n1_
            have p400 : 0 ≤ (x7_1 : Int) := of_decide_eq_true (by first | (with_reducible assumption) | assumption)
            have q400 : x7_1 < (l1.length : Int) := of_decide_eq_true (by first | (with_reducible assumption) | assumption)
            obtain ⟨ad400, e400, hx400_0⟩ := Kd.at_int HR1.out x7_1 p400 q400
            have hw400_0 := hx400_0
            cases e400
            replace hx400_0 := (HB.out.cell (World.block_lt_of_cell? w _ hx400_0)).trans hx400_0
            replace p400 := eq_true p400
            replace q400 := eq_true q400
            have p401 : 0 ≤ (x7_1 : Int) := of_decide_eq_true (by first | (with_reducible assumption) | assumption)
            have q401 : x7_1 < (l1.length : Int) := of_decide_eq_true (by first | (with_reducible assumption) | assumption)
            obtain ⟨ad401, e401, hx401_0⟩ := Kd.at_int HR1.out x7_1 p401 q401
            have hw401_0 := hx401_0
            obtain rfl : ad400 = ad401 := (by injection e401)
            replace hx401_0 := (HB.out.cell (World.block_lt_of_cell? w _ hx401_0)).trans hx401_0
            replace p401 := eq_true p401
            replace q401 := eq_true q401
            have p402 : 0 ≤ ((ji21) : Int) := of_decide_eq_true (by first | (with_reducible assumption) | assumption)
            have q402 : (ji21) < (l0_2.length : Int) := of_decide_eq_true (by first | (with_reducible assumption) | assumption)
            obtain ⟨ad402, e402, hx402_0, hx402_1⟩ := at_T33 HR0_2.out (ji21) p402 q402
            have hw402_1 := hx402_1
            have hw402_0 := hx402_0
            cases e402
            replace hx402_0 := (HB.out.cell (World.block_lt_of_cell? w _ hx402_0)).trans hx402_0
            replace hx402_1 := (HB.out.cell (World.block_lt_of_cell? w _ hx402_1)).trans hx402_1
            replace p402 := eq_true p402
            replace q402 := eq_true q402
            refine start_ (n := 19) (S := fun w' => w'.cell? (ad400.add (x7_1).toNat) = some (.int .i64 (rd l1 x7_1)) ∧ w'.cell? (ad400.add (x7_1).toNat) = some (.int .i64 (rd l1 x7_1)) ∧ w'.cell? (ad402.add (((ji21)).toNat * 2)) = some (.int .i64 ((rd_T33 l0_2 (ji21)).f0)) ∧ w'.cell? ⟨(ad402.add (((ji21)).toNat * 2)).block, (ad402.add (((ji21)).toNat * 2)).off + 1, none⟩ = some (.int .i64 ((rd_T33 l0_2 (ji21)).f1))) (ds := []) #[false, false, false, false, false, false, false, false, false, false, false, false, false, false, false, false, false, false, false] (by kernel_rfl) rfl rfl ⟨((HB.out.cell (World.block_lt_of_cell? w _ hw400_0)).trans hw400_0), ((HB.out.cell (World.block_lt_of_cell? w _ hw401_0)).trans hw401_0), ((HB.out.cell (World.block_lt_of_cell? w _ hw402_0)).trans hw402_0), ((HB.out.cell (World.block_lt_of_cell? w _ hw402_1)).trans hw402_1)⟩ (fun hHeld => ?_); refine with_tabW spileref12_Check.tab12 spileref12_Check.bits12 (fun HT_ HW_ => ?_)
            generalize wr.drew = w25 at BK398 HB hx400_0 hx401_0 hx402_0 hx402_1 hHeld ⊢
            refine GS.pu 0 (some 29) HT_.out ?_
            refine GS.pu 1 (some 30) HT_.out ?_
            refine GS.pu 2 (some 31) HT_.out ?_
            refine GS.tk 3 (some 32) HT_.out HW_.out hHeld ?_
            refine GS.pu 4 (some 33) HT_.out ?_
            refine GS.pu 5 (some 34) HT_.out ?_
            refine GS.pu 6 (some 35) HT_.out ?_
            refine GS.pu 7 (some 36) HT_.out ?_
            refine GS.pu 8 (some 37) HT_.out ?_
            refine GS.pu 10 (some 39) HT_.out ?_
            refine GS.pu 11 (some 40) HT_.out ?_
            refine GS.pu 12 (some 41) HT_.out ?_
            refine GS.pu 13 (some 42) HT_.out ?_
            refine GS.pu 14 (some 43) HT_.out ?_
            refine GS.pu 15 (some 44) HT_.out ?_
            refine GS.tk 9 (some 38) HT_.out HW_.out hHeld ?_
            refine GS.tk 16 (some 45) HT_.out HW_.out hHeld ?_
            refine GS.pu 17 (some 46) HT_.out ?_
            refine GS.pu 18 (some 47) HT_.out ?_
            refine done_ (done_of HT_.out (by kernel_rfl)) ?_
            try go_wp2
            go_ret
            exact ⟨by first | rfl | (simp [errW_none, errW_some] <;> rfl) | (simp only [← hji21]; first | rfl | (simp [errW_none, errW_some] <;> rfl)) | (simp [*, errW_none, errW_some] <;> rfl), GS.lB HB.out⟩
           ·rw [if_neg c24] at H
            have c24b0 : decide (((rd_T33 l0_2 (ji21)).f0) < (rd l1 x7_1)) = false := decide_eq_false c24
            clear c24
            have H' := Aside0.mk H
            clear H
            try go_wp2
            have n0_ := Aside0.mk (bqD BK398.out)
            have n1_ := Aside0.mk (lqD HB.out)
            clear BK398
            clear HB
            have BK398 := n0_
            have HB := n1_
            clear n0_ n1_
            have p400 : 0 ≤ (x7_1 : Int) := of_decide_eq_true (by first | (with_reducible assumption) | assumption)
            have q400 : x7_1 < (l1.length : Int) := of_decide_eq_true (by first | (with_reducible assumption) | assumption)
            obtain ⟨ad400, e400, hx400_0⟩ := Kd.at_int HR1.out x7_1 p400 q400
            have hw400_0 := hx400_0
            cases e400
            replace hx400_0 := (HB.out.cell (World.block_lt_of_cell? w _ hx400_0)).trans hx400_0
            replace p400 := eq_true p400
            replace q400 := eq_true q400
            have p401 : 0 ≤ (x7_1 : Int) := of_decide_eq_true (by first | (with_reducible assumption) | assumption)
            have q401 : x7_1 < (l1.length : Int) := of_decide_eq_true (by first | (with_reducible assumption) | assumption)
            obtain ⟨ad401, e401, hx401_0⟩ := Kd.at_int HR1.out x7_1 p401 q401
            have hw401_0 := hx401_0
            obtain rfl : ad400 = ad401 := (by injection e401)
            replace hx401_0 := (HB.out.cell (World.block_lt_of_cell? w _ hx401_0)).trans hx401_0
            replace p401 := eq_true p401
            replace q401 := eq_true q401
            have p402 : 0 ≤ ((ji21) : Int) := of_decide_eq_true (by first | (with_reducible assumption) | assumption)
            have q402 : (ji21) < (l0_2.length : Int) := of_decide_eq_true (by first | (with_reducible assumption) | assumption)
            obtain ⟨ad402, e402, hx402_0, hx402_1⟩ := at_T33 HR0_2.out (ji21) p402 q402
            have hw402_1 := hx402_1
            have hw402_0 := hx402_0
            cases e402
            replace hx402_0 := (HB.out.cell (World.block_lt_of_cell? w _ hx402_0)).trans hx402_0
            replace hx402_1 := (HB.out.cell (World.block_lt_of_cell? w _ hx402_1)).trans hx402_1
            replace p402 := eq_true p402
            replace q402 := eq_true q402
            refine start_ (n := 19) (S := fun w' => w'.cell? (ad400.add (x7_1).toNat) = some (.int .i64 (rd l1 x7_1)) ∧ w'.cell? (ad400.add (x7_1).toNat) = some (.int .i64 (rd l1 x7_1)) ∧ w'.cell? (ad402.add (((ji21)).toNat * 2)) = some (.int .i64 ((rd_T33 l0_2 (ji21)).f0)) ∧ w'.cell? ⟨(ad402.add (((ji21)).toNat * 2)).block, (ad402.add (((ji21)).toNat * 2)).off + 1, none⟩ = some (.int .i64 ((rd_T33 l0_2 (ji21)).f1))) (ds := []) #[false, false, false, false, false, false, false, false, false, false, false, false, false, false, false, false, false, false, false] (by kernel_rfl) rfl rfl ⟨((HB.out.cell (World.block_lt_of_cell? w _ hw400_0)).trans hw400_0), ((HB.out.cell (World.block_lt_of_cell? w _ hw401_0)).trans hw401_0), ((HB.out.cell (World.block_lt_of_cell? w _ hw402_0)).trans hw402_0), ((HB.out.cell (World.block_lt_of_cell? w _ hw402_1)).trans hw402_1)⟩ (fun hHeld => ?_); refine with_tabW spileref12_Check.tab12 spileref12_Check.bits12 (fun HT_ HW_ => ?_)
            generalize wr.drew = w26 at BK398 HB hx400_0 hx401_0 hx402_0 hx402_1 hHeld ⊢
            refine GS.pu 0 (some 29) HT_.out ?_
            refine GS.pu 1 (some 30) HT_.out ?_
            refine GS.pu 2 (some 31) HT_.out ?_
            refine GS.tk 3 (some 32) HT_.out HW_.out hHeld ?_
            refine GS.pu 4 (some 33) HT_.out ?_
            refine GS.pu 5 (some 34) HT_.out ?_
            refine GS.pu 6 (some 35) HT_.out ?_
            refine GS.pu 7 (some 36) HT_.out ?_
            refine GS.pu 8 (some 37) HT_.out ?_
            refine GS.pu 10 (some 39) HT_.out ?_
            refine GS.pu 11 (some 40) HT_.out ?_
            refine GS.pu 12 (some 41) HT_.out ?_
            refine GS.pu 13 (some 42) HT_.out ?_
            refine GS.pu 14 (some 43) HT_.out ?_
            refine GS.pu 15 (some 44) HT_.out ?_
            refine GS.tk 9 (some 38) HT_.out HW_.out hHeld ?_
            refine GS.tk 16 (some 45) HT_.out HW_.out hHeld ?_
            refine GS.pu 17 (some 46) HT_.out ?_
            refine GS.pu 18 (some 47) HT_.out ?_
            refine done_ (done_of HT_.out (by kernel_rfl)) ?_
            try go_wp2
            go_roundg k1
            case measure => have := HK1.out; omega
            case rel => exact ⟨(wrap64 (x7_1 + 1)), (by first | rfl | (simp; done) | (simp [*]; done)), H', ⟨by have := HK1.out; omega⟩, ⟨GS.bqX BK398.out⟩, ⟨GS.lB HB.out⟩⟩
          ·rw [if_neg c23] at H
           exact absurd H (by simp)
         ·rw [if_neg c22] at H
          exact absurd H (by simp)
       ·rw [if_neg c18] at H
        exact absurd H (by simp)
      ·rw [if_neg c17] at H
       have c17b0 : decide (x7_1 < (l1.length : Int)) = false := decide_eq_false c17
       clear c17
       have H' := Aside0.mk H
       clear H
       go_wp2
       go_loopg [8] k1 (fun kq v8 w' => ∃ (x8_2 : Int), v8 = .int .i64 x8_2 ∧ Aside0 (spileref12_Check.l1 kq l1 l0_2 x8_2 = some r) ∧ Aside0 (kq ≤ k1) ∧ Aside0 (w'.heap[gb398]? = some (.cells #[.string a0_0, .int .i64 a0_1, (.slice A0_2 l0_2.length c0_2), .int .i64 a0_3] 24 (0, 0))) ∧ Aside0 (Below w.heap.size w w'))
       case atStart => exact ⟨(1), (by first | rfl | (simp; done) | (simp [*]; done)), H', ⟨Nat.le_refl _⟩, ⟨GS.bqX BK398.out⟩, ⟨GS.lB HB.out⟩⟩
       case round =>
        clear H'
        try clear c1
        try clear c2
        try clear p2
        try clear p4
        try clear q4
        try clear hx4
        try clear p6
        try clear c17
        try clear c17b0
        try clear c18
        try clear c18b0
        try clear c19
        try clear c19b0
        try clear c22
        try clear c22b0
        try clear c23
        try clear c23b0
        try clear c24
        try clear c24b0
        try clear hcz11_3
        try clear hcz14_0
        try clear hcz14_1
        try clear hcz14_2
        try clear hcz14_3
        try clear hcz16_0
        try clear hcz16_1
        try clear hcz16_2
        try clear hcz16_3
        try clear hcz7_0
        try clear hcz7_1
        try clear hcz7_2
        try clear hcz7_3
        try clear hfz11_0
        try clear hfz11_1
        try clear hfz11_2
        try clear hfz11_3
        try clear hfz14_0
        try clear hfz14_1
        try clear hfz14_2
        try clear hfz14_3
        try clear hfz16_0
        try clear hfz16_1
        try clear hfz16_2
        try clear hfz16_3
        try clear hfz7_0
        try clear hfz7_1
        try clear hfz7_2
        try clear hfz7_3
        try clear hx400_0
        try clear hx401_0
        try clear hx402_0
        try clear hx402_1
        try clear p400
        try clear p401
        try clear p402
        try clear q400
        try clear q401
        try clear q402
        obtain ⟨x8_2, rfl, HA, HK2, BK398, HB⟩ := hrel
        cases gk with
        | zero => exact absurd HA.out (by simp [spileref12_Check.l1])
        | succ k2 =>
         have H := HA.out
         clear HA
         simp only [spileref12_Check.l1] at H
         by_cases c27 : x8_2 < (l1.length : Int)
         ·rw [if_pos c27] at H
          have c27b0 : decide (x8_2 < (l1.length : Int)) = true := decide_eq_true c27
          clear c27
          obtain ⟨ji28, hji28⟩ : ∃ j_ : Int, (wrap64 (x8_2 - 1)) = j_ := ⟨_, rfl⟩
          replace H : (if 0 ≤ (ji28) then (if (ji28) < (l1.length : Int) then (if 0 ≤ x8_2 then (if (rd l1 (ji28)) ≥ (rd l1 x8_2) then (some 5) else (spileref12_Check.l1 k2 l1 l0_2 (wrap64 (x8_2 + 1)))) else (none)) else (none)) else (none)) = some r := by first | (rw [hji28] at H; exact H) | (simp only [hji28] at H ⊢; exact H)
          have hji28w : (IntKind.i64.wrap (x8_2 - 1)) = ji28 := (i64_w _).trans hji28
          by_cases c29 : 0 ≤ (ji28)
          ·rw [if_pos c29] at H
           have c29b0 : decide (0 ≤ (ji28)) = true := decide_eq_true c29
           clear c29
           by_cases c30 : (ji28) < (l1.length : Int)
           ·rw [if_pos c30] at H
            have c30b0 : decide ((ji28) < (l1.length : Int)) = true := decide_eq_true c30
            clear c30
            by_cases c31 : 0 ≤ x8_2
            ·rw [if_pos c31] at H
             have c31b0 : decide (0 ≤ x8_2) = true := decide_eq_true c31
             clear c31
             by_cases c32 : (rd l1 (ji28)) ≥ (rd l1 x8_2)
             ·rw [if_pos c32] at H
              have c32b0 : decide ((rd l1 x8_2) ≤ (rd l1 (ji28))) = true := decide_eq_true c32
              clear c32
              obtain rfl := Option.some.inj H
              try go_wp2
              have n0_ := Aside0.mk (bqD BK398.out)
              have n1_ := Aside0.mk (lqD HB.out)
              clear BK398
              clear HB
              have BK398 := n0_
              have HB := n1_
              clear n0_ n1_
              have p403 : 0 ≤ ((ji28) : Int) := of_decide_eq_true (by first | (with_reducible assumption) | assumption)
              have q403 : (ji28) < (l1.length : Int) := of_decide_eq_true (by first | (with_reducible assumption) | assumption)
              obtain ⟨ad403, e403, hx403_0⟩ := Kd.at_int HR1.out (ji28) p403 q403
              have hw403_0 := hx403_0
              cases e403
              replace hx403_0 := (HB.out.cell (World.block_lt_of_cell? w _ hx403_0)).trans hx403_0
              replace p403 := eq_true p403
              replace q403 := eq_true q403
              have p404 : 0 ≤ (x8_2 : Int) := of_decide_eq_true (by first | (with_reducible assumption) | assumption)
              have q404 : x8_2 < (l1.length : Int) := of_decide_eq_true (by first | (with_reducible assumption) | assumption)
              obtain ⟨ad404, e404, hx404_0⟩ := Kd.at_int HR1.out x8_2 p404 q404
              have hw404_0 := hx404_0
              obtain rfl : ad403 = ad404 := (by injection e404)
              replace hx404_0 := (HB.out.cell (World.block_lt_of_cell? w _ hx404_0)).trans hx404_0
              replace p404 := eq_true p404
              replace q404 := eq_true q404
              refine start_ (n := 10) (S := fun w' => w'.cell? (ad403.add ((ji28)).toNat) = some (.int .i64 (rd l1 (ji28))) ∧ w'.cell? (ad403.add (x8_2).toNat) = some (.int .i64 (rd l1 x8_2))) (ds := []) #[false, false, false, false, false, false, false, false, false, false] (by kernel_rfl) rfl rfl ⟨((HB.out.cell (World.block_lt_of_cell? w _ hw403_0)).trans hw403_0), ((HB.out.cell (World.block_lt_of_cell? w _ hw404_0)).trans hw404_0)⟩ (fun hHeld => ?_); refine with_tabW spileref12_Check.tab17 spileref12_Check.bits17 (fun HT_ HW_ => ?_)
              generalize wr.drew = w33 at BK398 HB hx403_0 hx404_0 hHeld ⊢
              refine GS.pu 0 (some 54) HT_.out ?_
              refine GS.pu 1 (some 55) HT_.out ?_
              refine GS.pu 2 (some 56) HT_.out ?_
              refine GS.pu 3 (some 57) HT_.out ?_
              refine GS.pu 5 (some 59) HT_.out ?_
              refine GS.pu 6 (some 60) HT_.out ?_
              refine GS.pu 7 (some 61) HT_.out ?_
              refine GS.tk 4 (some 58) HT_.out HW_.out hHeld ?_
              refine GS.tk 8 (some 62) HT_.out HW_.out hHeld ?_
              refine GS.pu 9 (some 63) HT_.out ?_
              refine done_ (done_of HT_.out (by kernel_rfl)) ?_
              try go_wp2
              go_ret
              exact ⟨by first | rfl | (simp [errW_none, errW_some] <;> rfl) | (simp only [← hji28]; first | rfl | (simp [errW_none, errW_some] <;> rfl)) | (simp [*, errW_none, errW_some] <;> rfl), GS.lB HB.out⟩
             ·rw [if_neg c32] at H
              have c32b0 : decide ((rd l1 x8_2) ≤ (rd l1 (ji28))) = false := decide_eq_false c32
              clear c32
              have H' := Aside0.mk H
              clear H
              try go_wp2
              have n0_ := Aside0.mk (bqD BK398.out)
              have n1_ := Aside0.mk (lqD HB.out)
              clear BK398
              clear HB
              have BK398 := n0_
              have HB := n1_
              clear n0_ n1_
              have p403 : 0 ≤ ((ji28) : Int) := of_decide_eq_true (by first | (with_reducible assumption) | assumption)
              have q403 : (ji28) < (l1.length : Int) := of_decide_eq_true (by first | (with_reducible assumption) | assumption)
              obtain ⟨ad403, e403, hx403_0⟩ := Kd.at_int HR1.out (ji28) p403 q403
              have hw403_0 := hx403_0
              cases e403
              replace hx403_0 := (HB.out.cell (World.block_lt_of_cell? w _ hx403_0)).trans hx403_0
              replace p403 := eq_true p403
              replace q403 := eq_true q403
              have p404 : 0 ≤ (x8_2 : Int) := of_decide_eq_true (by first | (with_reducible assumption) | assumption)
              have q404 : x8_2 < (l1.length : Int) := of_decide_eq_true (by first | (with_reducible assumption) | assumption)
              obtain ⟨ad404, e404, hx404_0⟩ := Kd.at_int HR1.out x8_2 p404 q404
              have hw404_0 := hx404_0
              obtain rfl : ad403 = ad404 := (by injection e404)
              replace hx404_0 := (HB.out.cell (World.block_lt_of_cell? w _ hx404_0)).trans hx404_0
              replace p404 := eq_true p404
              replace q404 := eq_true q404
              refine start_ (n := 10) (S := fun w' => w'.cell? (ad403.add ((ji28)).toNat) = some (.int .i64 (rd l1 (ji28))) ∧ w'.cell? (ad403.add (x8_2).toNat) = some (.int .i64 (rd l1 x8_2))) (ds := []) #[false, false, false, false, false, false, false, false, false, false] (by kernel_rfl) rfl rfl ⟨((HB.out.cell (World.block_lt_of_cell? w _ hw403_0)).trans hw403_0), ((HB.out.cell (World.block_lt_of_cell? w _ hw404_0)).trans hw404_0)⟩ (fun hHeld => ?_); refine with_tabW spileref12_Check.tab17 spileref12_Check.bits17 (fun HT_ HW_ => ?_)
              generalize wr.drew = w34 at BK398 HB hx403_0 hx404_0 hHeld ⊢
              refine GS.pu 0 (some 54) HT_.out ?_
              refine GS.pu 1 (some 55) HT_.out ?_
              refine GS.pu 2 (some 56) HT_.out ?_
              refine GS.pu 3 (some 57) HT_.out ?_
              refine GS.pu 5 (some 59) HT_.out ?_
              refine GS.pu 6 (some 60) HT_.out ?_
              refine GS.pu 7 (some 61) HT_.out ?_
              refine GS.tk 4 (some 58) HT_.out HW_.out hHeld ?_
              refine GS.tk 8 (some 62) HT_.out HW_.out hHeld ?_
              refine GS.pu 9 (some 63) HT_.out ?_
              refine done_ (done_of HT_.out (by kernel_rfl)) ?_
              try go_wp2
              go_roundg k2
              case measure => have := HK1.out; have := HK2.out; omega
              case rel => exact ⟨(wrap64 (x8_2 + 1)), (by first | rfl | (simp; done) | (simp [*]; done)), H', ⟨by have := HK1.out; have := HK2.out; omega⟩, ⟨GS.bqX BK398.out⟩, ⟨GS.lB HB.out⟩⟩
            ·rw [if_neg c31] at H
             exact absurd H (by simp)
           ·rw [if_neg c30] at H
            exact absurd H (by simp)
          ·rw [if_neg c29] at H
           exact absurd H (by simp)
         ·rw [if_neg c27] at H
          have c27b0 : decide (x8_2 < (l1.length : Int)) = false := decide_eq_false c27
          clear c27
          have H' := Aside0.mk H
          clear H
          go_wp2
          go_loopg [9] k2 (fun kq v9 w' => ∃ (x9_3 : Int), v9 = .int .i64 x9_3 ∧ Aside0 (spileref12_Check.l2 kq l1 l0_2 x9_3 = some r) ∧ Aside0 (kq ≤ k2) ∧ Aside0 (w'.heap[gb398]? = some (.cells #[.string a0_0, .int .i64 a0_1, (.slice A0_2 l0_2.length c0_2), .int .i64 a0_3] 24 (0, 0))) ∧ Aside0 (Below w.heap.size w w'))
          case atStart => exact ⟨(0), (by first | rfl | (simp; done) | (simp [*]; done)), H', ⟨Nat.le_refl _⟩, ⟨GS.bqX BK398.out⟩, ⟨GS.lB HB.out⟩⟩
          case round =>
           clear H'
           try clear c1
           try clear c2
           try clear p2
           try clear c3
           try clear p4
           try clear q4
           try clear hx4
           try clear p6
           try clear c17
           try clear c17b0
           try clear c18
           try clear c18b0
           try clear c19
           try clear c19b0
           try clear c22
           try clear c22b0
           try clear c23
           try clear c23b0
           try clear c24
           try clear c24b0
           try clear c27
           try clear c27b0
           try clear c29
           try clear c29b0
           try clear c30
           try clear c30b0
           try clear c31
           try clear c31b0
           try clear c32
           try clear c32b0
           try clear hcz11_3
           try clear hcz14_0
           try clear hcz14_1
           try clear hcz14_2
           try clear hcz14_3
           try clear hcz16_0
           try clear hcz16_1
           try clear hcz16_2
           try clear hcz16_3
           try clear hcz7_0
           try clear hcz7_1
           try clear hcz7_2
           try clear hcz7_3
           try clear hfz11_0
           try clear hfz11_1
           try clear hfz11_2
           try clear hfz11_3
           try clear hfz14_0
           try clear hfz14_1
           try clear hfz14_2
           try clear hfz14_3
           try clear hfz16_0
           try clear hfz16_1
           try clear hfz16_2
           try clear hfz16_3
           try clear hfz7_0
           try clear hfz7_1
           try clear hfz7_2
           try clear hfz7_3
           try clear hx400_0
           try clear hx401_0
           try clear hx402_0
           try clear hx402_1
           try clear hx403_0
           try clear hx404_0
           try clear p2
           try clear p4
           try clear p400
           try clear p401
           try clear p402
           try clear p403
           try clear p404
           try clear p6
           try clear q4
           try clear q400
           try clear q401
           try clear q402
           try clear q403
           try clear q404
           obtain ⟨x9_3, rfl, HA, HK3, BK398, HB⟩ := hrel
           cases gk with
           | zero => exact absurd HA.out (by simp [spileref12_Check.l2])
           | succ k3 =>
            have H := HA.out
            clear HA
            simp only [spileref12_Check.l2] at H
            by_cases c35 : x9_3 < (l0_2.length : Int)
            ·rw [if_pos c35] at H
             have c35b0 : decide (x9_3 < (l0_2.length : Int)) = true := decide_eq_true c35
             clear c35
             have HC36 := Aside0.mk H
             clear H
             go_upto_region 22 with (fail)
             go_cut [102] (fun v102 wc => ∃ (kq : Nat) (x102_35 : Bool), v102 = .bool x102_35 ∧ Aside0 (spileref12_Check.j3 kq l1 l0_2 x9_3 x102_35 = some r) ∧ Aside0 (kq ≤ k3) ∧ Aside0 (wc.heap[gb398]? = some (.cells #[.string a0_0, .int .i64 a0_1, (.slice A0_2 l0_2.length c0_2), .int .i64 a0_3] 24 (0, 0))) ∧ Aside0 (Below w.heap.size w wc))
             case first =>
              have H := HC36.out
              clear HC36
              by_cases c37 : 0 ≤ x9_3
              ·rw [if_pos c37] at H
               have c37b0 : decide (0 ≤ x9_3) = true := decide_eq_true c37
               clear c37
               (first | rw [c37b0] | (simp only [i64_w, i32_w]; rw [c37b0]) | skip)
               by_cases c38 : 0 < (l1.length : Int)
               ·rw [if_pos c38] at H
                have c38b0 : decide (0 < (l1.length : Int)) = true := decide_eq_true c38
                have c38b1 : decide (0 < l1.length) = true := decide_eq_true (by omega)
                clear c38
                by_cases c39 : ((rd_T33 l0_2 x9_3).f0) > (rd l1 0)
                ·rw [if_pos c39] at H
                 have c39b0 : decide ((rd l1 0) < ((rd_T33 l0_2 x9_3).f0)) = true := decide_eq_true c39
                 clear c39
                 obtain ⟨ji40, hji40⟩ : ∃ j_ : Int, (wrap64 ((l1.length : Int) - 1)) = j_ := ⟨_, rfl⟩
                 replace H : (if 0 ≤ (ji40) then (if (ji40) < (l1.length : Int) then (if ((rd_T33 l0_2 x9_3).f0) < (rd l1 (ji40)) then ((spileref12_has.f k3 l1 ((rd_T33 l0_2 x9_3).f0)).bind fun t410 => (spileref12_Check.j3 k3 l1 l0_2 x9_3 (!t410))) else (spileref12_Check.j3 k3 l1 l0_2 x9_3 false)) else (none)) else (none)) = some r := by first | (rw [hji40] at H; exact H) | (simp only [hji40] at H ⊢; exact H)
                 have hji40w : (IntKind.i64.wrap ((l1.length : Int) - 1)) = ji40 := (i64_w _).trans hji40
                 by_cases c41 : 0 ≤ (ji40)
                 ·rw [if_pos c41] at H
                  have c41b0 : decide (0 ≤ (ji40)) = true := decide_eq_true c41
                  clear c41
                  by_cases c42 : (ji40) < (l1.length : Int)
                  ·rw [if_pos c42] at H
                   have c42b0 : decide ((ji40) < (l1.length : Int)) = true := decide_eq_true c42
                   clear c42
                   by_cases c43 : ((rd_T33 l0_2 x9_3).f0) < (rd l1 (ji40))
                   ·rw [if_pos c43] at H
                    have c43b0 : decide (((rd_T33 l0_2 x9_3).f0) < (rd l1 (ji40))) = true := decide_eq_true c43
                    clear c43
                    replace H := Option.bind_eq_some_iff.mp H
                    obtain ⟨t410, A440, H⟩ := H
                    replace H : (spileref12_Check.j3 k3 l1 l0_2 x9_3 (!t410)) = some r := H
                    have A44 := Aside0.mk A440
                    clear A440
                    have H' := Aside0.mk H
                    clear H
                    try go_wp2
                    have n0_ := Aside0.mk (bqD BK398.out)
                    have n1_ := Aside0.mk (lqD HB.out)
                    clear BK398
                    clear HB
                    have BK398 := n0_
                    have HB := n1_
                    clear n0_ n1_
                    have p405 : 0 ≤ (x9_3 : Int) := of_decide_eq_true (by first | (with_reducible assumption) | assumption)
                    have q405 : x9_3 < (l0_2.length : Int) := of_decide_eq_true (by first | (with_reducible assumption) | assumption)
                    obtain ⟨ad405, e405, hx405_0, hx405_1⟩ := at_T33 HR0_2.out x9_3 p405 q405
                    have hw405_1 := hx405_1
                    have hw405_0 := hx405_0
                    cases e405
                    replace hx405_0 := (HB.out.cell (World.block_lt_of_cell? w _ hx405_0)).trans hx405_0
                    replace hx405_1 := (HB.out.cell (World.block_lt_of_cell? w _ hx405_1)).trans hx405_1
                    replace p405 := eq_true p405
                    replace q405 := eq_true q405
                    have p406 : 0 ≤ (0 : Int) := (by omega)
                    have q406 : 0 < (l1.length : Int) := of_decide_eq_true (by first | (with_reducible assumption) | assumption)
                    obtain ⟨ad406, e406, hx406_0⟩ := Kd.at_int HR1.out 0 p406 q406
                    have hw406_0 := hx406_0
                    (try rw [show ((0 : Int)).toNat = 0 from rfl] at hw406_0)
                    (try rw [show 0 * 1 = 0 from rfl] at hw406_0)
                    (try rw [Addr.add_zero'] at hw406_0)
                    cases e406
                    have qi406 : (0 < l1.length) = True := eq_true (by omega)
                    (try rw [show ((0 : Int)).toNat = 0 from rfl] at hx406_0)
                    (try rw [Addr.add_zero'] at hx406_0)
                    replace hx406_0 := (HB.out.cell (World.block_lt_of_cell? w _ hx406_0)).trans hx406_0
                    replace p406 := eq_true p406
                    replace q406 := eq_true q406
                    have p407 : 0 ≤ (x9_3 : Int) := of_decide_eq_true (by first | (with_reducible assumption) | assumption)
                    have q407 : x9_3 < (l0_2.length : Int) := of_decide_eq_true (by first | (with_reducible assumption) | assumption)
                    obtain ⟨ad407, e407, hx407_0, hx407_1⟩ := at_T33 HR0_2.out x9_3 p407 q407
                    have hw407_1 := hx407_1
                    have hw407_0 := hx407_0
                    obtain rfl : ad405 = ad407 := (by injection e407)
                    replace hx407_0 := (HB.out.cell (World.block_lt_of_cell? w _ hx407_0)).trans hx407_0
                    replace hx407_1 := (HB.out.cell (World.block_lt_of_cell? w _ hx407_1)).trans hx407_1
                    replace p407 := eq_true p407
                    replace q407 := eq_true q407
                    have p408 : 0 ≤ ((ji40) : Int) := of_decide_eq_true (by first | (with_reducible assumption) | assumption)
                    have q408 : (ji40) < (l1.length : Int) := of_decide_eq_true (by first | (with_reducible assumption) | assumption)
                    obtain ⟨ad408, e408, hx408_0⟩ := Kd.at_int HR1.out (ji40) p408 q408
                    have hw408_0 := hx408_0
                    obtain rfl : ad406 = ad408 := (by injection e408)
                    replace hx408_0 := (HB.out.cell (World.block_lt_of_cell? w _ hx408_0)).trans hx408_0
                    replace p408 := eq_true p408
                    replace q408 := eq_true q408
                    have p409 : 0 ≤ (x9_3 : Int) := of_decide_eq_true (by first | (with_reducible assumption) | assumption)
                    have q409 : x9_3 < (l0_2.length : Int) := of_decide_eq_true (by first | (with_reducible assumption) | assumption)
                    obtain ⟨ad409, e409, hx409_0, hx409_1⟩ := at_T33 HR0_2.out x9_3 p409 q409
                    have hw409_1 := hx409_1
                    have hw409_0 := hx409_0
                    obtain rfl : ad405 = ad409 := (by injection e409)
                    replace hx409_0 := (HB.out.cell (World.block_lt_of_cell? w _ hx409_0)).trans hx409_0
                    replace hx409_1 := (HB.out.cell (World.block_lt_of_cell? w _ hx409_1)).trans hx409_1
                    replace p409 := eq_true p409
                    replace q409 := eq_true q409
                    refine start_ (n := 33) (S := fun w' => w'.cell? (ad405.add ((x9_3).toNat * 2)) = some (.int .i64 ((rd_T33 l0_2 x9_3).f0)) ∧ w'.cell? ⟨(ad405.add ((x9_3).toNat * 2)).block, (ad405.add ((x9_3).toNat * 2)).off + 1, none⟩ = some (.int .i64 ((rd_T33 l0_2 x9_3).f1)) ∧ w'.cell? ad406 = some (.int .i64 (rd l1 0)) ∧ w'.cell? (ad405.add ((x9_3).toNat * 2)) = some (.int .i64 ((rd_T33 l0_2 x9_3).f0)) ∧ w'.cell? ⟨(ad405.add ((x9_3).toNat * 2)).block, (ad405.add ((x9_3).toNat * 2)).off + 1, none⟩ = some (.int .i64 ((rd_T33 l0_2 x9_3).f1)) ∧ w'.cell? (ad406.add ((ji40)).toNat) = some (.int .i64 (rd l1 (ji40))) ∧ w'.cell? (ad405.add ((x9_3).toNat * 2)) = some (.int .i64 ((rd_T33 l0_2 x9_3).f0)) ∧ w'.cell? ⟨(ad405.add ((x9_3).toNat * 2)).block, (ad405.add ((x9_3).toNat * 2)).off + 1, none⟩ = some (.int .i64 ((rd_T33 l0_2 x9_3).f1))) (ds := []) #[false, false, false, false, false, false, false, false, false, false, false, false, false, false, false, false, false, false, false, false, false, false, false, false, false, false, false, false, false, false, false, false, false] (by kernel_rfl) rfl rfl ⟨((HB.out.cell (World.block_lt_of_cell? w _ hw405_0)).trans hw405_0), ((HB.out.cell (World.block_lt_of_cell? w _ hw405_1)).trans hw405_1), ((HB.out.cell (World.block_lt_of_cell? w _ hw406_0)).trans hw406_0), ((HB.out.cell (World.block_lt_of_cell? w _ hw407_0)).trans hw407_0), ((HB.out.cell (World.block_lt_of_cell? w _ hw407_1)).trans hw407_1), ((HB.out.cell (World.block_lt_of_cell? w _ hw408_0)).trans hw408_0), ((HB.out.cell (World.block_lt_of_cell? w _ hw409_0)).trans hw409_0), ((HB.out.cell (World.block_lt_of_cell? w _ hw409_1)).trans hw409_1)⟩ (fun hHeld => ?_); refine with_tabW spileref12_Check.tab22 spileref12_Check.bits22 (fun HT_ HW_ => ?_)
                    generalize wr.drew = w45 at BK398 HB hx405_0 hx405_1 hx406_0 hx407_0 hx407_1 hx408_0 hx409_0 hx409_1 hHeld ⊢
                    refine GS.pu 0 (some 70) HT_.out ?_
                    refine GS.pu 1 (some 71) HT_.out ?_
                    refine GS.pu 2 (some 72) HT_.out ?_
                    refine GS.pu 3 (some 73) HT_.out ?_
                    refine GS.pu 5 (some 75) HT_.out ?_
                    refine GS.pu 6 (some 76) HT_.out ?_
                    refine GS.tk 4 (some 74) HT_.out HW_.out hHeld ?_
                    refine GS.tk 7 (some 77) HT_.out HW_.out hHeld ?_
                    refine GS.pu 8 (some 78) HT_.out ?_
                    refine GS.pu 9 (some 79) HT_.out ?_
                    refine GS.pu 10 (some 80) HT_.out ?_
                    refine GS.pu 11 (some 81) HT_.out ?_
                    refine GS.pu 12 (some 82) HT_.out ?_
                    refine GS.pu 13 (some 83) HT_.out ?_
                    refine GS.pu 15 (some 85) HT_.out ?_
                    refine GS.pu 16 (some 86) HT_.out ?_
                    refine GS.pu 17 (some 87) HT_.out ?_
                    refine GS.pu 18 (some 88) HT_.out ?_
                    refine GS.pu 19 (some 89) HT_.out ?_
                    refine GS.tk 14 (some 84) HT_.out HW_.out hHeld ?_
                    refine GS.tk 20 (some 90) HT_.out HW_.out hHeld ?_
                    refine GS.pu 21 (some 91) HT_.out ?_
                    refine GS.pu 22 (some 92) HT_.out ?_
                    refine GS.pu 23 (some 93) HT_.out ?_
                    refine GS.pu 24 (some 94) HT_.out ?_
                    refine GS.pu 25 (some 95) HT_.out ?_
                    refine GS.pu 26 (some 96) HT_.out ?_
                    refine GS.pu 27 (some 97) HT_.out ?_
                    refine GS.pu 28 (some 98) HT_.out ?_
                    refine GS.tk 29 (some 99) HT_.out HW_.out hHeld ?_
                    refine one_ (i := 30) (N := some 100) #[true, true, true, true, true, true, true, true, true, true, true, true, true, true, true, true, true, true, true, true, true, true, true, true, true, true, true, true, true, true, true, false, false] rfl rfl (one_of HT_.out (by kernel_rfl)) (by decide) (fun K hK => ?_)
                    refine goes_ Try.func41 (by kernel_rfl) rfl #[.slice (some ad406) l1.length c1, .int .i64 ((rd_T33 l0_2 x9_3).f0)] (by rfl) rfl rfl (by (try simp only [List.map_toArray, List.map_cons, List.map_nil]); first | done | rfl | (simp only [List.length_drop, List.length_take]; rfl)) ?_
                    with_reducible refine (spileref12_has.calls k3 _ _ l1 ((rd_T33 l0_2 x9_3).f0) t410 _ ?side1 ?side2 A44.out).mono ?_
                    (case side1 => exact GS.rC (Kd.C_below HR1.out HB.out))
                    (case side2 => exact HC1.out)
                    rintro e w' ⟨rfl, ⟨nd, rfl⟩⟩
                    refine ⟨_, rfl, ?_⟩
                    refine hK.out _ _ ⟨((HB.out.cell (World.block_lt_of_cell? w _ hw405_0)).trans hw405_0), ((HB.out.cell (World.block_lt_of_cell? w _ hw405_1)).trans hw405_1), ((HB.out.cell (World.block_lt_of_cell? w _ hw406_0)).trans hw406_0), ((HB.out.cell (World.block_lt_of_cell? w _ hw407_0)).trans hw407_0), ((HB.out.cell (World.block_lt_of_cell? w _ hw407_1)).trans hw407_1), ((HB.out.cell (World.block_lt_of_cell? w _ hw408_0)).trans hw408_0), ((HB.out.cell (World.block_lt_of_cell? w _ hw409_0)).trans hw409_0), ((HB.out.cell (World.block_lt_of_cell? w _ hw409_1)).trans hw409_1)⟩ (fun hHeld => ?_)
                    clear hK K
                    refine norm_ (a' := ?_) ?_ ?_
                    rotate_left
                    ·show Act.put _ (some 100) _ = _
                     simp only [Act.put, List.setIfInBounds_toArray, List.set_cons_zero, List.set_cons_succ, i64_w, i32_w]
                     rfl
                    refine GS.pu 31 (some 101) HT_.out ?_
                    refine GS.pu 32 (some 102) HT_.out ?_
                    refine done_ (done_of HT_.out (by kernel_rfl)) ?_
                    try go_wp2
                    go_meet
                    case rel => exact ⟨_, (!t410), (by first | rfl | (simp; done) | (simp [*]; done)), H', ⟨by have := HK1.out; have := HK2.out; have := HK3.out; first | omega | exact Nat.le_refl _⟩, ⟨GS.bqX BK398.out⟩, ⟨GS.lB HB.out⟩⟩
                   ·rw [if_neg c43] at H
                    have c43b0 : decide (((rd_T33 l0_2 x9_3).f0) < (rd l1 (ji40))) = false := decide_eq_false c43
                    clear c43
                    have H' := Aside0.mk H
                    clear H
                    try go_wp2
                    have n0_ := Aside0.mk (bqD BK398.out)
                    have n1_ := Aside0.mk (lqD HB.out)
                    clear BK398
                    clear HB
                    have BK398 := n0_
                    have HB := n1_
                    clear n0_ n1_
                    have p405 : 0 ≤ (x9_3 : Int) := of_decide_eq_true (by first | (with_reducible assumption) | assumption)
                    have q405 : x9_3 < (l0_2.length : Int) := of_decide_eq_true (by first | (with_reducible assumption) | assumption)
                    obtain ⟨ad405, e405, hx405_0, hx405_1⟩ := at_T33 HR0_2.out x9_3 p405 q405
                    have hw405_1 := hx405_1
                    have hw405_0 := hx405_0
                    cases e405
                    replace hx405_0 := (HB.out.cell (World.block_lt_of_cell? w _ hx405_0)).trans hx405_0
                    replace hx405_1 := (HB.out.cell (World.block_lt_of_cell? w _ hx405_1)).trans hx405_1
                    replace p405 := eq_true p405
                    replace q405 := eq_true q405
                    have p406 : 0 ≤ (0 : Int) := (by omega)
                    have q406 : 0 < (l1.length : Int) := of_decide_eq_true (by first | (with_reducible assumption) | assumption)
                    obtain ⟨ad406, e406, hx406_0⟩ := Kd.at_int HR1.out 0 p406 q406
                    have hw406_0 := hx406_0
                    (try rw [show ((0 : Int)).toNat = 0 from rfl] at hw406_0)
                    (try rw [show 0 * 1 = 0 from rfl] at hw406_0)
                    (try rw [Addr.add_zero'] at hw406_0)
                    cases e406
                    have qi406 : (0 < l1.length) = True := eq_true (by omega)
                    (try rw [show ((0 : Int)).toNat = 0 from rfl] at hx406_0)
                    (try rw [Addr.add_zero'] at hx406_0)
                    replace hx406_0 := (HB.out.cell (World.block_lt_of_cell? w _ hx406_0)).trans hx406_0
                    replace p406 := eq_true p406
                    replace q406 := eq_true q406
                    have p407 : 0 ≤ (x9_3 : Int) := of_decide_eq_true (by first | (with_reducible assumption) | assumption)
                    have q407 : x9_3 < (l0_2.length : Int) := of_decide_eq_true (by first | (with_reducible assumption) | assumption)
                    obtain ⟨ad407, e407, hx407_0, hx407_1⟩ := at_T33 HR0_2.out x9_3 p407 q407
                    have hw407_1 := hx407_1
                    have hw407_0 := hx407_0
                    obtain rfl : ad405 = ad407 := (by injection e407)
                    replace hx407_0 := (HB.out.cell (World.block_lt_of_cell? w _ hx407_0)).trans hx407_0
                    replace hx407_1 := (HB.out.cell (World.block_lt_of_cell? w _ hx407_1)).trans hx407_1
                    replace p407 := eq_true p407
                    replace q407 := eq_true q407
                    have p408 : 0 ≤ ((ji40) : Int) := of_decide_eq_true (by first | (with_reducible assumption) | assumption)
                    have q408 : (ji40) < (l1.length : Int) := of_decide_eq_true (by first | (with_reducible assumption) | assumption)
                    obtain ⟨ad408, e408, hx408_0⟩ := Kd.at_int HR1.out (ji40) p408 q408
                    have hw408_0 := hx408_0
                    obtain rfl : ad406 = ad408 := (by injection e408)
                    replace hx408_0 := (HB.out.cell (World.block_lt_of_cell? w _ hx408_0)).trans hx408_0
                    replace p408 := eq_true p408
                    replace q408 := eq_true q408
                    refine start_ (n := 33) (S := fun w' => w'.cell? (ad405.add ((x9_3).toNat * 2)) = some (.int .i64 ((rd_T33 l0_2 x9_3).f0)) ∧ w'.cell? ⟨(ad405.add ((x9_3).toNat * 2)).block, (ad405.add ((x9_3).toNat * 2)).off + 1, none⟩ = some (.int .i64 ((rd_T33 l0_2 x9_3).f1)) ∧ w'.cell? ad406 = some (.int .i64 (rd l1 0)) ∧ w'.cell? (ad405.add ((x9_3).toNat * 2)) = some (.int .i64 ((rd_T33 l0_2 x9_3).f0)) ∧ w'.cell? ⟨(ad405.add ((x9_3).toNat * 2)).block, (ad405.add ((x9_3).toNat * 2)).off + 1, none⟩ = some (.int .i64 ((rd_T33 l0_2 x9_3).f1)) ∧ w'.cell? (ad406.add ((ji40)).toNat) = some (.int .i64 (rd l1 (ji40)))) (ds := []) #[false, false, false, false, false, false, false, false, false, false, false, false, false, false, false, false, false, false, false, false, false, false, false, false, false, false, false, false, false, false, false, false, false] (by kernel_rfl) rfl rfl ⟨((HB.out.cell (World.block_lt_of_cell? w _ hw405_0)).trans hw405_0), ((HB.out.cell (World.block_lt_of_cell? w _ hw405_1)).trans hw405_1), ((HB.out.cell (World.block_lt_of_cell? w _ hw406_0)).trans hw406_0), ((HB.out.cell (World.block_lt_of_cell? w _ hw407_0)).trans hw407_0), ((HB.out.cell (World.block_lt_of_cell? w _ hw407_1)).trans hw407_1), ((HB.out.cell (World.block_lt_of_cell? w _ hw408_0)).trans hw408_0)⟩ (fun hHeld => ?_); refine with_tabW spileref12_Check.tab22 spileref12_Check.bits22 (fun HT_ HW_ => ?_)
                    generalize wr.drew = w46 at BK398 HB hx405_0 hx405_1 hx406_0 hx407_0 hx407_1 hx408_0 hHeld ⊢
                    refine GS.pu 0 (some 70) HT_.out ?_
                    refine GS.pu 1 (some 71) HT_.out ?_
                    refine GS.pu 2 (some 72) HT_.out ?_
                    refine GS.pu 3 (some 73) HT_.out ?_
                    refine GS.pu 5 (some 75) HT_.out ?_
                    refine GS.pu 6 (some 76) HT_.out ?_
                    refine GS.tk 4 (some 74) HT_.out HW_.out hHeld ?_
                    refine GS.tk 7 (some 77) HT_.out HW_.out hHeld ?_
                    refine GS.pu 8 (some 78) HT_.out ?_
                    refine GS.pu 9 (some 79) HT_.out ?_
                    refine GS.pu 10 (some 80) HT_.out ?_
                    refine GS.pu 11 (some 81) HT_.out ?_
                    refine GS.pu 12 (some 82) HT_.out ?_
                    refine GS.pu 13 (some 83) HT_.out ?_
                    refine GS.pu 15 (some 85) HT_.out ?_
                    refine GS.pu 16 (some 86) HT_.out ?_
                    refine GS.pu 17 (some 87) HT_.out ?_
                    refine GS.pu 18 (some 88) HT_.out ?_
                    refine GS.pu 19 (some 89) HT_.out ?_
                    refine GS.tk 14 (some 84) HT_.out HW_.out hHeld ?_
                    refine GS.tk 20 (some 90) HT_.out HW_.out hHeld ?_
                    refine GS.pu 21 (some 91) HT_.out ?_
                    refine GS.pu 22 (some 92) HT_.out ?_
                    refine GS.pu 23 (some 93) HT_.out ?_
                    refine GS.pn 24 (some 94) HT_.out ?_
                    refine GS.pn 25 (some 95) HT_.out ?_
                    refine GS.pn 26 (some 96) HT_.out ?_
                    refine GS.pn 27 (some 97) HT_.out ?_
                    refine GS.pn 28 (some 98) HT_.out ?_
                    refine GS.pn 29 (some 99) HT_.out ?_
                    refine GS.pn 30 (some 100) HT_.out ?_
                    refine GS.pn 31 (some 101) HT_.out ?_
                    refine GS.pu 32 (some 102) HT_.out ?_
                    refine done_ (done_of HT_.out (by kernel_rfl)) ?_
                    try go_wp2
                    go_meet
                    case rel => exact ⟨_, (false), (by first | rfl | (simp; done) | (simp [*]; done)), H', ⟨by have := HK1.out; have := HK2.out; have := HK3.out; first | omega | exact Nat.le_refl _⟩, ⟨GS.bqX BK398.out⟩, ⟨GS.lB HB.out⟩⟩
                  ·rw [if_neg c42] at H
                   exact absurd H (by simp)
                 ·rw [if_neg c41] at H
                  exact absurd H (by simp)
                ·rw [if_neg c39] at H
                 have c39b0 : decide ((rd l1 0) < ((rd_T33 l0_2 x9_3).f0)) = false := decide_eq_false c39
                 clear c39
                 have H' := Aside0.mk H
                 clear H
                 try go_wp2
                 have n0_ := Aside0.mk (bqD BK398.out)
                 have n1_ := Aside0.mk (lqD HB.out)
                 clear BK398
                 clear HB
                 have BK398 := n0_
                 have HB := n1_
                 clear n0_ n1_
                 have p405 : 0 ≤ (x9_3 : Int) := of_decide_eq_true (by first | (with_reducible assumption) | assumption)
                 have q405 : x9_3 < (l0_2.length : Int) := of_decide_eq_true (by first | (with_reducible assumption) | assumption)
                 obtain ⟨ad405, e405, hx405_0, hx405_1⟩ := at_T33 HR0_2.out x9_3 p405 q405
                 have hw405_1 := hx405_1
                 have hw405_0 := hx405_0
                 cases e405
                 replace hx405_0 := (HB.out.cell (World.block_lt_of_cell? w _ hx405_0)).trans hx405_0
                 replace hx405_1 := (HB.out.cell (World.block_lt_of_cell? w _ hx405_1)).trans hx405_1
                 replace p405 := eq_true p405
                 replace q405 := eq_true q405
                 have p406 : 0 ≤ (0 : Int) := (by omega)
                 have q406 : 0 < (l1.length : Int) := of_decide_eq_true (by first | (with_reducible assumption) | assumption)
                 obtain ⟨ad406, e406, hx406_0⟩ := Kd.at_int HR1.out 0 p406 q406
                 have hw406_0 := hx406_0
                 (try rw [show ((0 : Int)).toNat = 0 from rfl] at hw406_0)
                 (try rw [show 0 * 1 = 0 from rfl] at hw406_0)
                 (try rw [Addr.add_zero'] at hw406_0)
                 cases e406
                 have qi406 : (0 < l1.length) = True := eq_true (by omega)
                 (try rw [show ((0 : Int)).toNat = 0 from rfl] at hx406_0)
                 (try rw [Addr.add_zero'] at hx406_0)
                 replace hx406_0 := (HB.out.cell (World.block_lt_of_cell? w _ hx406_0)).trans hx406_0
                 replace p406 := eq_true p406
                 replace q406 := eq_true q406
                 refine start_ (n := 33) (S := fun w' => w'.cell? (ad405.add ((x9_3).toNat * 2)) = some (.int .i64 ((rd_T33 l0_2 x9_3).f0)) ∧ w'.cell? ⟨(ad405.add ((x9_3).toNat * 2)).block, (ad405.add ((x9_3).toNat * 2)).off + 1, none⟩ = some (.int .i64 ((rd_T33 l0_2 x9_3).f1)) ∧ w'.cell? ad406 = some (.int .i64 (rd l1 0))) (ds := []) #[false, false, false, false, false, false, false, false, false, false, false, false, false, false, false, false, false, false, false, false, false, false, false, false, false, false, false, false, false, false, false, false, false] (by kernel_rfl) rfl rfl ⟨((HB.out.cell (World.block_lt_of_cell? w _ hw405_0)).trans hw405_0), ((HB.out.cell (World.block_lt_of_cell? w _ hw405_1)).trans hw405_1), ((HB.out.cell (World.block_lt_of_cell? w _ hw406_0)).trans hw406_0)⟩ (fun hHeld => ?_); refine with_tabW spileref12_Check.tab22 spileref12_Check.bits22 (fun HT_ HW_ => ?_)
                 generalize wr.drew = w47 at BK398 HB hx405_0 hx405_1 hx406_0 hHeld ⊢
                 refine GS.pu 0 (some 70) HT_.out ?_
                 refine GS.pu 1 (some 71) HT_.out ?_
                 refine GS.pu 2 (some 72) HT_.out ?_
                 refine GS.pu 3 (some 73) HT_.out ?_
                 refine GS.pu 5 (some 75) HT_.out ?_
                 refine GS.pu 6 (some 76) HT_.out ?_
                 refine GS.tk 4 (some 74) HT_.out HW_.out hHeld ?_
                 refine GS.tk 7 (some 77) HT_.out HW_.out hHeld ?_
                 refine GS.pu 8 (some 78) HT_.out ?_
                 refine GS.pu 9 (some 79) HT_.out ?_
                 refine GS.pn 10 (some 80) HT_.out ?_
                 refine GS.pn 11 (some 81) HT_.out ?_
                 refine GS.pn 12 (some 82) HT_.out ?_
                 refine GS.pn 13 (some 83) HT_.out ?_
                 refine GS.pn 14 (some 84) HT_.out ?_
                 refine GS.pn 15 (some 85) HT_.out ?_
                 refine GS.pn 16 (some 86) HT_.out ?_
                 refine GS.pn 17 (some 87) HT_.out ?_
                 refine GS.pn 18 (some 88) HT_.out ?_
                 refine GS.pn 19 (some 89) HT_.out ?_
                 refine GS.pn 20 (some 90) HT_.out ?_
                 refine GS.pn 21 (some 91) HT_.out ?_
                 refine GS.pu 22 (some 92) HT_.out ?_
                 refine GS.pu 23 (some 93) HT_.out ?_
                 refine GS.pn 24 (some 94) HT_.out ?_
                 refine GS.pn 25 (some 95) HT_.out ?_
                 refine GS.pn 26 (some 96) HT_.out ?_
                 refine GS.pn 27 (some 97) HT_.out ?_
                 refine GS.pn 28 (some 98) HT_.out ?_
                 refine GS.pn 29 (some 99) HT_.out ?_
                 refine GS.pn 30 (some 100) HT_.out ?_
                 refine GS.pn 31 (some 101) HT_.out ?_
                 refine GS.pu 32 (some 102) HT_.out ?_
                 refine done_ (done_of HT_.out (by kernel_rfl)) ?_
                 try go_wp2
                 go_meet
                 case rel => exact ⟨_, (false), (by first | rfl | (simp; done) | (simp [*]; done)), H', ⟨by have := HK1.out; have := HK2.out; have := HK3.out; first | omega | exact Nat.le_refl _⟩, ⟨GS.bqX BK398.out⟩, ⟨GS.lB HB.out⟩⟩
               ·rw [if_neg c38] at H
                exact absurd H (by simp)
              ·rw [if_neg c37] at H
               exact absurd H (by simp)
             case rest =>
              clear HC36
              try clear c1
              try clear p2
              try clear c3
              try clear c4
              try clear p4
              try clear q4
              try clear hx4
              try clear qi4
              try clear c37
              try clear c38
              try clear c39
              try clear c39b0
              try clear p40
              try clear q40
              try clear hx40
              try clear qi40
              try clear c41
              try clear c42
              try clear c43
              try clear c43b0
              try clear hx405_0
              try clear hx405_1
              try clear hx406_0
              try clear hx407_0
              try clear hx407_1
              try clear hx408_0
              try clear p405
              try clear p406
              try clear p407
              try clear p408
              try clear q405
              try clear q406
              try clear q407
              try clear q408
              obtain ⟨kq, x102_35, rfl, HA, HJ35, BK398, HB⟩ := hcut
              cases kq with
              | zero => exact absurd HA.out (by simp [spileref12_Check.j3])
              | succ kj35 =>
               have H := HA.out
               clear HA
               simp only [spileref12_Check.j3] at H
               by_cases c48 : x102_35 = true
               ·subst c48
                have H1 : (some 7) = some r := by rw [if_pos rfl] at H; exact H
                clear H
                have H := H1
                clear H1
                obtain rfl := Option.some.inj H
                go_wp2
                go_ret
                exact ⟨by first | rfl | (simp [errW_none, errW_some] <;> rfl) | (simp [*, errW_none, errW_some] <;> rfl), GS.lB HB.out⟩
               ·replace c48 := Bool.eq_false_iff.mpr c48
                subst c48
                have H1 : (spileref12_Check.l2 kj35 l1 l0_2 (wrap64 (x9_3 + 1))) = some r := by rw [if_neg (show ¬ (false = true) by decide)] at H; exact H
                clear H
                have H := H1
                clear H1
                have H' := Aside0.mk H
                clear H
                go_wp2
                go_roundg kj35
                case measure => have := HK1.out; have := HK2.out; have := HK3.out; have := HJ35.out; omega
                case rel => exact ⟨(wrap64 (x9_3 + 1)), (by first | rfl | (simp; done) | (simp [*]; done)), H', ⟨by have := HK1.out; have := HK2.out; have := HK3.out; have := HJ35.out; omega⟩, ⟨GS.bqX BK398.out⟩, ⟨GS.lB HB.out⟩⟩
            ·rw [if_neg c35] at H
             have c35b0 : decide (x9_3 < (l0_2.length : Int)) = false := decide_eq_false c35
             clear c35
             obtain rfl := Option.some.inj H
             go_wp2
             go_ret
             exact ⟨by first | rfl | (simp [errW_none, errW_some] <;> rfl) | (simp [*, errW_none, errW_some] <;> rfl), GS.lB HB.out⟩
 ·rw [if_neg c4] at H
  have c4b0 : (t399 == 0) = false := beq_eq_false_iff_ne.mpr c4
  try simp only [beq_self_eq_true, Bool.not_true, Bool.false_or, Bool.true_and] at c4b0
  have c4b1 : (t399 != 0) = true := bne_iff_ne.mpr c4
  obtain rfl := Option.some.inj H
  go_enter Try.func19, Try.ntmps19
  go_wp2_with (first | ((with_reducible refine gqD (N := 2) rfl ?_); (try (refine gate_guard (by rfl) ?_; dsimp only)); refine GS.bx (N := 2) (cs := #[.string a0_0, .int .i64 a0_1, .slice A0_2 l0_2.length c0_2, .int .i64 a0_3]) (t := 24) ?_; intro gb398 hg w49 hbox hb; have n0_ := Aside0.mk (lqT (GS.lB HB.out) hb); have n1_ := Aside0.mk (hbox); have n2_ := Aside0.mk ((by rw [hg]; exact (lqZ (GS.lB HB.out)) : w.heap.size ≤ gb398)); have n3_ := Aside0.mk ((by rw [hg]; exact (lqZ (GS.lB HB.out)) : w.heap.size ≤ gb398)); clear HB; have HB := n0_; have BK398 := n1_; have GW398 := n2_; have GE398 := n3_; clear n0_ n1_ n2_ n3_; clear hb hbox hg; obtain ⟨hcz50_0, hcz50_1, hcz50_2, hcz50_3, hfz50_0, hfz50_1, hfz50_2, hfz50_3⟩ := GS.c4 BK398.out) | ((with_reducible refine gqC (f := 40) rfl ?_); refine GS.gL (some 11) Try.func40 #[.agg #[.string a0_0, .int .i64 a0_1, .slice A0_2 l0_2.length c0_2, .int .i64 a0_3]] ?_; (with_reducible refine (spileref12_is.calls k a0_0 a0_1 _ _ l0_2 a0_3 t399 _ ?side1 ?side2 A3.out).mono ?_); (case side1 => exact GS.rC (Kd.C_below HR0_2.out HB.out)); (case side2 => exact HC0_2.out); rintro e w51 ⟨rfl, hb⟩; refine ⟨_, rfl, ?_⟩; have n0_ := Aside0.mk (bqB (GS.bqX BK398.out) hb); have n1_ := Aside0.mk (lqT (GS.lB HB.out) hb); clear BK398; clear HB; have BK398 := n0_; have HB := n1_; clear n0_ n1_; (try clear hb); (try clear hb2); (try clear hk); (try clear hi)))
  go_ret
  exact ⟨by first | rfl | (simp [errW_none, errW_some] <;> rfl) | (simp [*, errW_none, errW_some] <;> rfl), GS.lB HB.out⟩

end Go.Proofs.Ytmcmbjkjilcmeaa.K
