-- PRINTED by print.py (a twelfth state) out of the translation. Not trusted: Lean checks it.
import Derived.Test.YtmcmbjkjilcmeaaK0
import Derived.Test.YtmcmbjkjilcmeaaGShort
import Derived.Test.YtmcmbjkjilcmeaaK2
import Derived.Test.YtmcmbjkjilcmeaaK11
import Derived.Test.YtmcmbjkjilcmeaaK12
namespace Go.Proofs.Ytmcmbjkjilcmeaa.K
open Go.RowKit Go.Proofs.YtmcmbjkjilcmeaaW.PrintWords Go.Proofs.YtmcmbjkjilcmeaaW.PrintLast Go.Proofs.YtmcmbjkjilcmeaaW.PrintMore
attribute [local go_sem] max2_int min2_int max_two min_two max_three min_three max_four min_four   -- for this text's walks alone
set_option linter.unusedVariables false
set_option linter.unusedSimpArgs false

/-! ### standing_Check: function 16 -/
mutual
def standing_Check.l0 : Nat → List Int → Int → List Int → Int → Int → ByteArray → Int → List (S33) → Int → Option (Int)
 | 0, _, _, _, _, _, _, _, _, _ => none
 | k + 1, x1, x6, x30, x31, x32, x232000, x232001, x232002, x232003 => if x32 < x31 then (if 0 ≤ x32 then (if x32 < (x30.length : Int) then (if (rd x30 x32) < 0 then (some 2) else (if (rd x30 x32) > x6 then (some 2) else (standing_Check.l0 k x1 x6 x30 x31 (wrap64 (x32 + 1)) x232000 x232001 x232002 x232003))) else (none)) else (none)) else (standing_Check.l1 k x1 1 x232000 x232001 x232002 x232003)
def standing_Check.l1 : Nat → List Int → Int → ByteArray → Int → List (S33) → Int → Option (Int)
 | 0, _, _, _, _, _, _ => none
 | k + 1, x1, x10, x232000, x232001, x232002, x232003 => if x10 < (x1.length : Int) then (if 0 ≤ (wrap64 (x10 - 1)) then (if (wrap64 (x10 - 1)) < (x1.length : Int) then (if 0 ≤ x10 then (if (rd x1 (wrap64 (x10 - 1))) ≥ (rd x1 x10) then (some 5) else (standing_Check.l1 k x1 (wrap64 (x10 + 1)) x232000 x232001 x232002 x232003)) else (none)) else (none)) else (none)) else (standing_Check.l2 k x1 x232002 (x232002.length : Int) 0)
def standing_Check.l2 : Nat → List Int → List (S33) → Int → Int → Option (Int)
 | 0, _, _, _, _ => none
 | k + 1, x1, x61, x62, x63 => if x63 < x62 then (if 0 ≤ x63 then (if x63 < (x61.length : Int) then (if 0 < (x1.length : Int) then (if ((rd_T33 x61 x63).f0) > (rd x1 0) then (if 0 ≤ (wrap64 ((x1.length : Int) - 1)) then (if (wrap64 ((x1.length : Int) - 1)) < (x1.length : Int) then (if ((rd_T33 x61 x63).f0) < (rd x1 (wrap64 ((x1.length : Int) - 1))) then ((slices_Contains_int_int.f k x1 ((rd_T33 x61 x63).f0)).bind fun t242 => (standing_Check.j3 k x1 x61 x62 x63 (!t242))) else (standing_Check.j3 k x1 x61 x62 x63 false)) else (none)) else (none)) else (standing_Check.j3 k x1 x61 x62 x63 false)) else (none)) else (none)) else (none)) else (some 0)
def standing_Check.j3 : Nat → List Int → List (S33) → Int → Int → Bool → Option (Int)
 | 0, _, _, _, _, _ => none
 | k + 1, x1, x61, x62, x63, x90 => if x90 = true then (some 7) else (standing_Check.l2 k x1 x61 x62 (wrap64 (x63 + 1)))
end
def standing_Check.f (k : Nat) (a0_0 : ByteArray) (a0_1 : Int) (l0_2 : List (S33)) (a0_3 : Int) (l1 : List Int) : Option (Int) := (standing_stands.f k a0_0 a0_1 l0_2 a0_3).bind fun t232 => (if t232 = 0 then (if (l1.length : Int) < 2 then (some 9) else (if (l1.length : Int) > 128 then (some 8) else ((profile_Length.f l0_2).bind fun bt233 => (standing_Check.l0 k l1 bt233.1 l1 (l1.length : Int) 0 a0_0 a0_1 l0_2 a0_3)))) else (some t232))
theorem standing_Check.mono_l : ∀ k, (∀ y0 y1 y2 y3 y4 y5 y6 y7 y8, LeO (standing_Check.l0 k y0 y1 y2 y3 y4 y5 y6 y7 y8) (standing_Check.l0 (k + 1) y0 y1 y2 y3 y4 y5 y6 y7 y8)) ∧ (∀ y0 y1 y2 y3 y4 y5, LeO (standing_Check.l1 k y0 y1 y2 y3 y4 y5) (standing_Check.l1 (k + 1) y0 y1 y2 y3 y4 y5)) ∧ (∀ y0 y1 y2 y3, LeO (standing_Check.l2 k y0 y1 y2 y3) (standing_Check.l2 (k + 1) y0 y1 y2 y3)) ∧ (∀ y0 y1 y2 y3 y4, LeO (standing_Check.j3 k y0 y1 y2 y3 y4) (standing_Check.j3 (k + 1) y0 y1 y2 y3 y4))
 | 0 => ⟨fun _ _ _ _ _ _ _ _ _ r h => by simp [standing_Check.l0] at h, fun _ _ _ _ _ _ r h => by simp [standing_Check.l1] at h, fun _ _ _ _ r h => by simp [standing_Check.l2] at h, fun _ _ _ _ _ r h => by simp [standing_Check.j3] at h⟩
 | k + 1 => by
  obtain ⟨ih0, ih1, ih2, ih3⟩ := standing_Check.mono_l k
  refine ⟨?_, ?_, ?_, ?_⟩
  ·intro y0 y1 y2 y3 y4 y5 y6 y7 y8
   unfold standing_Check.l0
   repeat' first
   | (with_reducible exact ih0 _ _ _ _ _ _ _ _ _)
   | (with_reducible exact ih1 _ _ _ _ _ _)
   | (with_reducible exact ih2 _ _ _ _)
   | (with_reducible exact ih3 _ _ _ _ _)
   | (with_reducible exact slices_Contains_int_int.mono _ _ _)
   | (with_reducible exact standing_stands.mono _ _ _ _ _)
   | (with_reducible exact LeO.refl _)
   | (with_reducible exact LeO.none _)
   | (with_reducible refine LeO.ite ?_ ?_)
   | (with_reducible refine LeO.bind ?_ (fun _ => ?_))
   | exact ih0 _ _ _ _ _ _ _ _ _
   | exact ih1 _ _ _ _ _ _
   | exact ih2 _ _ _ _
   | exact ih3 _ _ _ _ _
   | exact slices_Contains_int_int.mono _ _ _
   | exact standing_stands.mono _ _ _ _ _
   | exact LeO.none _
   | refine LeO.ite ?_ ?_
   | refine LeO.bind ?_ (fun _ => ?_)
  ·intro y0 y1 y2 y3 y4 y5
   unfold standing_Check.l1
   repeat' first
   | (with_reducible exact ih0 _ _ _ _ _ _ _ _ _)
   | (with_reducible exact ih1 _ _ _ _ _ _)
   | (with_reducible exact ih2 _ _ _ _)
   | (with_reducible exact ih3 _ _ _ _ _)
   | (with_reducible exact slices_Contains_int_int.mono _ _ _)
   | (with_reducible exact standing_stands.mono _ _ _ _ _)
   | (with_reducible exact LeO.refl _)
   | (with_reducible exact LeO.none _)
   | (with_reducible refine LeO.ite ?_ ?_)
   | (with_reducible refine LeO.bind ?_ (fun _ => ?_))
   | exact ih0 _ _ _ _ _ _ _ _ _
   | exact ih1 _ _ _ _ _ _
   | exact ih2 _ _ _ _
   | exact ih3 _ _ _ _ _
   | exact slices_Contains_int_int.mono _ _ _
   | exact standing_stands.mono _ _ _ _ _
   | exact LeO.none _
   | refine LeO.ite ?_ ?_
   | refine LeO.bind ?_ (fun _ => ?_)
  ·intro y0 y1 y2 y3
   unfold standing_Check.l2
   repeat' first
   | (with_reducible exact ih0 _ _ _ _ _ _ _ _ _)
   | (with_reducible exact ih1 _ _ _ _ _ _)
   | (with_reducible exact ih2 _ _ _ _)
   | (with_reducible exact ih3 _ _ _ _ _)
   | (with_reducible exact slices_Contains_int_int.mono _ _ _)
   | (with_reducible exact standing_stands.mono _ _ _ _ _)
   | (with_reducible exact LeO.refl _)
   | (with_reducible exact LeO.none _)
   | (with_reducible refine LeO.ite ?_ ?_)
   | (with_reducible refine LeO.bind ?_ (fun _ => ?_))
   | exact ih0 _ _ _ _ _ _ _ _ _
   | exact ih1 _ _ _ _ _ _
   | exact ih2 _ _ _ _
   | exact ih3 _ _ _ _ _
   | exact slices_Contains_int_int.mono _ _ _
   | exact standing_stands.mono _ _ _ _ _
   | exact LeO.none _
   | refine LeO.ite ?_ ?_
   | refine LeO.bind ?_ (fun _ => ?_)
  ·intro y0 y1 y2 y3 y4
   unfold standing_Check.j3
   repeat' first
   | (with_reducible exact ih0 _ _ _ _ _ _ _ _ _)
   | (with_reducible exact ih1 _ _ _ _ _ _)
   | (with_reducible exact ih2 _ _ _ _)
   | (with_reducible exact ih3 _ _ _ _ _)
   | (with_reducible exact slices_Contains_int_int.mono _ _ _)
   | (with_reducible exact standing_stands.mono _ _ _ _ _)
   | (with_reducible exact LeO.refl _)
   | (with_reducible exact LeO.none _)
   | (with_reducible refine LeO.ite ?_ ?_)
   | (with_reducible refine LeO.bind ?_ (fun _ => ?_))
   | exact ih0 _ _ _ _ _ _ _ _ _
   | exact ih1 _ _ _ _ _ _
   | exact ih2 _ _ _ _
   | exact ih3 _ _ _ _ _
   | exact slices_Contains_int_int.mono _ _ _
   | exact standing_stands.mono _ _ _ _ _
   | exact LeO.none _
   | refine LeO.ite ?_ ?_
   | refine LeO.bind ?_ (fun _ => ?_)
theorem standing_Check.mono : ∀ a0 a1 a2 a3 a4 k, LeO (standing_Check.f k a0 a1 a2 a3 a4) (standing_Check.f (k + 1) a0 a1 a2 a3 a4) := by
 intro a0 a1 a2 a3 a4 k
 obtain ⟨ih0, ih1, ih2, ih3⟩ := standing_Check.mono_l k
 unfold standing_Check.f
 repeat' first
   | (with_reducible exact ih0 _ _ _ _ _ _ _ _ _)
   | (with_reducible exact ih1 _ _ _ _ _ _)
   | (with_reducible exact ih2 _ _ _ _)
   | (with_reducible exact ih3 _ _ _ _ _)
   | (with_reducible exact slices_Contains_int_int.mono _ _ _)
   | (with_reducible exact standing_stands.mono _ _ _ _ _)
   | (with_reducible exact LeO.refl _)
   | (with_reducible exact LeO.none _)
   | (with_reducible refine LeO.ite ?_ ?_)
   | (with_reducible refine LeO.bind ?_ (fun _ => ?_))
   | exact ih0 _ _ _ _ _ _ _ _ _
   | exact ih1 _ _ _ _ _ _
   | exact ih2 _ _ _ _
   | exact ih3 _ _ _ _ _
   | exact slices_Contains_int_int.mono _ _ _
   | exact standing_stands.mono _ _ _ _ _
   | exact LeO.none _
   | refine LeO.ite ?_ ?_
   | refine LeO.bind ?_ (fun _ => ?_)
set_option maxHeartbeats 8000000 in
set_option maxRecDepth 100000 in
theorem standing_Check.calls (k : Nat) (a0_0 : ByteArray) (a0_1 : Int) (A0_2 : Option Addr) (c0_2 : Nat) (l0_2 : List (S33)) (a0_3 : Int) (A1 : Option Addr) (c1 : Nat) (l1 : List Int) (r : Int) (w : World) (hr0_2 : Kd.C k33 w A0_2 l0_2.length l0_2) (hc0_2 : l0_2.length ≤ c0_2) (hr1 : Kd.C (Kd.int .i64) w A1 l1.length l1) (hc1 : l1.length ≤ c1) (h : standing_Check.f k a0_0 a0_1 l0_2 a0_3 l1 = some r) :
  Calls Try.prog 16 #[.agg #[.string a0_0, .int .i64 a0_1, .slice A0_2 l0_2.length c0_2, .int .i64 a0_3], .slice A1 l1.length c1] w fun e w' => e = .returned (.int .i64 r) ∧ Below w.heap.size w w' := by
 have hu24 := Try.underlying24
 have hu33 := Try.underlying33
 have HR0_2 := Aside0.mk hr0_2
 have HC0_2 := Aside0.mk hc0_2
 clear hr0_2 hc0_2
 have HR1 := Aside0.mk hr1
 have HC1 := Aside0.mk hc1
 clear hr1 hc1
 have HB := Aside0.mk (Below.refl w.heap.size w)
 have H : ((standing_stands.f k a0_0 a0_1 l0_2 a0_3).bind fun t232 => (if t232 = 0 then (if (l1.length : Int) < 2 then (some 9) else (if (l1.length : Int) > 128 then (some 8) else ((profile_Length.f l0_2).bind fun bt233 => (standing_Check.l0 k l1 bt233.1 l1 (l1.length : Int) 0 a0_0 a0_1 l0_2 a0_3)))) else (some t232))) = some r := h
 clear h
 replace H := Option.bind_eq_some_iff.mp H
 obtain ⟨t232, A30, H⟩ := H
 replace H : (if t232 = 0 then (if (l1.length : Int) < 2 then (some 9) else (if (l1.length : Int) > 128 then (some 8) else ((profile_Length.f l0_2).bind fun bt233 => (standing_Check.l0 k l1 bt233.1 l1 (l1.length : Int) 0 a0_0 a0_1 l0_2 a0_3)))) else (some t232)) = some r := H
 have A3 := Aside0.mk A30
 clear A30
 by_cases c4 : t232 = 0
 ·rw [if_pos c4] at H
  have c4b0 : (t232 == 0) = true := beq_iff_eq.mpr c4
  try simp only [beq_self_eq_true, Bool.not_true, Bool.false_or, Bool.true_and] at c4b0
  have c4b1 : (t232 != 0) = false := bne_eq_false_iff_eq.mpr c4
  clear c4
  by_cases c5 : (l1.length : Int) < 2
  ·rw [if_pos c5] at H
   have c5b0 : decide ((l1.length : Int) < 2) = true := decide_eq_true c5
   have c5b1 : decide (l1.length < 2) = true := decide_eq_true (by omega)
   clear c5
   obtain rfl := Option.some.inj H
   go_enter Try.func16, Try.ntmps16
   go_wp2_with (first | ((with_reducible refine gqD (N := 2) rfl ?_); (try (refine gate_guard (by rfl) ?_; dsimp only)); refine GS.bx (N := 2) (cs := #[.string a0_0, .int .i64 a0_1, .slice A0_2 l0_2.length c0_2, .int .i64 a0_3]) (t := 24) ?_; intro gb231 hg w6 hbox hb; have n0_ := Aside0.mk (lqT (GS.lB HB.out) hb); have n1_ := Aside0.mk (hbox); have n2_ := Aside0.mk ((by rw [hg]; exact (lqZ (GS.lB HB.out)) : w.heap.size ≤ gb231)); have n3_ := Aside0.mk ((by rw [hg]; exact (lqZ (GS.lB HB.out)) : w.heap.size ≤ gb231)); clear HB; have HB := n0_; have BK231 := n1_; have GW231 := n2_; have GE231 := n3_; clear n0_ n1_ n2_ n3_; clear hb hbox hg; obtain ⟨hcz7_0, hcz7_1, hcz7_2, hcz7_3, hfz7_0, hfz7_1, hfz7_2, hfz7_3⟩ := GS.c4 BK231.out) | (go_at_call 37; (with_reducible refine (standing_stands.calls k a0_0 a0_1 _ _ l0_2 a0_3 t232 _ ?side1 ?side2 A3.out).mono ?_); (case side1 => exact GS.rC (Kd.C_below HR0_2.out HB.out)); (case side2 => exact HC0_2.out); rintro e w8 ⟨rfl, hb⟩; have n0_ := Aside0.mk (bqB (GS.bqX BK231.out) hb); have n1_ := Aside0.mk (lqT (GS.lB HB.out) hb); clear BK231; clear HB; have BK231 := n0_; have HB := n1_; clear n0_ n1_; (try clear hb); (try clear hb2); (try clear hk); (try clear hi)))
   repeat (go_quiet (first | ((with_reducible refine gqD (N := 2) rfl ?_); (try (refine gate_guard (by rfl) ?_; dsimp only)); refine GS.bx (N := 2) (cs := #[.string a0_0, .int .i64 a0_1, .slice A0_2 l0_2.length c0_2, .int .i64 a0_3]) (t := 24) ?_; intro gb231 hg w6 hbox hb; have n0_ := Aside0.mk (lqT (GS.lB HB.out) hb); have n1_ := Aside0.mk (hbox); have n2_ := Aside0.mk ((by rw [hg]; exact (lqZ (GS.lB HB.out)) : w.heap.size ≤ gb231)); have n3_ := Aside0.mk ((by rw [hg]; exact (lqZ (GS.lB HB.out)) : w.heap.size ≤ gb231)); clear HB; have HB := n0_; have BK231 := n1_; have GW231 := n2_; have GE231 := n3_; clear n0_ n1_ n2_ n3_; clear hb hbox hg; obtain ⟨hcz7_0, hcz7_1, hcz7_2, hcz7_3, hfz7_0, hfz7_1, hfz7_2, hfz7_3⟩ := GS.c4 BK231.out) | (go_at_call 37; (with_reducible refine (standing_stands.calls k a0_0 a0_1 _ _ l0_2 a0_3 t232 _ ?side1 ?side2 A3.out).mono ?_); (case side1 => exact GS.rC (Kd.C_below HR0_2.out HB.out)); (case side2 => exact HC0_2.out); rintro e w8 ⟨rfl, hb⟩; have n0_ := Aside0.mk (bqB (GS.bqX BK231.out) hb); have n1_ := Aside0.mk (lqT (GS.lB HB.out) hb); clear BK231; clear HB; have BK231 := n0_; have HB := n1_; clear n0_ n1_; (try clear hb); (try clear hb2); (try clear hk); (try clear hi))); try go_wp2_with (first | ((with_reducible refine gqD (N := 2) rfl ?_); (try (refine gate_guard (by rfl) ?_; dsimp only)); refine GS.bx (N := 2) (cs := #[.string a0_0, .int .i64 a0_1, .slice A0_2 l0_2.length c0_2, .int .i64 a0_3]) (t := 24) ?_; intro gb231 hg w6 hbox hb; have n0_ := Aside0.mk (lqT (GS.lB HB.out) hb); have n1_ := Aside0.mk (hbox); have n2_ := Aside0.mk ((by rw [hg]; exact (lqZ (GS.lB HB.out)) : w.heap.size ≤ gb231)); have n3_ := Aside0.mk ((by rw [hg]; exact (lqZ (GS.lB HB.out)) : w.heap.size ≤ gb231)); clear HB; have HB := n0_; have BK231 := n1_; have GW231 := n2_; have GE231 := n3_; clear n0_ n1_ n2_ n3_; clear hb hbox hg; obtain ⟨hcz7_0, hcz7_1, hcz7_2, hcz7_3, hfz7_0, hfz7_1, hfz7_2, hfz7_3⟩ := GS.c4 BK231.out) | (go_at_call 37; (with_reducible refine (standing_stands.calls k a0_0 a0_1 _ _ l0_2 a0_3 t232 _ ?side1 ?side2 A3.out).mono ?_); (case side1 => exact GS.rC (Kd.C_below HR0_2.out HB.out)); (case side2 => exact HC0_2.out); rintro e w8 ⟨rfl, hb⟩; have n0_ := Aside0.mk (bqB (GS.bqX BK231.out) hb); have n1_ := Aside0.mk (lqT (GS.lB HB.out) hb); clear BK231; clear HB; have BK231 := n0_; have HB := n1_; clear n0_ n1_; (try clear hb); (try clear hb2); (try clear hk); (try clear hi))))
   go_ret
   exact ⟨by first | rfl | (simp [errW_none, errW_some] <;> rfl) | (simp [*, errW_none, errW_some] <;> rfl), GS.lB HB.out⟩
  ·rw [if_neg c5] at H
   have c5b0 : decide ((l1.length : Int) < 2) = false := decide_eq_false c5
   have c5b1 : decide (l1.length < 2) = false := decide_eq_false (by omega)
   clear c5
   by_cases c9 : (l1.length : Int) > 128
   ·rw [if_pos c9] at H
    have c9b0 : decide (128 < (l1.length : Int)) = true := decide_eq_true c9
    have c9b1 : decide (128 < l1.length) = true := decide_eq_true (by omega)
    clear c9
    obtain rfl := Option.some.inj H
    go_enter Try.func16, Try.ntmps16
    go_wp2_with (first | ((with_reducible refine gqD (N := 2) rfl ?_); (try (refine gate_guard (by rfl) ?_; dsimp only)); refine GS.bx (N := 2) (cs := #[.string a0_0, .int .i64 a0_1, .slice A0_2 l0_2.length c0_2, .int .i64 a0_3]) (t := 24) ?_; intro gb231 hg w10 hbox hb; have n0_ := Aside0.mk (lqT (GS.lB HB.out) hb); have n1_ := Aside0.mk (hbox); have n2_ := Aside0.mk ((by rw [hg]; exact (lqZ (GS.lB HB.out)) : w.heap.size ≤ gb231)); have n3_ := Aside0.mk ((by rw [hg]; exact (lqZ (GS.lB HB.out)) : w.heap.size ≤ gb231)); clear HB; have HB := n0_; have BK231 := n1_; have GW231 := n2_; have GE231 := n3_; clear n0_ n1_ n2_ n3_; clear hb hbox hg; obtain ⟨hcz11_0, hcz11_1, hcz11_2, hcz11_3, hfz11_0, hfz11_1, hfz11_2, hfz11_3⟩ := GS.c4 BK231.out) | (go_at_call 37; (with_reducible refine (standing_stands.calls k a0_0 a0_1 _ _ l0_2 a0_3 t232 _ ?side1 ?side2 A3.out).mono ?_); (case side1 => exact GS.rC (Kd.C_below HR0_2.out HB.out)); (case side2 => exact HC0_2.out); rintro e w12 ⟨rfl, hb⟩; have n0_ := Aside0.mk (bqB (GS.bqX BK231.out) hb); have n1_ := Aside0.mk (lqT (GS.lB HB.out) hb); clear BK231; clear HB; have BK231 := n0_; have HB := n1_; clear n0_ n1_; (try clear hb); (try clear hb2); (try clear hk); (try clear hi)))
    repeat (go_quiet (first | ((with_reducible refine gqD (N := 2) rfl ?_); (try (refine gate_guard (by rfl) ?_; dsimp only)); refine GS.bx (N := 2) (cs := #[.string a0_0, .int .i64 a0_1, .slice A0_2 l0_2.length c0_2, .int .i64 a0_3]) (t := 24) ?_; intro gb231 hg w10 hbox hb; have n0_ := Aside0.mk (lqT (GS.lB HB.out) hb); have n1_ := Aside0.mk (hbox); have n2_ := Aside0.mk ((by rw [hg]; exact (lqZ (GS.lB HB.out)) : w.heap.size ≤ gb231)); have n3_ := Aside0.mk ((by rw [hg]; exact (lqZ (GS.lB HB.out)) : w.heap.size ≤ gb231)); clear HB; have HB := n0_; have BK231 := n1_; have GW231 := n2_; have GE231 := n3_; clear n0_ n1_ n2_ n3_; clear hb hbox hg; obtain ⟨hcz11_0, hcz11_1, hcz11_2, hcz11_3, hfz11_0, hfz11_1, hfz11_2, hfz11_3⟩ := GS.c4 BK231.out) | (go_at_call 37; (with_reducible refine (standing_stands.calls k a0_0 a0_1 _ _ l0_2 a0_3 t232 _ ?side1 ?side2 A3.out).mono ?_); (case side1 => exact GS.rC (Kd.C_below HR0_2.out HB.out)); (case side2 => exact HC0_2.out); rintro e w12 ⟨rfl, hb⟩; have n0_ := Aside0.mk (bqB (GS.bqX BK231.out) hb); have n1_ := Aside0.mk (lqT (GS.lB HB.out) hb); clear BK231; clear HB; have BK231 := n0_; have HB := n1_; clear n0_ n1_; (try clear hb); (try clear hb2); (try clear hk); (try clear hi))); try go_wp2_with (first | ((with_reducible refine gqD (N := 2) rfl ?_); (try (refine gate_guard (by rfl) ?_; dsimp only)); refine GS.bx (N := 2) (cs := #[.string a0_0, .int .i64 a0_1, .slice A0_2 l0_2.length c0_2, .int .i64 a0_3]) (t := 24) ?_; intro gb231 hg w10 hbox hb; have n0_ := Aside0.mk (lqT (GS.lB HB.out) hb); have n1_ := Aside0.mk (hbox); have n2_ := Aside0.mk ((by rw [hg]; exact (lqZ (GS.lB HB.out)) : w.heap.size ≤ gb231)); have n3_ := Aside0.mk ((by rw [hg]; exact (lqZ (GS.lB HB.out)) : w.heap.size ≤ gb231)); clear HB; have HB := n0_; have BK231 := n1_; have GW231 := n2_; have GE231 := n3_; clear n0_ n1_ n2_ n3_; clear hb hbox hg; obtain ⟨hcz11_0, hcz11_1, hcz11_2, hcz11_3, hfz11_0, hfz11_1, hfz11_2, hfz11_3⟩ := GS.c4 BK231.out) | (go_at_call 37; (with_reducible refine (standing_stands.calls k a0_0 a0_1 _ _ l0_2 a0_3 t232 _ ?side1 ?side2 A3.out).mono ?_); (case side1 => exact GS.rC (Kd.C_below HR0_2.out HB.out)); (case side2 => exact HC0_2.out); rintro e w12 ⟨rfl, hb⟩; have n0_ := Aside0.mk (bqB (GS.bqX BK231.out) hb); have n1_ := Aside0.mk (lqT (GS.lB HB.out) hb); clear BK231; clear HB; have BK231 := n0_; have HB := n1_; clear n0_ n1_; (try clear hb); (try clear hb2); (try clear hk); (try clear hi))))
    go_ret
    exact ⟨by first | rfl | (simp [errW_none, errW_some] <;> rfl) | (simp [*, errW_none, errW_some] <;> rfl), GS.lB HB.out⟩
   ·rw [if_neg c9] at H
    have c9b0 : decide (128 < (l1.length : Int)) = false := decide_eq_false c9
    have c9b1 : decide (128 < l1.length) = false := decide_eq_false (by omega)
    clear c9
    replace H := Option.bind_eq_some_iff.mp H
    obtain ⟨⟨t233, t234⟩, A130, H⟩ := H
    replace H : (standing_Check.l0 k l1 t233 l1 (l1.length : Int) 0 a0_0 a0_1 l0_2 a0_3) = some r := H
    have A13 := Aside0.mk A130
    clear A130
    have H' := Aside0.mk H
    clear H
    go_enter Try.func16, Try.ntmps16
    go_wp2_with (first | ((with_reducible refine gqD (N := 2) rfl ?_); (try (refine gate_guard (by rfl) ?_; dsimp only)); refine GS.bx (N := 2) (cs := #[.string a0_0, .int .i64 a0_1, .slice A0_2 l0_2.length c0_2, .int .i64 a0_3]) (t := 24) ?_; intro gb231 hg w14 hbox hb; have n0_ := Aside0.mk (lqT (GS.lB HB.out) hb); have n1_ := Aside0.mk (hbox); have n2_ := Aside0.mk ((by rw [hg]; exact (lqZ (GS.lB HB.out)) : w.heap.size ≤ gb231)); have n3_ := Aside0.mk ((by rw [hg]; exact (lqZ (GS.lB HB.out)) : w.heap.size ≤ gb231)); clear HB; have HB := n0_; have BK231 := n1_; have GW231 := n2_; have GE231 := n3_; clear n0_ n1_ n2_ n3_; clear hb hbox hg; obtain ⟨hcz15_0, hcz15_1, hcz15_2, hcz15_3, hfz15_0, hfz15_1, hfz15_2, hfz15_3⟩ := GS.c4 BK231.out) | (go_at_call 37; (with_reducible refine (standing_stands.calls k a0_0 a0_1 _ _ l0_2 a0_3 t232 _ ?side1 ?side2 A3.out).mono ?_); (case side1 => exact GS.rC (Kd.C_below HR0_2.out HB.out)); (case side2 => exact HC0_2.out); rintro e w16 ⟨rfl, hb⟩; have n0_ := Aside0.mk (bqB (GS.bqX BK231.out) hb); have n1_ := Aside0.mk (lqT (GS.lB HB.out) hb); clear BK231; clear HB; have BK231 := n0_; have HB := n1_; clear n0_ n1_; (try clear hb); (try clear hb2); (try clear hk); (try clear hi); obtain ⟨hcz17_0, hcz17_1, hcz17_2, hcz17_3, hfz17_0, hfz17_1, hfz17_2, hfz17_3⟩ := GS.c4 BK231.out) | (go_at_call 34; (with_reducible refine (profile_Length.calls _ _ l0_2 t233 t234 _ ?side1 ?side2 A13.out).mono ?_); (case side1 => exact GS.rC (Kd.C_below HR0_2.out HB.out)); (case side2 => exact HC0_2.out); rintro e w18 ⟨rfl, hb⟩; have n0_ := Aside0.mk (bqB (GS.bqX BK231.out) hb); have n1_ := Aside0.mk (lqT (GS.lB HB.out) hb); clear BK231; clear HB; have BK231 := n0_; have HB := n1_; clear n0_ n1_; (try clear hb); (try clear hb2); (try clear hk); (try clear hi)))
    repeat (go_quiet (first | ((with_reducible refine gqD (N := 2) rfl ?_); (try (refine gate_guard (by rfl) ?_; dsimp only)); refine GS.bx (N := 2) (cs := #[.string a0_0, .int .i64 a0_1, .slice A0_2 l0_2.length c0_2, .int .i64 a0_3]) (t := 24) ?_; intro gb231 hg w14 hbox hb; have n0_ := Aside0.mk (lqT (GS.lB HB.out) hb); have n1_ := Aside0.mk (hbox); have n2_ := Aside0.mk ((by rw [hg]; exact (lqZ (GS.lB HB.out)) : w.heap.size ≤ gb231)); have n3_ := Aside0.mk ((by rw [hg]; exact (lqZ (GS.lB HB.out)) : w.heap.size ≤ gb231)); clear HB; have HB := n0_; have BK231 := n1_; have GW231 := n2_; have GE231 := n3_; clear n0_ n1_ n2_ n3_; clear hb hbox hg; obtain ⟨hcz15_0, hcz15_1, hcz15_2, hcz15_3, hfz15_0, hfz15_1, hfz15_2, hfz15_3⟩ := GS.c4 BK231.out) | (go_at_call 37; (with_reducible refine (standing_stands.calls k a0_0 a0_1 _ _ l0_2 a0_3 t232 _ ?side1 ?side2 A3.out).mono ?_); (case side1 => exact GS.rC (Kd.C_below HR0_2.out HB.out)); (case side2 => exact HC0_2.out); rintro e w16 ⟨rfl, hb⟩; have n0_ := Aside0.mk (bqB (GS.bqX BK231.out) hb); have n1_ := Aside0.mk (lqT (GS.lB HB.out) hb); clear BK231; clear HB; have BK231 := n0_; have HB := n1_; clear n0_ n1_; (try clear hb); (try clear hb2); (try clear hk); (try clear hi); obtain ⟨hcz17_0, hcz17_1, hcz17_2, hcz17_3, hfz17_0, hfz17_1, hfz17_2, hfz17_3⟩ := GS.c4 BK231.out) | (go_at_call 34; (with_reducible refine (profile_Length.calls _ _ l0_2 t233 t234 _ ?side1 ?side2 A13.out).mono ?_); (case side1 => exact GS.rC (Kd.C_below HR0_2.out HB.out)); (case side2 => exact HC0_2.out); rintro e w18 ⟨rfl, hb⟩; have n0_ := Aside0.mk (bqB (GS.bqX BK231.out) hb); have n1_ := Aside0.mk (lqT (GS.lB HB.out) hb); clear BK231; clear HB; have BK231 := n0_; have HB := n1_; clear n0_ n1_; (try clear hb); (try clear hb2); (try clear hk); (try clear hi))); try go_wp2_with (first | ((with_reducible refine gqD (N := 2) rfl ?_); (try (refine gate_guard (by rfl) ?_; dsimp only)); refine GS.bx (N := 2) (cs := #[.string a0_0, .int .i64 a0_1, .slice A0_2 l0_2.length c0_2, .int .i64 a0_3]) (t := 24) ?_; intro gb231 hg w14 hbox hb; have n0_ := Aside0.mk (lqT (GS.lB HB.out) hb); have n1_ := Aside0.mk (hbox); have n2_ := Aside0.mk ((by rw [hg]; exact (lqZ (GS.lB HB.out)) : w.heap.size ≤ gb231)); have n3_ := Aside0.mk ((by rw [hg]; exact (lqZ (GS.lB HB.out)) : w.heap.size ≤ gb231)); clear HB; have HB := n0_; have BK231 := n1_; have GW231 := n2_; have GE231 := n3_; clear n0_ n1_ n2_ n3_; clear hb hbox hg; obtain ⟨hcz15_0, hcz15_1, hcz15_2, hcz15_3, hfz15_0, hfz15_1, hfz15_2, hfz15_3⟩ := GS.c4 BK231.out) | (go_at_call 37; (with_reducible refine (standing_stands.calls k a0_0 a0_1 _ _ l0_2 a0_3 t232 _ ?side1 ?side2 A3.out).mono ?_); (case side1 => exact GS.rC (Kd.C_below HR0_2.out HB.out)); (case side2 => exact HC0_2.out); rintro e w16 ⟨rfl, hb⟩; have n0_ := Aside0.mk (bqB (GS.bqX BK231.out) hb); have n1_ := Aside0.mk (lqT (GS.lB HB.out) hb); clear BK231; clear HB; have BK231 := n0_; have HB := n1_; clear n0_ n1_; (try clear hb); (try clear hb2); (try clear hk); (try clear hi); obtain ⟨hcz17_0, hcz17_1, hcz17_2, hcz17_3, hfz17_0, hfz17_1, hfz17_2, hfz17_3⟩ := GS.c4 BK231.out) | (go_at_call 34; (with_reducible refine (profile_Length.calls _ _ l0_2 t233 t234 _ ?side1 ?side2 A13.out).mono ?_); (case side1 => exact GS.rC (Kd.C_below HR0_2.out HB.out)); (case side2 => exact HC0_2.out); rintro e w18 ⟨rfl, hb⟩; have n0_ := Aside0.mk (bqB (GS.bqX BK231.out) hb); have n1_ := Aside0.mk (lqT (GS.lB HB.out) hb); clear BK231; clear HB; have BK231 := n0_; have HB := n1_; clear n0_ n1_; (try clear hb); (try clear hb2); (try clear hk); (try clear hi))))
    go_loopg [32] k (fun kq v32 w' => ∃ (x32_1 : Int), v32 = .int .i64 x32_1 ∧ Aside0 (standing_Check.l0 kq l1 t233 l1 (l1.length : Int) x32_1 a0_0 a0_1 l0_2 a0_3 = some r) ∧ Aside0 (kq ≤ k) ∧ Aside0 (w'.heap[gb231]? = some (.cells #[.string a0_0, .int .i64 a0_1, (.slice A0_2 l0_2.length c0_2), .int .i64 a0_3] 24 (0, 0))) ∧ Aside0 (Below w.heap.size w w'))
    case atStart => exact ⟨(0), (by first | rfl | (simp; done) | (simp [*]; done)), H', ⟨Nat.le_refl _⟩, ⟨GS.bqX BK231.out⟩, ⟨GS.lB HB.out⟩⟩
    case round =>
     clear H'
     try clear c1
     try clear p2
     try clear c4
     try clear c4b0
     try clear c4b1
     try clear c5
     try clear c5b0
     try clear c5b1
     try clear c9
     try clear c9b0
     try clear c9b1
     try clear c16
     try clear hcz11_0
     try clear hcz11_1
     try clear hcz11_2
     try clear hcz11_3
     try clear hcz15_0
     try clear hcz15_1
     try clear hcz15_2
     try clear hcz15_3
     try clear hcz17_0
     try clear hcz17_1
     try clear hcz17_2
     try clear hcz17_3
     try clear hcz7_0
     try clear hcz7_1
     try clear hcz7_2
     try clear hcz7_3
     try clear hfz11_0
     try clear hfz11_1
     try clear hfz11_2
     try clear hfz11_3
     try clear hfz15_0
     try clear hfz15_1
     try clear hfz15_2
     try clear hfz15_3
     try clear hfz17_0
     try clear hfz17_1
     try clear hfz17_2
     try clear hfz17_3
     try clear hfz7_0
     try clear hfz7_1
     try clear hfz7_2
     try clear hfz7_3
     obtain ⟨x32_1, rfl, HA, HK1, BK231, HB⟩ := hrel
     cases gk with
     | zero => exact absurd HA.out (by simp [standing_Check.l0])
     | succ k1 =>
      have H := HA.out
      clear HA
      simp only [standing_Check.l0] at H
      by_cases c19 : x32_1 < (l1.length : Int)
      ·rw [if_pos c19] at H
       have c19b0 : decide (x32_1 < (l1.length : Int)) = true := decide_eq_true c19
       clear c19
       by_cases c20 : 0 ≤ x32_1
       ·rw [if_pos c20] at H
        have c20b0 : decide (0 ≤ x32_1) = true := decide_eq_true c20
        clear c20
        by_cases c21 : x32_1 < (l1.length : Int)
        ·rw [if_pos c21] at H
         have c21b0 : decide (x32_1 < (l1.length : Int)) = true := decide_eq_true c21
         clear c21
         by_cases c22 : (rd l1 x32_1) < 0
         ·rw [if_pos c22] at H
          have c22b0 : decide ((rd l1 x32_1) < 0) = true := decide_eq_true c22
          clear c22
          obtain rfl := Option.some.inj H
          have p235 : 0 ≤ (x32_1 : Int) := of_decide_eq_true (by first | (with_reducible assumption) | assumption)
          have q235 : x32_1 < (l1.length : Int) := of_decide_eq_true (by first | (with_reducible assumption) | assumption)
          obtain ⟨ad235, e235, hx235_0⟩ := Kd.at_int HR1.out x32_1 p235 q235
          cases e235
          replace hx235_0 := (HB.out.cell (World.block_lt_of_cell? w _ hx235_0)).trans hx235_0
          replace p235 := eq_true p235
          replace q235 := eq_true q235
          go_wp2
          repeat (go_quiet (fail); try go_wp2)
          go_ret
          exact ⟨by first | rfl | (simp [errW_none, errW_some] <;> rfl) | (simp [*, errW_none, errW_some] <;> rfl), GS.lB HB.out⟩
         ·rw [if_neg c22] at H
          have c22b0 : decide ((rd l1 x32_1) < 0) = false := decide_eq_false c22
          clear c22
          by_cases c23 : (rd l1 x32_1) > t233
          ·rw [if_pos c23] at H
           have c23b0 : decide (t233 < (rd l1 x32_1)) = true := decide_eq_true c23
           clear c23
           obtain rfl := Option.some.inj H
           have p235 : 0 ≤ (x32_1 : Int) := of_decide_eq_true (by first | (with_reducible assumption) | assumption)
           have q235 : x32_1 < (l1.length : Int) := of_decide_eq_true (by first | (with_reducible assumption) | assumption)
           obtain ⟨ad235, e235, hx235_0⟩ := Kd.at_int HR1.out x32_1 p235 q235
           cases e235
           replace hx235_0 := (HB.out.cell (World.block_lt_of_cell? w _ hx235_0)).trans hx235_0
           replace p235 := eq_true p235
           replace q235 := eq_true q235
           go_wp2
           repeat (go_quiet (fail); try go_wp2)
           go_ret
           exact ⟨by first | rfl | (simp [errW_none, errW_some] <;> rfl) | (simp [*, errW_none, errW_some] <;> rfl), GS.lB HB.out⟩
          ·rw [if_neg c23] at H
           have c23b0 : decide (t233 < (rd l1 x32_1)) = false := decide_eq_false c23
           clear c23
           have H' := Aside0.mk H
           clear H
           have p235 : 0 ≤ (x32_1 : Int) := of_decide_eq_true (by first | (with_reducible assumption) | assumption)
           have q235 : x32_1 < (l1.length : Int) := of_decide_eq_true (by first | (with_reducible assumption) | assumption)
           obtain ⟨ad235, e235, hx235_0⟩ := Kd.at_int HR1.out x32_1 p235 q235
           cases e235
           replace hx235_0 := (HB.out.cell (World.block_lt_of_cell? w _ hx235_0)).trans hx235_0
           replace p235 := eq_true p235
           replace q235 := eq_true q235
           go_wp2
           repeat (go_quiet (fail); try go_wp2)
           go_roundg k1
           case measure => have := HK1.out; omega
           case rel => exact ⟨(wrap64 (x32_1 + 1)), (by first | rfl | (simp; done) | (simp [*]; done)), H', ⟨by have := HK1.out; omega⟩, ⟨GS.bqX BK231.out⟩, ⟨GS.lB HB.out⟩⟩
        ·rw [if_neg c21] at H
         exact absurd H (by simp)
       ·rw [if_neg c20] at H
        exact absurd H (by simp)
      ·rw [if_neg c19] at H
       have c19b0 : decide (x32_1 < (l1.length : Int)) = false := decide_eq_false c19
       clear c19
       have H' := Aside0.mk H
       clear H
       go_wp2
       repeat (go_quiet (fail); try go_wp2)
       go_loopg [10] k1 (fun kq v10 w' => ∃ (x10_2 : Int), v10 = .int .i64 x10_2 ∧ Aside0 (standing_Check.l1 kq l1 x10_2 a0_0 a0_1 l0_2 a0_3 = some r) ∧ Aside0 (kq ≤ k1) ∧ Aside0 (w'.heap[gb231]? = some (.cells #[.string a0_0, .int .i64 a0_1, (.slice A0_2 l0_2.length c0_2), .int .i64 a0_3] 24 (0, 0))) ∧ Aside0 (Below w.heap.size w w'))
       case atStart => exact ⟨(1), (by first | rfl | (simp; done) | (simp [*]; done)), H', ⟨Nat.le_refl _⟩, ⟨GS.bqX BK231.out⟩, ⟨GS.lB HB.out⟩⟩
       case round =>
        clear H'
        try clear c1
        try clear c2
        try clear p2
        try clear q2
        try clear hx2
        try clear c4
        try clear c4b0
        try clear c4b1
        try clear c5
        try clear c5b0
        try clear c5b1
        try clear p6
        try clear c9
        try clear c9b0
        try clear c9b1
        try clear c16
        try clear c19
        try clear c19b0
        try clear c20
        try clear c20b0
        try clear c21
        try clear c21b0
        try clear c22
        try clear c22b0
        try clear c23
        try clear c23b0
        try clear p23
        try clear q23
        try clear hx23
        try clear hcz11_0
        try clear hcz11_1
        try clear hcz11_2
        try clear hcz11_3
        try clear hcz15_0
        try clear hcz15_1
        try clear hcz15_2
        try clear hcz15_3
        try clear hcz17_0
        try clear hcz17_1
        try clear hcz17_2
        try clear hcz17_3
        try clear hcz7_0
        try clear hcz7_1
        try clear hcz7_2
        try clear hcz7_3
        try clear hfz11_0
        try clear hfz11_1
        try clear hfz11_2
        try clear hfz11_3
        try clear hfz15_0
        try clear hfz15_1
        try clear hfz15_2
        try clear hfz15_3
        try clear hfz17_0
        try clear hfz17_1
        try clear hfz17_2
        try clear hfz17_3
        try clear hfz7_0
        try clear hfz7_1
        try clear hfz7_2
        try clear hfz7_3
        try clear hx235_0
        try clear p2
        try clear p235
        try clear q235
        obtain ⟨x10_2, rfl, HA, HK2, BK231, HB⟩ := hrel
        cases gk with
        | zero => exact absurd HA.out (by simp [standing_Check.l1])
        | succ k2 =>
         have H := HA.out
         clear HA
         simp only [standing_Check.l1] at H
         by_cases c24 : x10_2 < (l1.length : Int)
         ·rw [if_pos c24] at H
          have c24b0 : decide (x10_2 < (l1.length : Int)) = true := decide_eq_true c24
          clear c24
          obtain ⟨ji25, hji25⟩ : ∃ j_ : Int, (wrap64 (x10_2 - 1)) = j_ := ⟨_, rfl⟩
          replace H : (if 0 ≤ (ji25) then (if (ji25) < (l1.length : Int) then (if 0 ≤ x10_2 then (if (rd l1 (ji25)) ≥ (rd l1 x10_2) then (some 5) else (standing_Check.l1 k2 l1 (wrap64 (x10_2 + 1)) a0_0 a0_1 l0_2 a0_3)) else (none)) else (none)) else (none)) = some r := by first | (rw [hji25] at H; exact H) | (simp only [hji25] at H ⊢; exact H)
          have hji25w : (IntKind.i64.wrap (x10_2 - 1)) = ji25 := (i64_w _).trans hji25
          by_cases c26 : 0 ≤ (ji25)
          ·rw [if_pos c26] at H
           have c26b0 : decide (0 ≤ (ji25)) = true := decide_eq_true c26
           clear c26
           by_cases c27 : (ji25) < (l1.length : Int)
           ·rw [if_pos c27] at H
            have c27b0 : decide ((ji25) < (l1.length : Int)) = true := decide_eq_true c27
            clear c27
            by_cases c28 : 0 ≤ x10_2
            ·rw [if_pos c28] at H
             have c28b0 : decide (0 ≤ x10_2) = true := decide_eq_true c28
             clear c28
             by_cases c29 : (rd l1 (ji25)) ≥ (rd l1 x10_2)
             ·rw [if_pos c29] at H
              have c29b0 : decide ((rd l1 x10_2) ≤ (rd l1 (ji25))) = true := decide_eq_true c29
              clear c29
              obtain rfl := Option.some.inj H
              have p236 : 0 ≤ ((ji25) : Int) := of_decide_eq_true (by first | (with_reducible assumption) | assumption)
              have q236 : (ji25) < (l1.length : Int) := of_decide_eq_true (by first | (with_reducible assumption) | assumption)
              obtain ⟨ad236, e236, hx236_0⟩ := Kd.at_int HR1.out (ji25) p236 q236
              cases e236
              replace hx236_0 := (HB.out.cell (World.block_lt_of_cell? w _ hx236_0)).trans hx236_0
              replace p236 := eq_true p236
              replace q236 := eq_true q236
              have p237 : 0 ≤ (x10_2 : Int) := of_decide_eq_true (by first | (with_reducible assumption) | assumption)
              have q237 : x10_2 < (l1.length : Int) := of_decide_eq_true (by first | (with_reducible assumption) | assumption)
              obtain ⟨ad237, e237, hx237_0⟩ := Kd.at_int HR1.out x10_2 p237 q237
              obtain rfl : ad236 = ad237 := (by injection e237)
              replace hx237_0 := (HB.out.cell (World.block_lt_of_cell? w _ hx237_0)).trans hx237_0
              replace p237 := eq_true p237
              replace q237 := eq_true q237
              go_wp2
              repeat (go_quiet (fail); try go_wp2)
              go_ret
              exact ⟨by first | rfl | (simp [errW_none, errW_some] <;> rfl) | (simp only [← hji25]; first | rfl | (simp [errW_none, errW_some] <;> rfl)) | (simp [*, errW_none, errW_some] <;> rfl), GS.lB HB.out⟩
             ·rw [if_neg c29] at H
              have c29b0 : decide ((rd l1 x10_2) ≤ (rd l1 (ji25))) = false := decide_eq_false c29
              clear c29
              have H' := Aside0.mk H
              clear H
              have p236 : 0 ≤ ((ji25) : Int) := of_decide_eq_true (by first | (with_reducible assumption) | assumption)
              have q236 : (ji25) < (l1.length : Int) := of_decide_eq_true (by first | (with_reducible assumption) | assumption)
              obtain ⟨ad236, e236, hx236_0⟩ := Kd.at_int HR1.out (ji25) p236 q236
              cases e236
              replace hx236_0 := (HB.out.cell (World.block_lt_of_cell? w _ hx236_0)).trans hx236_0
              replace p236 := eq_true p236
              replace q236 := eq_true q236
              have p237 : 0 ≤ (x10_2 : Int) := of_decide_eq_true (by first | (with_reducible assumption) | assumption)
              have q237 : x10_2 < (l1.length : Int) := of_decide_eq_true (by first | (with_reducible assumption) | assumption)
              obtain ⟨ad237, e237, hx237_0⟩ := Kd.at_int HR1.out x10_2 p237 q237
              obtain rfl : ad236 = ad237 := (by injection e237)
              replace hx237_0 := (HB.out.cell (World.block_lt_of_cell? w _ hx237_0)).trans hx237_0
              replace p237 := eq_true p237
              replace q237 := eq_true q237
              go_wp2
              repeat (go_quiet (fail); try go_wp2)
              go_roundg k2
              case measure => have := HK1.out; have := HK2.out; omega
              case rel => exact ⟨(wrap64 (x10_2 + 1)), (by first | rfl | (simp; done) | (simp [*]; done)), H', ⟨by have := HK1.out; have := HK2.out; omega⟩, ⟨GS.bqX BK231.out⟩, ⟨GS.lB HB.out⟩⟩
            ·rw [if_neg c28] at H
             exact absurd H (by simp)
           ·rw [if_neg c27] at H
            exact absurd H (by simp)
          ·rw [if_neg c26] at H
           exact absurd H (by simp)
         ·rw [if_neg c24] at H
          have c24b0 : decide (x10_2 < (l1.length : Int)) = false := decide_eq_false c24
          clear c24
          have H' := Aside0.mk H
          clear H
          obtain ⟨hcz30_0, hcz30_1, hcz30_2, hcz30_3, hfz30_0, hfz30_1, hfz30_2, hfz30_3⟩ := GS.c4 BK231.out
          go_wp2
          repeat (go_quiet (fail); try go_wp2)
          go_loopg [63] k2 (fun kq v63 w' => ∃ (x63_3 : Int), v63 = .int .i64 x63_3 ∧ Aside0 (standing_Check.l2 kq l1 l0_2 (l0_2.length : Int) x63_3 = some r) ∧ Aside0 (kq ≤ k2) ∧ Aside0 (w'.heap[gb231]? = some (.cells #[.string a0_0, .int .i64 a0_1, (.slice A0_2 l0_2.length c0_2), .int .i64 a0_3] 24 (0, 0))) ∧ Aside0 (Below w.heap.size w w'))
          case atStart => exact ⟨(0), (by first | rfl | (simp; done) | (simp [*]; done)), H', ⟨Nat.le_refl _⟩, ⟨GS.bqX BK231.out⟩, ⟨GS.lB HB.out⟩⟩
          case round =>
           clear H'
           try clear c1
           try clear c2
           try clear p2
           try clear q2
           try clear hx2
           try clear c4
           try clear c4b0
           try clear c4b1
           try clear c5
           try clear c5b0
           try clear c5b1
           try clear p6
           try clear c9
           try clear c9b0
           try clear c9b1
           try clear c16
           try clear c19
           try clear c19b0
           try clear c20
           try clear c20b0
           try clear c21
           try clear c21b0
           try clear c22
           try clear c22b0
           try clear c23
           try clear c23b0
           try clear p23
           try clear q23
           try clear hx23
           try clear c24
           try clear c24b0
           try clear c26
           try clear c26b0
           try clear c27
           try clear c27b0
           try clear c28
           try clear c28b0
           try clear c29
           try clear c29b0
           try clear hcz11_0
           try clear hcz11_1
           try clear hcz11_2
           try clear hcz11_3
           try clear hcz15_0
           try clear hcz15_1
           try clear hcz15_2
           try clear hcz15_3
           try clear hcz17_0
           try clear hcz17_1
           try clear hcz17_2
           try clear hcz17_3
           try clear hcz30_0
           try clear hcz30_1
           try clear hcz30_2
           try clear hcz30_3
           try clear hcz7_0
           try clear hcz7_1
           try clear hcz7_2
           try clear hcz7_3
           try clear hfz11_0
           try clear hfz11_1
           try clear hfz11_2
           try clear hfz11_3
           try clear hfz15_0
           try clear hfz15_1
           try clear hfz15_2
           try clear hfz15_3
           try clear hfz17_0
           try clear hfz17_1
           try clear hfz17_2
           try clear hfz17_3
           try clear hfz30_0
           try clear hfz30_1
           try clear hfz30_2
           try clear hfz30_3
           try clear hfz7_0
           try clear hfz7_1
           try clear hfz7_2
           try clear hfz7_3
           try clear hx235_0
           try clear hx236_0
           try clear hx237_0
           try clear p2
           try clear p23
           try clear p235
           try clear p236
           try clear p237
           try clear p6
           try clear q2
           try clear q23
           try clear q235
           try clear q236
           try clear q237
           obtain ⟨x63_3, rfl, HA, HK3, BK231, HB⟩ := hrel
           cases gk with
           | zero => exact absurd HA.out (by simp [standing_Check.l2])
           | succ k3 =>
            have H := HA.out
            clear HA
            simp only [standing_Check.l2] at H
            by_cases c31 : x63_3 < (l0_2.length : Int)
            ·rw [if_pos c31] at H
             have c31b0 : decide (x63_3 < (l0_2.length : Int)) = true := decide_eq_true c31
             clear c31
             by_cases c32 : 0 ≤ x63_3
             ·rw [if_pos c32] at H
              have c32b0 : decide (0 ≤ x63_3) = true := decide_eq_true c32
              clear c32
              by_cases c33 : x63_3 < (l0_2.length : Int)
              ·rw [if_pos c33] at H
               have c33b0 : decide (x63_3 < (l0_2.length : Int)) = true := decide_eq_true c33
               clear c33
               have HC34 := Aside0.mk H
               clear H
               have p238 : 0 ≤ (x63_3 : Int) := of_decide_eq_true (by first | (with_reducible assumption) | assumption)
               have q238 : x63_3 < (l0_2.length : Int) := of_decide_eq_true (by first | (with_reducible assumption) | assumption)
               obtain ⟨ad238, e238, hx238_0, hx238_1⟩ := at_T33 HR0_2.out x63_3 p238 q238
               cases e238
               replace hx238_0 := (HB.out.cell (World.block_lt_of_cell? w _ hx238_0)).trans hx238_0
               replace hx238_1 := (HB.out.cell (World.block_lt_of_cell? w _ hx238_1)).trans hx238_1
               replace p238 := eq_true p238
               replace q238 := eq_true q238
               go_upto_region 23 with (first | ((with_reducible refine gqD (N := 12) rfl ?_); (try (refine gate_guard (by rfl) ?_; dsimp only)); refine GS.bx (N := 12) (cs := #[.int .i64 0, .int .i64 0]) (t := 33) ?_; intro gb239 hg w35 hbox hb; have n0_ := Aside0.mk (bqB (GS.bqX BK231.out) hb); have n1_ := Aside0.mk (lqT (GS.lB HB.out) hb); have n2_ := Aside0.mk (hbox); have n3_ := Aside0.mk ((by rw [hg]; exact (lqZ (GS.lB HB.out)) : w.heap.size ≤ gb239)); have n4_ := Aside0.mk ((by rw [hg]; exact (lqZ (GS.lB HB.out)) : w.heap.size ≤ gb239)); have n5_ := Aside0.mk ((by rw [hg]; exact Nat.ne_of_lt (blk_lt (GS.bqX BK231.out)) : gb231 ≠ gb239)); have n6_ := Aside0.mk ((by rw [hg]; exact Nat.ne_of_gt (blk_lt (GS.bqX BK231.out)) : gb239 ≠ gb231)); clear BK231; clear HB; have BK231 := n0_; have HB := n1_; have BK239 := n2_; have GW239 := n3_; have GE239 := n4_; have NB231_239 := n5_; have NB239_231 := n6_; clear n0_ n1_ n2_ n3_ n4_ n5_ n6_; clear hb hbox hg; have hnb36 := NB239_231.out; have hnc36 := NB231_239.out; obtain ⟨hcz37_0, hcz37_1, hfz37_0, hfz37_1⟩ := GS.c2 BK239.out))
               repeat (go_quiet (first | ((with_reducible refine gqD (N := 12) rfl ?_); (try (refine gate_guard (by rfl) ?_; dsimp only)); refine GS.bx (N := 12) (cs := #[.int .i64 0, .int .i64 0]) (t := 33) ?_; intro gb239 hg w35 hbox hb; have n0_ := Aside0.mk (bqB (GS.bqX BK231.out) hb); have n1_ := Aside0.mk (lqT (GS.lB HB.out) hb); have n2_ := Aside0.mk (hbox); have n3_ := Aside0.mk ((by rw [hg]; exact (lqZ (GS.lB HB.out)) : w.heap.size ≤ gb239)); have n4_ := Aside0.mk ((by rw [hg]; exact (lqZ (GS.lB HB.out)) : w.heap.size ≤ gb239)); have n5_ := Aside0.mk ((by rw [hg]; exact Nat.ne_of_lt (blk_lt (GS.bqX BK231.out)) : gb231 ≠ gb239)); have n6_ := Aside0.mk ((by rw [hg]; exact Nat.ne_of_gt (blk_lt (GS.bqX BK231.out)) : gb239 ≠ gb231)); clear BK231; clear HB; have BK231 := n0_; have HB := n1_; have BK239 := n2_; have GW239 := n3_; have GE239 := n4_; have NB231_239 := n5_; have NB239_231 := n6_; clear n0_ n1_ n2_ n3_ n4_ n5_ n6_; clear hb hbox hg; have hnb36 := NB239_231.out; have hnc36 := NB231_239.out; obtain ⟨hcz37_0, hcz37_1, hfz37_0, hfz37_1⟩ := GS.c2 BK239.out)); go_upto_region 23 with (first | ((with_reducible refine gqD (N := 12) rfl ?_); (try (refine gate_guard (by rfl) ?_; dsimp only)); refine GS.bx (N := 12) (cs := #[.int .i64 0, .int .i64 0]) (t := 33) ?_; intro gb239 hg w35 hbox hb; have n0_ := Aside0.mk (bqB (GS.bqX BK231.out) hb); have n1_ := Aside0.mk (lqT (GS.lB HB.out) hb); have n2_ := Aside0.mk (hbox); have n3_ := Aside0.mk ((by rw [hg]; exact (lqZ (GS.lB HB.out)) : w.heap.size ≤ gb239)); have n4_ := Aside0.mk ((by rw [hg]; exact (lqZ (GS.lB HB.out)) : w.heap.size ≤ gb239)); have n5_ := Aside0.mk ((by rw [hg]; exact Nat.ne_of_lt (blk_lt (GS.bqX BK231.out)) : gb231 ≠ gb239)); have n6_ := Aside0.mk ((by rw [hg]; exact Nat.ne_of_gt (blk_lt (GS.bqX BK231.out)) : gb239 ≠ gb231)); clear BK231; clear HB; have BK231 := n0_; have HB := n1_; have BK239 := n2_; have GW239 := n3_; have GE239 := n4_; have NB231_239 := n5_; have NB239_231 := n6_; clear n0_ n1_ n2_ n3_ n4_ n5_ n6_; clear hb hbox hg; have hnb36 := NB239_231.out; have hnc36 := NB231_239.out; obtain ⟨hcz37_0, hcz37_1, hfz37_0, hfz37_1⟩ := GS.c2 BK239.out)))
               (try simp only [Act.put, List.setIfInBounds_toArray, List.set_cons_zero, List.set_cons_succ])
               go_cut [90] (fun v90 wc => ∃ (kq : Nat) (x90_33 : Bool), v90 = .bool x90_33 ∧ Aside0 (standing_Check.j3 kq l1 l0_2 (l0_2.length : Int) x63_3 x90_33 = some r) ∧ Aside0 (kq ≤ k3) ∧ Aside0 (wc.heap[gb231]? = some (.cells #[.string a0_0, .int .i64 a0_1, (.slice (some ad238) l0_2.length c0_2), .int .i64 a0_3] 24 (0, 0))) ∧ Aside0 (wc.heap[gb239]? = some (.cells #[.int .i64 ((rd_T33 l0_2 x63_3).f0), .int .i64 ((rd_T33 l0_2 x63_3).f1)] 33 (0, 0))) ∧ Aside0 (Below w.heap.size w wc))
               case first =>
                have H := HC34.out
                clear HC34
                by_cases c38 : 0 < (l1.length : Int)
                ·rw [if_pos c38] at H
                 have c38b0 : decide (0 < (l1.length : Int)) = true := decide_eq_true c38
                 have c38b1 : decide (0 < l1.length) = true := decide_eq_true (by omega)
                 clear c38
                 (first | rw [c38b0] | (simp only [i64_w, i32_w]; rw [c38b0]) | skip)
                 by_cases c39 : ((rd_T33 l0_2 x63_3).f0) > (rd l1 0)
                 ·rw [if_pos c39] at H
                  have c39b0 : decide ((rd l1 0) < ((rd_T33 l0_2 x63_3).f0)) = true := decide_eq_true c39
                  clear c39
                  obtain ⟨ji40, hji40⟩ : ∃ j_ : Int, (wrap64 ((l1.length : Int) - 1)) = j_ := ⟨_, rfl⟩
                  replace H : (if 0 ≤ (ji40) then (if (ji40) < (l1.length : Int) then (if ((rd_T33 l0_2 x63_3).f0) < (rd l1 (ji40)) then ((slices_Contains_int_int.f k3 l1 ((rd_T33 l0_2 x63_3).f0)).bind fun t242 => (standing_Check.j3 k3 l1 l0_2 (l0_2.length : Int) x63_3 (!t242))) else (standing_Check.j3 k3 l1 l0_2 (l0_2.length : Int) x63_3 false)) else (none)) else (none)) = some r := by first | (rw [hji40] at H; exact H) | (simp only [hji40] at H ⊢; exact H)
                  have hji40w : (IntKind.i64.wrap ((l1.length : Int) - 1)) = ji40 := (i64_w _).trans hji40
                  by_cases c41 : 0 ≤ (ji40)
                  ·rw [if_pos c41] at H
                   have c41b0 : decide (0 ≤ (ji40)) = true := decide_eq_true c41
                   clear c41
                   by_cases c42 : (ji40) < (l1.length : Int)
                   ·rw [if_pos c42] at H
                    have c42b0 : decide ((ji40) < (l1.length : Int)) = true := decide_eq_true c42
                    clear c42
                    by_cases c43 : ((rd_T33 l0_2 x63_3).f0) < (rd l1 (ji40))
                    ·rw [if_pos c43] at H
                     have c43b0 : decide (((rd_T33 l0_2 x63_3).f0) < (rd l1 (ji40))) = true := decide_eq_true c43
                     clear c43
                     replace H := Option.bind_eq_some_iff.mp H
                     obtain ⟨t242, A440, H⟩ := H
                     replace H : (standing_Check.j3 k3 l1 l0_2 (l0_2.length : Int) x63_3 (!t242)) = some r := H
                     have A44 := Aside0.mk A440
                     clear A440
                     have H' := Aside0.mk H
                     clear H
                     have hnb45 := NB239_231.out
                     have hnc45 := NB231_239.out
                     obtain ⟨hcz46_0, hcz46_1, hfz46_0, hfz46_1⟩ := GS.c2 BK239.out
                     have p240 : 0 ≤ (0 : Int) := (by omega)
                     have q240 : 0 < (l1.length : Int) := of_decide_eq_true (by first | (with_reducible assumption) | assumption)
                     obtain ⟨ad240, e240, hx240_0⟩ := Kd.at_int HR1.out 0 p240 q240
                     cases e240
                     have qi240 : (0 < l1.length) = True := eq_true (by omega)
                     (try rw [show ((0 : Int)).toNat = 0 from rfl] at hx240_0)
                     (try rw [Addr.add_zero'] at hx240_0)
                     have hn240_0 : ad240.block ≠ gb239 := Nat.ne_of_lt (Nat.lt_of_lt_of_le (by have := World.block_lt_of_cell? _ _ hx240_0; first | rwa [add_block] at this | exact this) GW239.out)
                     have hn240_1 : ad240.block ≠ gb239 := Nat.ne_of_lt (Nat.lt_of_lt_of_le (by have := World.block_lt_of_cell? _ _ hx240_0; first | rwa [add_block] at this | exact this) GW239.out)
                     replace hx240_0 := (HB.out.cell (World.block_lt_of_cell? w _ hx240_0)).trans hx240_0
                     replace hx240_0 := (cell_far (p := ⟨gb239, 0, none⟩) (by first | (rw [add_block]; exact hn240_0) | (show (Addr.add _ _).block ≠ _; rw [add_block]; exact hn240_0) | exact hn240_0) (.int .i64 ((rd_T33 l0_2 x63_3).f0))).trans hx240_0
                     replace hx240_0 := (cell_far (p := ⟨gb239, 1, none⟩) (by first | (rw [add_block]; exact hn240_1) | (show (Addr.add _ _).block ≠ _; rw [add_block]; exact hn240_1) | exact hn240_1) (.int .i64 ((rd_T33 l0_2 x63_3).f1))).trans hx240_0
                     (try have hy240_0 := fun (n_ : Nat) => (show ((((w35.drewN n_).setCell ⟨gb239, 0, none⟩ (.int .i64 ((rd_T33 l0_2 x63_3).f0))).setCell ⟨gb239, 1, none⟩ (.int .i64 ((rd_T33 l0_2 x63_3).f1)))).cell? _ = some _ from hx240_0))
                     clear hn240_0
                     clear hn240_1
                     replace p240 := eq_true p240
                     replace q240 := eq_true q240
                     have p241 : 0 ≤ ((ji40) : Int) := of_decide_eq_true (by first | (with_reducible assumption) | assumption)
                     have q241 : (ji40) < (l1.length : Int) := of_decide_eq_true (by first | (with_reducible assumption) | assumption)
                     obtain ⟨ad241, e241, hx241_0⟩ := Kd.at_int HR1.out (ji40) p241 q241
                     obtain rfl : ad240 = ad241 := (by injection e241)
                     have hn241_0 : ad240.block ≠ gb239 := Nat.ne_of_lt (Nat.lt_of_lt_of_le (by have := World.block_lt_of_cell? _ _ hx241_0; first | rwa [add_block] at this | exact this) GW239.out)
                     have hn241_1 : ad240.block ≠ gb239 := Nat.ne_of_lt (Nat.lt_of_lt_of_le (by have := World.block_lt_of_cell? _ _ hx241_0; first | rwa [add_block] at this | exact this) GW239.out)
                     replace hx241_0 := (HB.out.cell (World.block_lt_of_cell? w _ hx241_0)).trans hx241_0
                     replace hx241_0 := (cell_far (p := ⟨gb239, 0, none⟩) (by first | (rw [add_block]; exact hn241_0) | (show (Addr.add _ _).block ≠ _; rw [add_block]; exact hn241_0) | exact hn241_0) (.int .i64 ((rd_T33 l0_2 x63_3).f0))).trans hx241_0
                     replace hx241_0 := (cell_far (p := ⟨gb239, 1, none⟩) (by first | (rw [add_block]; exact hn241_1) | (show (Addr.add _ _).block ≠ _; rw [add_block]; exact hn241_1) | exact hn241_1) (.int .i64 ((rd_T33 l0_2 x63_3).f1))).trans hx241_0
                     (try have hy241_0 := fun (n_ : Nat) => (show ((((w35.drewN n_).setCell ⟨gb239, 0, none⟩ (.int .i64 ((rd_T33 l0_2 x63_3).f0))).setCell ⟨gb239, 1, none⟩ (.int .i64 ((rd_T33 l0_2 x63_3).f1)))).cell? _ = some _ from hx241_0))
                     clear hn241_0
                     clear hn241_1
                     replace p241 := eq_true p241
                     replace q241 := eq_true q241
                     go_wp2_with (first | (go_at_call 38; (with_reducible refine (slices_Contains_int_int.calls k3 _ _ l1 ((rd_T33 l0_2 x63_3).f0) t242 _ ?side1 ?side2 A44.out).mono ?_); (case side1 => exact Kd.C_below HR1.out (GS.lB HB.out)); (case side2 => exact HC1.out); rintro e w' ⟨rfl, ⟨nd, rfl⟩⟩; (try first | exact ⟨rfl, _, World.drewN_drewN _ _ _⟩ | exact ⟨rfl, _, Eq.trans (World.drewN_drewN _ _ _) (congrArg (World.drewN _) (Nat.add_assoc _ _ _))⟩)))
                     repeat (go_quiet (first | (go_at_call 38; (with_reducible refine (slices_Contains_int_int.calls k3 _ _ l1 ((rd_T33 l0_2 x63_3).f0) t242 _ ?side1 ?side2 A44.out).mono ?_); (case side1 => exact Kd.C_below HR1.out (GS.lB HB.out)); (case side2 => exact HC1.out); rintro e w' ⟨rfl, ⟨nd, rfl⟩⟩; (try first | exact ⟨rfl, _, World.drewN_drewN _ _ _⟩ | exact ⟨rfl, _, Eq.trans (World.drewN_drewN _ _ _) (congrArg (World.drewN _) (Nat.add_assoc _ _ _))⟩))); try go_wp2_with (first | (go_at_call 38; (with_reducible refine (slices_Contains_int_int.calls k3 _ _ l1 ((rd_T33 l0_2 x63_3).f0) t242 _ ?side1 ?side2 A44.out).mono ?_); (case side1 => exact Kd.C_below HR1.out (GS.lB HB.out)); (case side2 => exact HC1.out); rintro e w' ⟨rfl, ⟨nd, rfl⟩⟩; (try first | exact ⟨rfl, _, World.drewN_drewN _ _ _⟩ | exact ⟨rfl, _, Eq.trans (World.drewN_drewN _ _ _) (congrArg (World.drewN _) (Nat.add_assoc _ _ _))⟩))))
                     go_meet
                     case rel => exact ⟨_, (!t242), (by first | rfl | (simp; done) | (simp [*]; done)), H', ⟨by have := HK1.out; have := HK2.out; have := HK3.out; first | omega | exact Nat.le_refl _⟩, ⟨GS.bqX BK231.out⟩, ⟨GS.bqZ BK239.out⟩, ⟨GS.lB HB.out⟩⟩
                    ·rw [if_neg c43] at H
                     have c43b0 : decide (((rd_T33 l0_2 x63_3).f0) < (rd l1 (ji40))) = false := decide_eq_false c43
                     clear c43
                     have H' := Aside0.mk H
                     clear H
                     have hnb47 := NB239_231.out
                     have hnc47 := NB231_239.out
                     obtain ⟨hcz48_0, hcz48_1, hfz48_0, hfz48_1⟩ := GS.c2 BK239.out
                     have p240 : 0 ≤ (0 : Int) := (by omega)
                     have q240 : 0 < (l1.length : Int) := of_decide_eq_true (by first | (with_reducible assumption) | assumption)
                     obtain ⟨ad240, e240, hx240_0⟩ := Kd.at_int HR1.out 0 p240 q240
                     cases e240
                     have qi240 : (0 < l1.length) = True := eq_true (by omega)
                     (try rw [show ((0 : Int)).toNat = 0 from rfl] at hx240_0)
                     (try rw [Addr.add_zero'] at hx240_0)
                     have hn240_0 : ad240.block ≠ gb239 := Nat.ne_of_lt (Nat.lt_of_lt_of_le (by have := World.block_lt_of_cell? _ _ hx240_0; first | rwa [add_block] at this | exact this) GW239.out)
                     have hn240_1 : ad240.block ≠ gb239 := Nat.ne_of_lt (Nat.lt_of_lt_of_le (by have := World.block_lt_of_cell? _ _ hx240_0; first | rwa [add_block] at this | exact this) GW239.out)
                     replace hx240_0 := (HB.out.cell (World.block_lt_of_cell? w _ hx240_0)).trans hx240_0
                     replace hx240_0 := (cell_far (p := ⟨gb239, 0, none⟩) (by first | (rw [add_block]; exact hn240_0) | (show (Addr.add _ _).block ≠ _; rw [add_block]; exact hn240_0) | exact hn240_0) (.int .i64 ((rd_T33 l0_2 x63_3).f0))).trans hx240_0
                     replace hx240_0 := (cell_far (p := ⟨gb239, 1, none⟩) (by first | (rw [add_block]; exact hn240_1) | (show (Addr.add _ _).block ≠ _; rw [add_block]; exact hn240_1) | exact hn240_1) (.int .i64 ((rd_T33 l0_2 x63_3).f1))).trans hx240_0
                     (try have hy240_0 := fun (n_ : Nat) => (show ((((w35.drewN n_).setCell ⟨gb239, 0, none⟩ (.int .i64 ((rd_T33 l0_2 x63_3).f0))).setCell ⟨gb239, 1, none⟩ (.int .i64 ((rd_T33 l0_2 x63_3).f1)))).cell? _ = some _ from hx240_0))
                     clear hn240_0
                     clear hn240_1
                     replace p240 := eq_true p240
                     replace q240 := eq_true q240
                     have p241 : 0 ≤ ((ji40) : Int) := of_decide_eq_true (by first | (with_reducible assumption) | assumption)
                     have q241 : (ji40) < (l1.length : Int) := of_decide_eq_true (by first | (with_reducible assumption) | assumption)
                     obtain ⟨ad241, e241, hx241_0⟩ := Kd.at_int HR1.out (ji40) p241 q241
                     obtain rfl : ad240 = ad241 := (by injection e241)
                     have hn241_0 : ad240.block ≠ gb239 := Nat.ne_of_lt (Nat.lt_of_lt_of_le (by have := World.block_lt_of_cell? _ _ hx241_0; first | rwa [add_block] at this | exact this) GW239.out)
                     have hn241_1 : ad240.block ≠ gb239 := Nat.ne_of_lt (Nat.lt_of_lt_of_le (by have := World.block_lt_of_cell? _ _ hx241_0; first | rwa [add_block] at this | exact this) GW239.out)
                     replace hx241_0 := (HB.out.cell (World.block_lt_of_cell? w _ hx241_0)).trans hx241_0
                     replace hx241_0 := (cell_far (p := ⟨gb239, 0, none⟩) (by first | (rw [add_block]; exact hn241_0) | (show (Addr.add _ _).block ≠ _; rw [add_block]; exact hn241_0) | exact hn241_0) (.int .i64 ((rd_T33 l0_2 x63_3).f0))).trans hx241_0
                     replace hx241_0 := (cell_far (p := ⟨gb239, 1, none⟩) (by first | (rw [add_block]; exact hn241_1) | (show (Addr.add _ _).block ≠ _; rw [add_block]; exact hn241_1) | exact hn241_1) (.int .i64 ((rd_T33 l0_2 x63_3).f1))).trans hx241_0
                     (try have hy241_0 := fun (n_ : Nat) => (show ((((w35.drewN n_).setCell ⟨gb239, 0, none⟩ (.int .i64 ((rd_T33 l0_2 x63_3).f0))).setCell ⟨gb239, 1, none⟩ (.int .i64 ((rd_T33 l0_2 x63_3).f1)))).cell? _ = some _ from hx241_0))
                     clear hn241_0
                     clear hn241_1
                     replace p241 := eq_true p241
                     replace q241 := eq_true q241
                     go_wp2
                     repeat (go_quiet (fail); try go_wp2)
                     go_meet
                     case rel => exact ⟨_, (false), (by first | rfl | (simp; done) | (simp [*]; done)), H', ⟨by have := HK1.out; have := HK2.out; have := HK3.out; first | omega | exact Nat.le_refl _⟩, ⟨GS.bqX BK231.out⟩, ⟨GS.bqZ BK239.out⟩, ⟨GS.lB HB.out⟩⟩
                   ·rw [if_neg c42] at H
                    exact absurd H (by simp)
                  ·rw [if_neg c41] at H
                   exact absurd H (by simp)
                 ·rw [if_neg c39] at H
                  have c39b0 : decide ((rd l1 0) < ((rd_T33 l0_2 x63_3).f0)) = false := decide_eq_false c39
                  clear c39
                  have H' := Aside0.mk H
                  clear H
                  have hnb49 := NB239_231.out
                  have hnc49 := NB231_239.out
                  obtain ⟨hcz50_0, hcz50_1, hfz50_0, hfz50_1⟩ := GS.c2 BK239.out
                  have p240 : 0 ≤ (0 : Int) := (by omega)
                  have q240 : 0 < (l1.length : Int) := of_decide_eq_true (by first | (with_reducible assumption) | assumption)
                  obtain ⟨ad240, e240, hx240_0⟩ := Kd.at_int HR1.out 0 p240 q240
                  cases e240
                  have qi240 : (0 < l1.length) = True := eq_true (by omega)
                  (try rw [show ((0 : Int)).toNat = 0 from rfl] at hx240_0)
                  (try rw [Addr.add_zero'] at hx240_0)
                  have hn240_0 : ad240.block ≠ gb239 := Nat.ne_of_lt (Nat.lt_of_lt_of_le (by have := World.block_lt_of_cell? _ _ hx240_0; first | rwa [add_block] at this | exact this) GW239.out)
                  have hn240_1 : ad240.block ≠ gb239 := Nat.ne_of_lt (Nat.lt_of_lt_of_le (by have := World.block_lt_of_cell? _ _ hx240_0; first | rwa [add_block] at this | exact this) GW239.out)
                  replace hx240_0 := (HB.out.cell (World.block_lt_of_cell? w _ hx240_0)).trans hx240_0
                  replace hx240_0 := (cell_far (p := ⟨gb239, 0, none⟩) (by first | (rw [add_block]; exact hn240_0) | (show (Addr.add _ _).block ≠ _; rw [add_block]; exact hn240_0) | exact hn240_0) (.int .i64 ((rd_T33 l0_2 x63_3).f0))).trans hx240_0
                  replace hx240_0 := (cell_far (p := ⟨gb239, 1, none⟩) (by first | (rw [add_block]; exact hn240_1) | (show (Addr.add _ _).block ≠ _; rw [add_block]; exact hn240_1) | exact hn240_1) (.int .i64 ((rd_T33 l0_2 x63_3).f1))).trans hx240_0
                  (try have hy240_0 := fun (n_ : Nat) => (show ((((w35.drewN n_).setCell ⟨gb239, 0, none⟩ (.int .i64 ((rd_T33 l0_2 x63_3).f0))).setCell ⟨gb239, 1, none⟩ (.int .i64 ((rd_T33 l0_2 x63_3).f1)))).cell? _ = some _ from hx240_0))
                  clear hn240_0
                  clear hn240_1
                  replace p240 := eq_true p240
                  replace q240 := eq_true q240
                  go_wp2
                  repeat (go_quiet (fail); try go_wp2)
                  go_meet
                  case rel => exact ⟨_, (false), (by first | rfl | (simp; done) | (simp [*]; done)), H', ⟨by have := HK1.out; have := HK2.out; have := HK3.out; first | omega | exact Nat.le_refl _⟩, ⟨GS.bqX BK231.out⟩, ⟨GS.bqZ BK239.out⟩, ⟨GS.lB HB.out⟩⟩
                ·rw [if_neg c38] at H
                 exact absurd H (by simp)
               case rest =>
                clear HC34
                try clear c1
                try clear c2
                try clear p2
                try clear q2
                try clear hx2
                try clear qi2
                try clear c3
                try clear c4
                try clear c4b0
                try clear c4b1
                try clear c5
                try clear c5b0
                try clear c5b1
                try clear p6
                try clear c9
                try clear c9b0
                try clear c9b1
                try clear c16
                try clear c19
                try clear c19b0
                try clear c20
                try clear c20b0
                try clear c21
                try clear c21b0
                try clear c22
                try clear c22b0
                try clear c23
                try clear c23b0
                try clear p23
                try clear q23
                try clear hx23
                try clear c24
                try clear c24b0
                try clear p24
                try clear q24
                try clear hx24
                try clear qi24
                try clear c26
                try clear c26b0
                try clear c27
                try clear c27b0
                try clear c28
                try clear c28b0
                try clear c29
                try clear c29b0
                try clear c31
                try clear c31b0
                try clear c32
                try clear c32b0
                try clear c33
                try clear c33b0
                try clear c36
                try clear c38
                try clear c38b0
                try clear c38b1
                try clear c39
                try clear c39b0
                try clear c41
                try clear c41b0
                try clear c42
                try clear c42b0
                try clear c43
                try clear c43b0
                try clear c45
                try clear c47
                try clear c49
                try clear hcz11_0
                try clear hcz11_1
                try clear hcz11_2
                try clear hcz11_3
                try clear hcz15_0
                try clear hcz15_1
                try clear hcz15_2
                try clear hcz15_3
                try clear hcz17_0
                try clear hcz17_1
                try clear hcz17_2
                try clear hcz17_3
                try clear hcz30_0
                try clear hcz30_1
                try clear hcz30_2
                try clear hcz30_3
                try clear hcz37_0
                try clear hcz37_1
                try clear hcz46_0
                try clear hcz46_1
                try clear hcz48_0
                try clear hcz48_1
                try clear hcz50_0
                try clear hcz50_1
                try clear hcz7_0
                try clear hcz7_1
                try clear hcz7_2
                try clear hcz7_3
                try clear hfz11_0
                try clear hfz11_1
                try clear hfz11_2
                try clear hfz11_3
                try clear hfz15_0
                try clear hfz15_1
                try clear hfz15_2
                try clear hfz15_3
                try clear hfz17_0
                try clear hfz17_1
                try clear hfz17_2
                try clear hfz17_3
                try clear hfz30_0
                try clear hfz30_1
                try clear hfz30_2
                try clear hfz30_3
                try clear hfz37_0
                try clear hfz37_1
                try clear hfz46_0
                try clear hfz46_1
                try clear hfz48_0
                try clear hfz48_1
                try clear hfz50_0
                try clear hfz50_1
                try clear hfz7_0
                try clear hfz7_1
                try clear hfz7_2
                try clear hfz7_3
                try clear hx235_0
                try clear hx236_0
                try clear hx237_0
                try clear hx238_0
                try clear hx238_1
                try clear hx240_0
                try clear hx241_0
                try clear p2
                try clear p23
                try clear p235
                try clear p236
                try clear p237
                try clear p238
                try clear p240
                try clear p241
                try clear p6
                try clear q2
                try clear q23
                try clear q235
                try clear q236
                try clear q237
                try clear q238
                try clear q240
                try clear q241
                obtain ⟨kq, x90_33, rfl, HA, HJ33, BK231, BK239, HB⟩ := hcut
                cases kq with
                | zero => exact absurd HA.out (by simp [standing_Check.j3])
                | succ kj33 =>
                 have H := HA.out
                 clear HA
                 simp only [standing_Check.j3] at H
                 by_cases c51 : x90_33 = true
                 ·subst c51
                  have H1 : (some 7) = some r := by rw [if_pos rfl] at H; exact H
                  clear H
                  have H := H1
                  clear H1
                  obtain rfl := Option.some.inj H
                  go_wp2
                  repeat (go_quiet (fail); try go_wp2)
                  go_ret
                  exact ⟨by first | rfl | (simp [errW_none, errW_some] <;> rfl) | (simp [*, errW_none, errW_some] <;> rfl), GS.lB HB.out⟩
                 ·replace c51 := Bool.eq_false_iff.mpr c51
                  subst c51
                  have H1 : (standing_Check.l2 kj33 l1 l0_2 (l0_2.length : Int) (wrap64 (x63_3 + 1))) = some r := by rw [if_neg (show ¬ (false = true) by decide)] at H; exact H
                  clear H
                  have H := H1
                  clear H1
                  have H' := Aside0.mk H
                  clear H
                  go_wp2
                  repeat (go_quiet (fail); try go_wp2)
                  go_roundg kj33
                  case measure => have := HK1.out; have := HK2.out; have := HK3.out; have := HJ33.out; omega
                  case rel => exact ⟨(wrap64 (x63_3 + 1)), (by first | rfl | (simp; done) | (simp [*]; done)), H', ⟨by have := HK1.out; have := HK2.out; have := HK3.out; have := HJ33.out; omega⟩, ⟨GS.bqX BK231.out⟩, ⟨GS.lB HB.out⟩⟩
              ·rw [if_neg c33] at H
               exact absurd H (by simp)
             ·rw [if_neg c32] at H
              exact absurd H (by simp)
            ·rw [if_neg c31] at H
             have c31b0 : decide (x63_3 < (l0_2.length : Int)) = false := decide_eq_false c31
             clear c31
             obtain rfl := Option.some.inj H
             go_wp2
             repeat (go_quiet (fail); try go_wp2)
             go_ret
             exact ⟨by first | rfl | (simp [errW_none, errW_some] <;> rfl) | (simp [*, errW_none, errW_some] <;> rfl), GS.lB HB.out⟩
 ·rw [if_neg c4] at H
  have c4b0 : (t232 == 0) = false := beq_eq_false_iff_ne.mpr c4
  try simp only [beq_self_eq_true, Bool.not_true, Bool.false_or, Bool.true_and] at c4b0
  have c4b1 : (t232 != 0) = true := bne_iff_ne.mpr c4
  obtain rfl := Option.some.inj H
  go_enter Try.func16, Try.ntmps16
  go_wp2_with (first | ((with_reducible refine gqD (N := 2) rfl ?_); (try (refine gate_guard (by rfl) ?_; dsimp only)); refine GS.bx (N := 2) (cs := #[.string a0_0, .int .i64 a0_1, .slice A0_2 l0_2.length c0_2, .int .i64 a0_3]) (t := 24) ?_; intro gb231 hg w52 hbox hb; have n0_ := Aside0.mk (lqT (GS.lB HB.out) hb); have n1_ := Aside0.mk (hbox); have n2_ := Aside0.mk ((by rw [hg]; exact (lqZ (GS.lB HB.out)) : w.heap.size ≤ gb231)); have n3_ := Aside0.mk ((by rw [hg]; exact (lqZ (GS.lB HB.out)) : w.heap.size ≤ gb231)); clear HB; have HB := n0_; have BK231 := n1_; have GW231 := n2_; have GE231 := n3_; clear n0_ n1_ n2_ n3_; clear hb hbox hg; obtain ⟨hcz53_0, hcz53_1, hcz53_2, hcz53_3, hfz53_0, hfz53_1, hfz53_2, hfz53_3⟩ := GS.c4 BK231.out) | (go_at_call 37; (with_reducible refine (standing_stands.calls k a0_0 a0_1 _ _ l0_2 a0_3 t232 _ ?side1 ?side2 A3.out).mono ?_); (case side1 => exact GS.rC (Kd.C_below HR0_2.out HB.out)); (case side2 => exact HC0_2.out); rintro e w54 ⟨rfl, hb⟩; have n0_ := Aside0.mk (bqB (GS.bqX BK231.out) hb); have n1_ := Aside0.mk (lqT (GS.lB HB.out) hb); clear BK231; clear HB; have BK231 := n0_; have HB := n1_; clear n0_ n1_; (try clear hb); (try clear hb2); (try clear hk); (try clear hi)))
  repeat (go_quiet (first | ((with_reducible refine gqD (N := 2) rfl ?_); (try (refine gate_guard (by rfl) ?_; dsimp only)); refine GS.bx (N := 2) (cs := #[.string a0_0, .int .i64 a0_1, .slice A0_2 l0_2.length c0_2, .int .i64 a0_3]) (t := 24) ?_; intro gb231 hg w52 hbox hb; have n0_ := Aside0.mk (lqT (GS.lB HB.out) hb); have n1_ := Aside0.mk (hbox); have n2_ := Aside0.mk ((by rw [hg]; exact (lqZ (GS.lB HB.out)) : w.heap.size ≤ gb231)); have n3_ := Aside0.mk ((by rw [hg]; exact (lqZ (GS.lB HB.out)) : w.heap.size ≤ gb231)); clear HB; have HB := n0_; have BK231 := n1_; have GW231 := n2_; have GE231 := n3_; clear n0_ n1_ n2_ n3_; clear hb hbox hg; obtain ⟨hcz53_0, hcz53_1, hcz53_2, hcz53_3, hfz53_0, hfz53_1, hfz53_2, hfz53_3⟩ := GS.c4 BK231.out) | (go_at_call 37; (with_reducible refine (standing_stands.calls k a0_0 a0_1 _ _ l0_2 a0_3 t232 _ ?side1 ?side2 A3.out).mono ?_); (case side1 => exact GS.rC (Kd.C_below HR0_2.out HB.out)); (case side2 => exact HC0_2.out); rintro e w54 ⟨rfl, hb⟩; have n0_ := Aside0.mk (bqB (GS.bqX BK231.out) hb); have n1_ := Aside0.mk (lqT (GS.lB HB.out) hb); clear BK231; clear HB; have BK231 := n0_; have HB := n1_; clear n0_ n1_; (try clear hb); (try clear hb2); (try clear hk); (try clear hi))); try go_wp2_with (first | ((with_reducible refine gqD (N := 2) rfl ?_); (try (refine gate_guard (by rfl) ?_; dsimp only)); refine GS.bx (N := 2) (cs := #[.string a0_0, .int .i64 a0_1, .slice A0_2 l0_2.length c0_2, .int .i64 a0_3]) (t := 24) ?_; intro gb231 hg w52 hbox hb; have n0_ := Aside0.mk (lqT (GS.lB HB.out) hb); have n1_ := Aside0.mk (hbox); have n2_ := Aside0.mk ((by rw [hg]; exact (lqZ (GS.lB HB.out)) : w.heap.size ≤ gb231)); have n3_ := Aside0.mk ((by rw [hg]; exact (lqZ (GS.lB HB.out)) : w.heap.size ≤ gb231)); clear HB; have HB := n0_; have BK231 := n1_; have GW231 := n2_; have GE231 := n3_; clear n0_ n1_ n2_ n3_; clear hb hbox hg; obtain ⟨hcz53_0, hcz53_1, hcz53_2, hcz53_3, hfz53_0, hfz53_1, hfz53_2, hfz53_3⟩ := GS.c4 BK231.out) | (go_at_call 37; (with_reducible refine (standing_stands.calls k a0_0 a0_1 _ _ l0_2 a0_3 t232 _ ?side1 ?side2 A3.out).mono ?_); (case side1 => exact GS.rC (Kd.C_below HR0_2.out HB.out)); (case side2 => exact HC0_2.out); rintro e w54 ⟨rfl, hb⟩; have n0_ := Aside0.mk (bqB (GS.bqX BK231.out) hb); have n1_ := Aside0.mk (lqT (GS.lB HB.out) hb); clear BK231; clear HB; have BK231 := n0_; have HB := n1_; clear n0_ n1_; (try clear hb); (try clear hb2); (try clear hk); (try clear hi))))
  go_ret
  exact ⟨by first | rfl | (simp [errW_none, errW_some] <;> rfl) | (simp [*, errW_none, errW_some] <;> rfl), GS.lB HB.out⟩

end Go.Proofs.Ytmcmbjkjilcmeaa.K
