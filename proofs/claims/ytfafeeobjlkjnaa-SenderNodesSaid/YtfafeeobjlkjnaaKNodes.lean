-- PRINTED by print.py (a twelfth state) out of the translation. Not trusted: Lean checks it.
import Derived.Test.YtfafeeobjlkjnaaK0
import Derived.Test.YtfafeeobjlkjnaaGShort
import Derived.Test.YtfafeeobjlkjnaaK8
import Derived.Test.YtfafeeobjlkjnaaK9
import Derived.Test.YtfafeeobjlkjnaaKCont
import Derived.Test.YtfafeeobjlkjnaaGAgain
import Derived.Test.YtfafeeobjlkjnaaGCont
import Derived.Test.YtfafeeobjlkjnaaGWaits
namespace Go.Proofs.Ytfafeeobjlkjnaa.K
open Go.RowKit Go.Proofs.YtfafeeobjlkjnaaW.PrintWords Go.Proofs.YtfafeeobjlkjnaaW.PrintLast Go.Proofs.YtfafeeobjlkjnaaW.PrintMore
attribute [local go_sem] max2_int min2_int max_two min_two max_three min_three max_four min_four   -- for this text's walks alone
set_option linter.unusedVariables false
set_option linter.unusedSimpArgs false

/-! ### spilelaw42_SenderNodes: function 9 -/
mutual
def spilelaw42_SenderNodes.l0 : Nat → Int → List Int → Int → List Int → Int → Int → Int → Int → List (S33) → Option (Bool)
 | 0, _, _, _, _, _, _, _, _, _ => none
 | k + 1, x1, x5, x7, x31, x32, x33, x621000, x621001, x621002 => if x33 < x32 then (if 0 ≤ x33 then (if x33 < (x31.length : Int) then ((spileref42_Copy.f x621000 x621001 x621002).bind fun bt633 => ((sender_Again.f k bt633.1 bt633.2.1 bt633.2.2 (rd x31 x33)).bind fun bt638 => (if bt638.2 = 0 then (if (bt638.1.length : Int) = 0 then (none) else (if x33 > 0 then (if 0 ≤ (wrap64 (x33 - 1)) then (if (wrap64 (x33 - 1)) < (x5.length : Int) then (if (rd x5 (wrap64 (x33 - 1))) ≥ (rd x31 x33) then (none) else ((cont36.f k bt638.1 (rd x31 x33) x621000 x621001 x621002).bind fun t643 => (spilelaw42_SenderNodes.j1 k x1 x5 x7 bt638.1 x31 x32 x33 t643 x621000 x621001 x621002))) else (none)) else (none)) else ((cont36.f k bt638.1 (rd x31 x33) x621000 x621001 x621002).bind fun t644 => (spilelaw42_SenderNodes.j1 k x1 x5 x7 bt638.1 x31 x32 x33 t644 x621000 x621001 x621002)))) else (none)))) else (none)) else (none)) else ((spileref42_Copy.f x621000 x621001 x621002).bind fun bt645 => ((sender_Again.f k bt645.1 bt645.2.1 bt645.2.2 x1).bind fun bt650 => (if x7 = (x621002.length : Int) then (if bt650.2 = 0 then ((slices_Contains_int_int.f k x5 x1).bind fun t654 => (some ((decide ((bt650.1.length : Int) > 0)) == t654))) else (if (bt650.1.length : Int) = 0 then (some true) else (none))) else (none))))
def spilelaw42_SenderNodes.j1 : Nat → Int → List Int → Int → List (S33) → List Int → Int → Int → Bool → Int → Int → List (S33) → Option (Bool)
 | 0, _, _, _, _, _, _, _, _, _, _, _ => none
 | k + 1, x1, x5, x7, x10, x31, x32, x33, x69, x621000, x621001, x621002 => if x69 = true then (none) else (spilelaw42_SenderNodes.l0 k x1 x5 (wrap64 (x7 + (x10.length : Int))) x31 x32 (wrap64 (x33 + 1)) x621000 x621001 x621002)
end
def spilelaw42_SenderNodes.f (k : Nat) (a0_0 : Int) (a0_1 : Int) (l0_2 : List (S33)) (a1 : Int) : Option (Bool) := (spilelaw42_awake.f k).bind fun t621 => (if t621 = true then (if (l0_2.length : Int) > 14 then (some true) else ((spileref42_Copy.f a0_0 a0_1 l0_2).bind fun bt622 => ((sender_Waits.f k bt622.1 bt622.2.1 bt622.2.2).bind fun bt627 => (if bt627.2 = 0 then (spilelaw42_SenderNodes.l0 k a1 bt627.1 0 bt627.1 (bt627.1.length : Int) 0 a0_0 a0_1 l0_2) else (some ((bt627.1.length : Int) == 0)))))) else (none))
theorem spilelaw42_SenderNodes.mono_l : ∀ k, (∀ y0 y1 y2 y3 y4 y5 y6 y7 y8, LeO (spilelaw42_SenderNodes.l0 k y0 y1 y2 y3 y4 y5 y6 y7 y8) (spilelaw42_SenderNodes.l0 (k + 1) y0 y1 y2 y3 y4 y5 y6 y7 y8)) ∧ (∀ y0 y1 y2 y3 y4 y5 y6 y7 y8 y9 y10, LeO (spilelaw42_SenderNodes.j1 k y0 y1 y2 y3 y4 y5 y6 y7 y8 y9 y10) (spilelaw42_SenderNodes.j1 (k + 1) y0 y1 y2 y3 y4 y5 y6 y7 y8 y9 y10))
 | 0 => ⟨fun _ _ _ _ _ _ _ _ _ r h => by simp [spilelaw42_SenderNodes.l0] at h, fun _ _ _ _ _ _ _ _ _ _ _ r h => by simp [spilelaw42_SenderNodes.j1] at h⟩
 | k + 1 => by
  obtain ⟨ih0, ih1⟩ := spilelaw42_SenderNodes.mono_l k
  refine ⟨?_, ?_⟩
  ·intro y0 y1 y2 y3 y4 y5 y6 y7 y8
   unfold spilelaw42_SenderNodes.l0
   repeat' first
   | (with_reducible exact ih0 _ _ _ _ _ _ _ _ _)
   | (with_reducible exact ih1 _ _ _ _ _ _ _ _ _ _ _)
   | (with_reducible exact cont36.mono _ _ _ _ _ _)
   | (with_reducible exact sender_Again.mono _ _ _ _ _)
   | (with_reducible exact sender_Waits.mono _ _ _ _)
   | (with_reducible exact slices_Contains_int_int.mono _ _ _)
   | (with_reducible exact spilelaw42_awake.mono _)
   | (with_reducible exact LeO.refl _)
   | (with_reducible exact LeO.none _)
   | (with_reducible refine LeO.ite ?_ ?_)
   | (with_reducible refine LeO.bind ?_ (fun _ => ?_))
   | exact ih0 _ _ _ _ _ _ _ _ _
   | exact ih1 _ _ _ _ _ _ _ _ _ _ _
   | exact cont36.mono _ _ _ _ _ _
   | exact sender_Again.mono _ _ _ _ _
   | exact sender_Waits.mono _ _ _ _
   | exact slices_Contains_int_int.mono _ _ _
   | exact spilelaw42_awake.mono _
   | exact LeO.none _
   | refine LeO.ite ?_ ?_
   | refine LeO.bind ?_ (fun _ => ?_)
  ·intro y0 y1 y2 y3 y4 y5 y6 y7 y8 y9 y10
   unfold spilelaw42_SenderNodes.j1
   repeat' first
   | (with_reducible exact ih0 _ _ _ _ _ _ _ _ _)
   | (with_reducible exact ih1 _ _ _ _ _ _ _ _ _ _ _)
   | (with_reducible exact cont36.mono _ _ _ _ _ _)
   | (with_reducible exact sender_Again.mono _ _ _ _ _)
   | (with_reducible exact sender_Waits.mono _ _ _ _)
   | (with_reducible exact slices_Contains_int_int.mono _ _ _)
   | (with_reducible exact spilelaw42_awake.mono _)
   | (with_reducible exact LeO.refl _)
   | (with_reducible exact LeO.none _)
   | (with_reducible refine LeO.ite ?_ ?_)
   | (with_reducible refine LeO.bind ?_ (fun _ => ?_))
   | exact ih0 _ _ _ _ _ _ _ _ _
   | exact ih1 _ _ _ _ _ _ _ _ _ _ _
   | exact cont36.mono _ _ _ _ _ _
   | exact sender_Again.mono _ _ _ _ _
   | exact sender_Waits.mono _ _ _ _
   | exact slices_Contains_int_int.mono _ _ _
   | exact spilelaw42_awake.mono _
   | exact LeO.none _
   | refine LeO.ite ?_ ?_
   | refine LeO.bind ?_ (fun _ => ?_)
theorem spilelaw42_SenderNodes.mono : ∀ a0 a1 a2 a3 k, LeO (spilelaw42_SenderNodes.f k a0 a1 a2 a3) (spilelaw42_SenderNodes.f (k + 1) a0 a1 a2 a3) := by
 intro a0 a1 a2 a3 k
 obtain ⟨ih0, ih1⟩ := spilelaw42_SenderNodes.mono_l k
 unfold spilelaw42_SenderNodes.f
 repeat' first
   | (with_reducible exact ih0 _ _ _ _ _ _ _ _ _)
   | (with_reducible exact ih1 _ _ _ _ _ _ _ _ _ _ _)
   | (with_reducible exact cont36.mono _ _ _ _ _ _)
   | (with_reducible exact sender_Again.mono _ _ _ _ _)
   | (with_reducible exact sender_Waits.mono _ _ _ _)
   | (with_reducible exact slices_Contains_int_int.mono _ _ _)
   | (with_reducible exact spilelaw42_awake.mono _)
   | (with_reducible exact LeO.refl _)
   | (with_reducible exact LeO.none _)
   | (with_reducible refine LeO.ite ?_ ?_)
   | (with_reducible refine LeO.bind ?_ (fun _ => ?_))
   | exact ih0 _ _ _ _ _ _ _ _ _
   | exact ih1 _ _ _ _ _ _ _ _ _ _ _
   | exact cont36.mono _ _ _ _ _ _
   | exact sender_Again.mono _ _ _ _ _
   | exact sender_Waits.mono _ _ _ _
   | exact slices_Contains_int_int.mono _ _ _
   | exact spilelaw42_awake.mono _
   | exact LeO.none _
   | refine LeO.ite ?_ ?_
   | refine LeO.bind ?_ (fun _ => ?_)
def spilelaw42_SenderNodes.T12 : Bool × List (List Nat × List Nat) := (true, [([], []), ([0], [0]), ([], []), ([1, 2, 1], [1, 2]), ([3], [3]), ([4], [4]), ([4], [4]), ([5, 3, 0, 1, 2, 3, 4, 5], [5]), ([6, 7, 0, 1, 2, 3, 4, 5, 6, 7], [6])])
def spilelaw42_SenderNodes.B12 : List Nat := [0, 1, 0, 7, 15, 31, 31, 63, 255]
theorem spilelaw42_SenderNodes.tab12 : rtab .any (opsOf Try.f9 12) = spilelaw42_SenderNodes.T12 := by kernel_rfl
theorem spilelaw42_SenderNodes.bits12 : waitsOk spilelaw42_SenderNodes.T12.2 spilelaw42_SenderNodes.B12 = true := by kernel_rfl
def spilelaw42_SenderNodes.T13 : Bool × List (List Nat × List Nat) := (true, [([], []), ([0], [0]), ([1], [1]), ([2], [2]), ([3, 2], [2, 3]), ([4, 2], [2, 4]), ([2, 5], [2, 5]), ([6, 2], [6]), ([7], [7]), ([8, 7], [7, 8]), ([9, 7, 7], [7, 9]), ([10], [10]), ([10], [10]), ([12, 10], [10, 12]), ([11, 13, 10], [10, 11, 13]), ([14, 10], [10, 14]), ([10], [10]), ([15, 16, 10], [10, 15, 16]), ([10, 17, 7], [7, 10, 17]), ([7, 18], [7, 18]), ([19, 10], [19]), ([20], [20]), ([20], [20]), ([21, 22, 20, 20], [20, 21, 22]), ([20, 23], [20, 23])])
def spilelaw42_SenderNodes.B13 : List Nat := [0, 1, 3, 7, 15, 31, 63, 127, 255, 511, 1023, 2047, 2047, 6143, 16383, 32767, 2047, 131071, 262143, 524287, 1048575, 2097151, 2097151, 8388607, 16777215]
theorem spilelaw42_SenderNodes.tab13 : rtab .any (opsOf Try.f9 13) = spilelaw42_SenderNodes.T13 := by kernel_rfl
theorem spilelaw42_SenderNodes.bits13 : waitsOk spilelaw42_SenderNodes.T13.2 spilelaw42_SenderNodes.B13 = true := by kernel_rfl
set_option maxHeartbeats 8000000 in
set_option maxRecDepth 100000 in
theorem spilelaw42_SenderNodes.calls (k : Nat) (a0_0 : Int) (a0_1 : Int) (A0_2 : Option Addr) (c0_2 : Nat) (l0_2 : List (S33)) (a1 : Int) (r : Bool) (w : World) (hr0_2 : Kd.C k33 w A0_2 l0_2.length l0_2) (hc0_2 : l0_2.length ≤ c0_2) (h : spilelaw42_SenderNodes.f k a0_0 a0_1 l0_2 a1 = some r) :
  Calls Try.prog 9 #[.agg #[.int .i64 a0_0, .int .i64 a0_1, .slice A0_2 l0_2.length c0_2], .int .i64 a1] w fun e w' => e = .returned (.bool r) ∧ Below w.heap.size w w' := by
 have hu24 := Try.underlying24
 have HR0_2 := Aside0.mk hr0_2
 have HC0_2 := Aside0.mk hc0_2
 clear hr0_2 hc0_2
 have HB := Aside0.mk (Below.refl w.heap.size w)
 have H : ((spilelaw42_awake.f k).bind fun t621 => (if t621 = true then (if (l0_2.length : Int) > 14 then (some true) else ((spileref42_Copy.f a0_0 a0_1 l0_2).bind fun bt622 => ((sender_Waits.f k bt622.1 bt622.2.1 bt622.2.2).bind fun bt627 => (if bt627.2 = 0 then (spilelaw42_SenderNodes.l0 k a1 bt627.1 0 bt627.1 (bt627.1.length : Int) 0 a0_0 a0_1 l0_2) else (some ((bt627.1.length : Int) == 0)))))) else (none))) = some r := h
 clear h
 replace H := Option.bind_eq_some_iff.mp H
 obtain ⟨t621, A30, H⟩ := H
 replace H : (if t621 = true then (if (l0_2.length : Int) > 14 then (some true) else ((spileref42_Copy.f a0_0 a0_1 l0_2).bind fun bt622 => ((sender_Waits.f k bt622.1 bt622.2.1 bt622.2.2).bind fun bt627 => (if bt627.2 = 0 then (spilelaw42_SenderNodes.l0 k a1 bt627.1 0 bt627.1 (bt627.1.length : Int) 0 a0_0 a0_1 l0_2) else (some ((bt627.1.length : Int) == 0)))))) else (none)) = some r := H
 have A3 := Aside0.mk A30
 clear A30
 by_cases c4 : t621 = true
 ·subst c4
  have H1 : (if (l0_2.length : Int) > 14 then (some true) else ((spileref42_Copy.f a0_0 a0_1 l0_2).bind fun bt622 => ((sender_Waits.f k bt622.1 bt622.2.1 bt622.2.2).bind fun bt627 => (if bt627.2 = 0 then (spilelaw42_SenderNodes.l0 k a1 bt627.1 0 bt627.1 (bt627.1.length : Int) 0 a0_0 a0_1 l0_2) else (some ((bt627.1.length : Int) == 0)))))) = some r := by rw [if_pos rfl] at H; exact H
  clear H
  have H := H1
  clear H1
  by_cases c5 : (l0_2.length : Int) > 14
  ·rw [if_pos c5] at H
   have c5b0 : decide (14 < (l0_2.length : Int)) = true := decide_eq_true c5
   have c5b1 : decide (14 < l0_2.length) = true := decide_eq_true (by omega)
   clear c5
   obtain rfl := Option.some.inj H
   go_enter Try.func9, Try.ntmps9
   go_wp2_with (first | ((with_reducible refine gqD (N := 2) rfl ?_); (try (refine gate_guard (by rfl) ?_; dsimp only)); refine GS.bx (N := 2) (cs := #[.int .i64 a0_0, .int .i64 a0_1, .slice A0_2 l0_2.length c0_2]) (t := 24) ?_; intro gb620 hg w6 hbox hb; have n0_ := Aside0.mk (lqT (GS.lB HB.out) hb); have n1_ := Aside0.mk (hbox); have n2_ := Aside0.mk ((by rw [hg]; exact (lqZ (GS.lB HB.out)) : w.heap.size ≤ gb620)); have n3_ := Aside0.mk ((by rw [hg]; exact (lqZ (GS.lB HB.out)) : w.heap.size ≤ gb620)); clear HB; have HB := n0_; have BK620 := n1_; have GW620 := n2_; have GE620 := n3_; clear n0_ n1_ n2_ n3_; clear hb hbox hg) | ((with_reducible refine gqC (f := 10) rfl ?_); refine GS.gL (some 14) Try.func10 #[] ?_; (with_reducible refine (spilelaw42_awake.calls k  true _ A3.out).mono ?_); rintro e w7 ⟨rfl, hb⟩; refine ⟨_, rfl, ?_⟩; have n0_ := Aside0.mk (bqB (GS.bqX BK620.out) hb); have n1_ := Aside0.mk (lqT (GS.lB HB.out) hb); clear BK620; clear HB; have BK620 := n0_; have HB := n1_; clear n0_ n1_; (try clear hb); (try clear hb2); (try clear hk); (try clear hi); obtain ⟨hcz8_0, hcz8_1, hcz8_2, hfz8_0, hfz8_1, hfz8_2⟩ := GS.c3 BK620.out))
   go_ret
   exact ⟨by first | rfl | (simp [errW_none, errW_some] <;> rfl) | (simp [*, errW_none, errW_some] <;> rfl), GS.lB HB.out⟩
  ·rw [if_neg c5] at H
   have c5b0 : decide (14 < (l0_2.length : Int)) = false := decide_eq_false c5
   have c5b1 : decide (14 < l0_2.length) = false := decide_eq_false (by omega)
   clear c5
   replace H := Option.bind_eq_some_iff.mp H
   obtain ⟨⟨t622, t623, t624⟩, A90, H⟩ := H
   replace H : ((sender_Waits.f k t622 t623 t624).bind fun bt627 => (if bt627.2 = 0 then (spilelaw42_SenderNodes.l0 k a1 bt627.1 0 bt627.1 (bt627.1.length : Int) 0 a0_0 a0_1 l0_2) else (some ((bt627.1.length : Int) == 0)))) = some r := H
   have A9 := Aside0.mk A90
   clear A90
   replace H := Option.bind_eq_some_iff.mp H
   obtain ⟨⟨t627, t630⟩, A100, H⟩ := H
   replace H : (if t630 = 0 then (spilelaw42_SenderNodes.l0 k a1 t627 0 t627 (t627.length : Int) 0 a0_0 a0_1 l0_2) else (some ((t627.length : Int) == 0))) = some r := H
   have A10 := Aside0.mk A100
   clear A100
   by_cases c11 : t630 = 0
   ·rw [if_pos c11] at H
    have c11b0 : (t630 == 0) = true := beq_iff_eq.mpr c11
    try simp only [beq_self_eq_true, Bool.not_true, Bool.false_or, Bool.true_and] at c11b0
    have c11b1 : (t630 != 0) = false := bne_eq_false_iff_eq.mpr c11
    clear c11
    have H' := Aside0.mk H
    clear H
    go_enter Try.func9, Try.ntmps9
    go_wp2_with (first | ((with_reducible refine gqD (N := 2) rfl ?_); (try (refine gate_guard (by rfl) ?_; dsimp only)); refine GS.bx (N := 2) (cs := #[.int .i64 a0_0, .int .i64 a0_1, .slice A0_2 l0_2.length c0_2]) (t := 24) ?_; intro gb620 hg w12 hbox hb; have n0_ := Aside0.mk (lqT (GS.lB HB.out) hb); have n1_ := Aside0.mk (hbox); have n2_ := Aside0.mk ((by rw [hg]; exact (lqZ (GS.lB HB.out)) : w.heap.size ≤ gb620)); have n3_ := Aside0.mk ((by rw [hg]; exact (lqZ (GS.lB HB.out)) : w.heap.size ≤ gb620)); clear HB; have HB := n0_; have BK620 := n1_; have GW620 := n2_; have GE620 := n3_; clear n0_ n1_ n2_ n3_; clear hb hbox hg) | ((with_reducible refine gqC (f := 10) rfl ?_); refine GS.gL (some 14) Try.func10 #[] ?_; (with_reducible refine (spilelaw42_awake.calls k  true _ A3.out).mono ?_); rintro e w13 ⟨rfl, hb⟩; refine ⟨_, rfl, ?_⟩; have n0_ := Aside0.mk (bqB (GS.bqX BK620.out) hb); have n1_ := Aside0.mk (lqT (GS.lB HB.out) hb); clear BK620; clear HB; have BK620 := n0_; have HB := n1_; clear n0_ n1_; (try clear hb); (try clear hb2); (try clear hk); (try clear hi); obtain ⟨hcz14_0, hcz14_1, hcz14_2, hfz14_0, hfz14_1, hfz14_2⟩ := GS.c3 BK620.out) | ((with_reducible refine gqC (f := 15) rfl ?_); refine GS.gL (some 22) Try.func15 #[.agg #[.int .i64 a0_0, .int .i64 a0_1, .slice A0_2 l0_2.length c0_2]] ?_; (with_reducible refine (spileref42_Copy.calls a0_0 a0_1 _ _ l0_2 t622 t623 t624 _ ?side1 ?side2 A9.out).mono ?_); (case side1 => exact GS.rC (Kd.C_below HR0_2.out HB.out)); (case side2 => exact HC0_2.out); rintro e w15 ⟨v625, rfl, ho0, hb⟩; refine ⟨_, rfl, ?_⟩; have n0_ := Aside0.mk (Kd.R_lower ho0 (lqZ (GS.lB HB.out))); have n1_ := Aside0.mk (bqB (GS.bqX BK620.out) hb); have n2_ := Aside0.mk (lqT (GS.lB HB.out) hb); clear BK620; clear HB; have HO626 := n0_; have BK620 := n1_; have HB := n2_; clear n0_ n1_ n2_; (try clear hb); (try clear hb2); (try clear hk); (try clear hi); (try clear ho0); obtain ⟨Ao16, co16, eo16⟩ := Kd.R_slice HO626.out; subst eo16) | ((with_reducible refine gqC (f := 32) rfl ?_); refine GS.gL (some 23) Try.func32 #[.agg #[.int .i64 t622, .int .i64 t623, .slice Ao16 t624.length co16]] ?_; (with_reducible refine (sender_Waits.calls k t622 t623 _ _ t624 t627 t630 _ ?side1 ?side2 A10.out).mono ?_); (case side1 => repeat (first | exact (Kd.R_reads' HO626.out).2.2 | (with_reducible refine Kd.C_alloc ?_ _) | (with_reducible refine Kd.C_drewN ?_ _) | (with_reducible refine Kd.C_drew ?_))); (case side2 => exact (Kd.R_reads' HO626.out).2.1); rintro e w17 ⟨v628, rfl, ho0, hb⟩; refine ⟨_, rfl, ?_⟩; have n0_ := Aside0.mk (Kd.R_below (GS.rR HO626.out) hb); have n1_ := Aside0.mk (Kd.R_lower ho0 (lqZ (GS.lB HB.out))); have n2_ := Aside0.mk (bqB (GS.bqX BK620.out) hb); have n3_ := Aside0.mk (lqT (GS.lB HB.out) hb); clear HO626; clear BK620; clear HB; have HO626 := n0_; have HO629 := n1_; have BK620 := n2_; have HB := n3_; clear n0_ n1_ n2_ n3_; (try clear hb); (try clear hb2); (try clear hk); (try clear hi); (try clear ho0); obtain ⟨Ao18, co18, eo18⟩ := Kd.R_slice HO629.out; subst eo18))
    go_loopg [7, 33] k (fun kq v7 v33 w' => ∃ (x7_1 : Int) (x33_1 : Int), v7 = .int .i64 x7_1 ∧ v33 = .int .i64 x33_1 ∧ Aside0 (spilelaw42_SenderNodes.l0 kq a1 t627 x7_1 t627 (t627.length : Int) x33_1 a0_0 a0_1 l0_2 = some r) ∧ Aside0 (kq ≤ k) ∧ Aside0 (Kd.R (Kd.int .i64) 3 w' w.heap.size (fun _ => True) (.slice Ao18 t627.length co18) t627) ∧ Aside0 (Kd.R (Kd.int .i64) 3 w' w.heap.size (fun _ => True) (.slice Ao18 t627.length co18) t627) ∧ Aside0 (w'.heap[gb620]? = some (.cells #[.int .i64 a0_0, .int .i64 a0_1, (.slice A0_2 l0_2.length c0_2)] 24 (0, 0))) ∧ Aside0 (Below w.heap.size w w'))
    case atStart => exact ⟨(0), (0), (by first | rfl | (simp; done) | (simp [*]; done)), (by first | rfl | (simp; done) | (simp [*]; done)), H', ⟨Nat.le_refl _⟩, ⟨by (with_reducible repeat (first | apply Kd.R_alloc | apply Kd.R_drewN | apply Kd.R_drew)); exact HO629.out⟩, ⟨by (with_reducible repeat (first | apply Kd.R_alloc | apply Kd.R_drewN | apply Kd.R_drew)); exact HO629.out⟩, ⟨GS.bqX BK620.out⟩, ⟨GS.lB HB.out⟩⟩
    case round =>
     clear H'
     try clear c1
     try clear p2
     try clear c3
     try clear c4
     try clear c5
     try clear c5b0
     try clear c5b1
     try clear c9
     try clear c10
     try clear c11
     try clear c11b0
     try clear c11b1
     try clear c15
     try clear hcz14_0
     try clear hcz14_1
     try clear hcz14_2
     try clear hcz8_0
     try clear hcz8_1
     try clear hcz8_2
     try clear hfz14_0
     try clear hfz14_1
     try clear hfz14_2
     try clear hfz8_0
     try clear hfz8_1
     try clear hfz8_2
     obtain ⟨x7_1, x33_1, rfl, rfl, HA, HK1, HO_5, HO_31, BK620, HB⟩ := hrel
     cases gk with
     | zero => exact absurd HA.out (by simp [spilelaw42_SenderNodes.l0])
     | succ k1 =>
      have H := HA.out
      clear HA
      simp only [spilelaw42_SenderNodes.l0] at H
      by_cases c19 : x33_1 < (t627.length : Int)
      ·rw [if_pos c19] at H
       have c19b0 : decide (x33_1 < (t627.length : Int)) = true := decide_eq_true c19
       clear c19
       by_cases c20 : 0 ≤ x33_1
       ·rw [if_pos c20] at H
        have c20b0 : decide (0 ≤ x33_1) = true := decide_eq_true c20
        clear c20
        by_cases c21 : x33_1 < (t627.length : Int)
        ·rw [if_pos c21] at H
         have c21b0 : decide (x33_1 < (t627.length : Int)) = true := decide_eq_true c21
         clear c21
         replace H := Option.bind_eq_some_iff.mp H
         obtain ⟨⟨t633, t634, t635⟩, A220, H⟩ := H
         replace H : ((sender_Again.f k1 t633 t634 t635 (rd t627 x33_1)).bind fun bt638 => (if bt638.2 = 0 then (if (bt638.1.length : Int) = 0 then (none) else (if x33_1 > 0 then (if 0 ≤ (wrap64 (x33_1 - 1)) then (if (wrap64 (x33_1 - 1)) < (t627.length : Int) then (if (rd t627 (wrap64 (x33_1 - 1))) ≥ (rd t627 x33_1) then (none) else ((cont36.f k1 bt638.1 (rd t627 x33_1) a0_0 a0_1 l0_2).bind fun t643 => (spilelaw42_SenderNodes.j1 k1 a1 t627 x7_1 bt638.1 t627 (t627.length : Int) x33_1 t643 a0_0 a0_1 l0_2))) else (none)) else (none)) else ((cont36.f k1 bt638.1 (rd t627 x33_1) a0_0 a0_1 l0_2).bind fun t644 => (spilelaw42_SenderNodes.j1 k1 a1 t627 x7_1 bt638.1 t627 (t627.length : Int) x33_1 t644 a0_0 a0_1 l0_2)))) else (none))) = some r := H
         have A22 := Aside0.mk A220
         clear A220
         replace H := Option.bind_eq_some_iff.mp H
         obtain ⟨⟨t638, t641⟩, A230, H⟩ := H
         replace H : (if t641 = 0 then (if (t638.length : Int) = 0 then (none) else (if x33_1 > 0 then (if 0 ≤ (wrap64 (x33_1 - 1)) then (if (wrap64 (x33_1 - 1)) < (t627.length : Int) then (if (rd t627 (wrap64 (x33_1 - 1))) ≥ (rd t627 x33_1) then (none) else ((cont36.f k1 t638 (rd t627 x33_1) a0_0 a0_1 l0_2).bind fun t643 => (spilelaw42_SenderNodes.j1 k1 a1 t627 x7_1 t638 t627 (t627.length : Int) x33_1 t643 a0_0 a0_1 l0_2))) else (none)) else (none)) else ((cont36.f k1 t638 (rd t627 x33_1) a0_0 a0_1 l0_2).bind fun t644 => (spilelaw42_SenderNodes.j1 k1 a1 t627 x7_1 t638 t627 (t627.length : Int) x33_1 t644 a0_0 a0_1 l0_2)))) else (none)) = some r := H
         have A23 := Aside0.mk A230
         clear A230
         have HC24 := Aside0.mk H
         clear H
         have p631 : 0 ≤ (x33_1 : Int) := of_decide_eq_true (by first | (with_reducible assumption) | assumption)
         have q631 : x33_1 < (t627.length : Int) := of_decide_eq_true (by first | (with_reducible assumption) | assumption)
         obtain ⟨ad631, e631, hx631_0⟩ := Kd.at_int (Kd.R_reads' HO_31.out).2.2 x33_1 p631 q631
         cases e631
         replace p631 := eq_true p631
         replace q631 := eq_true q631
         try go_wp2_with (first | ((with_reducible refine gqD (N := 9) rfl ?_); (try (refine gate_guard (by rfl) ?_; dsimp only)); refine GS.bx (N := 9) (cs := #[.int .i64 0]) (t := 3) ?_; intro gb632 hg w25 hbox hb; have n0_ := Aside0.mk (Kd.R_below (Kd.R_elderB (GS.rR HO_5.out) gb632 (Nat.le_of_eq hg.symm)) hb); have n1_ := Aside0.mk (Kd.R_below (Kd.R_elderB (GS.rR HO_31.out) gb632 (Nat.le_of_eq hg.symm)) hb); have n2_ := Aside0.mk (bqB (GS.bqX BK620.out) hb); have n3_ := Aside0.mk (lqT (GS.lB HB.out) hb); have n4_ := Aside0.mk (hbox); have n5_ := Aside0.mk ((by rw [hg]; exact (lqZ (GS.lB HB.out)) : w.heap.size ≤ gb632)); have n6_ := Aside0.mk ((by rw [hg]; exact (lqZ (GS.lB HB.out)) : w.heap.size ≤ gb632)); have n7_ := Aside0.mk ((by rw [hg]; exact Nat.ne_of_lt (blk_lt (GS.bqX BK620.out)) : gb620 ≠ gb632)); have n8_ := Aside0.mk ((by rw [hg]; exact Nat.ne_of_gt (blk_lt (GS.bqX BK620.out)) : gb632 ≠ gb620)); clear HO_5; clear HO_31; clear BK620; clear HB; have HO_5 := n0_; have HO_31 := n1_; have BK620 := n2_; have HB := n3_; have BK632 := n4_; have GW632 := n5_; have GE632 := n6_; have NB620_632 := n7_; have NB632_620 := n8_; clear n0_ n1_ n2_ n3_ n4_ n5_ n6_ n7_ n8_; clear hb hbox hg; have hnb26 := NB632_620.out; have hnc26 := NB620_632.out; obtain ⟨hcz27_0, hfz27_0⟩ := GS.c1 BK632.out))
         have n0_ : Aside0 (Kd.R (Kd.int .i64) 3 (w25.setCell ⟨gb632, 0, none⟩ (.int .i64 (rd t627 x33_1))) w.heap.size (fun _ => True) (.slice (some ad631) t627.length co18) t627) := ⟨by (with_reducible repeat (first | apply Kd.R_alloc | apply Kd.R_drewN | apply Kd.R_drew)); exact Kd.R_mono (Kd.R_far (p := ⟨gb632, 0, none⟩) HO_5.out (fun _ hk => hk.2) (.int .i64 (rd t627 x33_1))) (fun _ hk => trivial)⟩
         have n1_ : Aside0 (Kd.R (Kd.int .i64) 3 (w25.setCell ⟨gb632, 0, none⟩ (.int .i64 (rd t627 x33_1))) w.heap.size (fun _ => True) (.slice (some ad631) t627.length co18) t627) := ⟨by (with_reducible repeat (first | apply Kd.R_alloc | apply Kd.R_drewN | apply Kd.R_drew)); exact Kd.R_mono (Kd.R_far (p := ⟨gb632, 0, none⟩) HO_31.out (fun _ hk => hk.2) (.int .i64 (rd t627 x33_1))) (fun _ hk => trivial)⟩
         have n2_ : Aside0 ((w25.setCell ⟨gb632, 0, none⟩ (.int .i64 (rd t627 x33_1))).heap[gb620]? = some (.cells #[.int .i64 a0_0, .int .i64 a0_1, .slice A0_2 l0_2.length c0_2] 24 (0, 0))) := ⟨GS.bqX BK620.out⟩
         have n3_ : Aside0 ((w25.setCell ⟨gb632, 0, none⟩ (.int .i64 (rd t627 x33_1))).heap[gb632]? = some (.cells #[.int .i64 (rd t627 x33_1)] 3 (0, 0))) := ⟨blk_put BK632.out 0 _ rfl⟩
         have n4_ : Aside0 (Below w.heap.size w (w25.setCell ⟨gb632, 0, none⟩ (.int .i64 (rd t627 x33_1)))) := ⟨GS.lB HB.out⟩
         (try clear HO_5)
         (try clear HO_31)
         (try clear BK620)
         (try clear BK632)
         (try clear HB)
         generalize (w25.setCell ⟨gb632, 0, none⟩ (.int .i64 (rd t627 x33_1))) = w28 at n0_ n1_ n2_ n3_ n4_ ⊢
         have HO_5 := n0_
         have HO_31 := n1_
         have BK620 := n2_
         have BK632 := n3_
         have HB := n4_
         clear n0_ n1_ n2_ n3_ n4_
         have n0_ := Aside0.mk (Kd.R_drew HO_5.out)
         have n1_ := Aside0.mk (Kd.R_drew HO_31.out)
         have n2_ := Aside0.mk (bqD BK620.out)
         have n3_ := Aside0.mk (bqD BK632.out)
         have n4_ := Aside0.mk (lqD HB.out)
         clear HO_5
         clear HO_31
         clear BK620
         clear BK632
         clear HB
         have HO_5 := n0_
         have HO_31 := n1_
         have BK620 := n2_
         have BK632 := n3_
         have HB := n4_
         clear n0_ n1_ n2_ n3_ n4_
         refine start_ (n := 9) (S := fun w' => w'.cell? ⟨gb620, 0, none⟩ = some (.int .i64 a0_0) ∧ w'.cell? ⟨gb620, 1, none⟩ = some (.int .i64 a0_1) ∧ w'.cell? ⟨gb620, 2, none⟩ = some (.slice A0_2 l0_2.length c0_2) ∧ w'.cell? ⟨gb632, 0, none⟩ = some (.int .i64 (rd t627 x33_1))) (ds := []) #[false, false, false, false, false, false, false, false, false] (by kernel_rfl) rfl rfl ⟨(bqC BK620.out 0).trans rfl, (bqC BK620.out 1).trans rfl, (bqC BK620.out 2).trans rfl, (bqC BK632.out 0).trans rfl⟩ (fun hHeld => ?_); refine with_tabW spilelaw42_SenderNodes.tab12 spilelaw42_SenderNodes.bits12 (fun HT_ HW_ => ?_)
         generalize w28.drew = w29 at HO_5 HO_31 BK620 BK632 HB hHeld ⊢
         refine take_ (i := 0) (N := some 39) (v := ?_) (a' := ?_) #[true, false, false, false, false, false, false, false, false] rfl rfl (take_ofW HT_.out HW_.out (by kernel_rfl)) (fun _ _ _ h => h) (Or.inl ⟨by rfl, ?_⟩) hHeld ?_ ?_
         rotate_left
         ·rintro w' ⟨s0, s1, s2, s3⟩
          go_simp
          with_reducible rfl
         rotate_left
         ·simp only [Act.put, List.setIfInBounds_toArray, List.set_cons_zero, List.set_cons_succ, i64_w, i32_w]
          rfl
         refine take_ (i := 2) (N := some 41) (v := ?_) (a' := ?_) #[true, false, true, false, false, false, false, false, false] rfl rfl (take_ofW HT_.out HW_.out (by kernel_rfl)) (fun _ _ _ h => h) (Or.inl ⟨by rfl, ?_⟩) hHeld ?_ ?_
         rotate_left
         ·rintro w' ⟨s0, s1, s2, s3⟩
          go_simp
          with_reducible rfl
         rotate_left
         ·simp only [Act.put, List.setIfInBounds_toArray, List.set_cons_zero, List.set_cons_succ, i64_w, i32_w]
          rfl
         refine one_ (i := 1) (N := some 40) #[true, true, true, false, false, false, false, false, false] rfl rfl (one_of HT_.out (by kernel_rfl)) (by decide) (fun K hK => ?_)
         refine goes_ Try.func15 (by kernel_rfl) rfl #[.agg #[.int .i64 a0_0, .int .i64 a0_1, .slice A0_2 l0_2.length c0_2]] (by rfl) rfl rfl (by (try simp only [List.map_toArray, List.map_cons, List.map_nil]); first | done | rfl | (simp only [List.length_drop, List.length_take]; rfl)) ?_
         with_reducible refine (spileref42_Copy.calls a0_0 a0_1 _ _ l0_2 t633 t634 t635 _ ?side1 ?side2 A22.out).mono ?_
         (case side1 => exact GS.rC (Kd.C_below HR0_2.out HB.out))
         (case side2 => exact HC0_2.out)
         rintro e w30 ⟨v636, rfl, ho0, hb⟩
         refine ⟨_, rfl, ?_⟩
         have n0_ := Aside0.mk (Kd.R_below (GS.rR HO_5.out) hb)
         have n1_ := Aside0.mk (Kd.R_below (GS.rR HO_31.out) hb)
         have n2_ := Aside0.mk (Kd.R_lower ho0 (lqZ (GS.lB HB.out)))
         have n3_ := Aside0.mk (bqB (GS.bqX BK620.out) hb)
         have n4_ := Aside0.mk (bqB (GS.bqX BK632.out) hb)
         have n5_ := Aside0.mk (lqT (GS.lB HB.out) hb)
         clear HO_5
         clear HO_31
         clear BK620
         clear BK632
         clear HB
         have HO_5 := n0_
         have HO_31 := n1_
         have HO637 := n2_
         have BK620 := n3_
         have BK632 := n4_
         have HB := n5_
         clear n0_ n1_ n2_ n3_ n4_ n5_
         (try clear hb)
         (try clear hb2)
         (try clear hk)
         (try clear hi)
         (try clear ho0)
         obtain ⟨Ao31, co31, eo31⟩ := Kd.R_slice HO637.out
         (first | subst eo31 | (injection eo31 with f1_ f2_ f3_; have f4_ := f1_.symm; have f5_ := f3_.symm; clear f1_ f2_ f3_; subst f4_; subst f5_))
         refine hK.out _ _ ⟨(bqC BK620.out 0).trans rfl, (bqC BK620.out 1).trans rfl, (bqC BK620.out 2).trans rfl, (bqC BK632.out 0).trans rfl⟩ (fun hHeld => ?_)
         clear hK K
         refine norm_ (a' := ?_) ?_ ?_
         rotate_left
         ·show Act.put _ (some 40) _ = _
          simp only [Act.put, List.setIfInBounds_toArray, List.set_cons_zero, List.set_cons_succ, i64_w, i32_w]
          rfl
         refine one_ (i := 3) (N := some 42) #[true, true, true, true, false, false, false, false, false] rfl rfl (one_of HT_.out (by kernel_rfl)) (by decide) (fun K hK => ?_)
         refine goes_ Try.func30 (by kernel_rfl) rfl #[.agg #[.int .i64 t633, .int .i64 t634, .slice Ao31 t635.length co31], .int .i64 (rd t627 x33_1)] (by rfl) rfl rfl (by (try simp only [List.map_toArray, List.map_cons, List.map_nil]); first | done | rfl | (simp only [List.length_drop, List.length_take]; rfl)) ?_
         with_reducible refine (sender_Again.calls k1 t633 t634 _ _ t635 (rd t627 x33_1) t638 t641 _ ?side1 ?side2 A23.out).mono ?_
         (case side1 => repeat (first | exact (Kd.R_reads' HO637.out).2.2 | (with_reducible refine Kd.C_alloc ?_ _) | (with_reducible refine Kd.C_drewN ?_ _) | (with_reducible refine Kd.C_drew ?_)))
         (case side2 => exact (Kd.R_reads' HO637.out).2.1)
         rintro e w32 ⟨v639, rfl, ho0, hb⟩
         refine ⟨_, rfl, ?_⟩
         have n0_ := Aside0.mk (Kd.R_below (GS.rR HO_5.out) hb)
         have n1_ := Aside0.mk (Kd.R_below (GS.rR HO_31.out) hb)
         have n2_ := Aside0.mk (Kd.R_elder' (GS.rR HO637.out) (Kd.R_base ho0) hb)
         have n3_ := Aside0.mk (Kd.R_lower (Kd.R_new' ho0 (Kd.R_lt (GS.rR HO637.out))) (lqZ (GS.lB HB.out)))
         have n4_ := Aside0.mk (bqB (GS.bqX BK620.out) hb)
         have n5_ := Aside0.mk (bqB (GS.bqX BK632.out) hb)
         have n6_ := Aside0.mk (lqT (GS.lB HB.out) hb)
         clear HO_5
         clear HO_31
         clear HO637
         clear BK620
         clear BK632
         clear HB
         have HO_5 := n0_
         have HO_31 := n1_
         have HO637 := n2_
         have HO640 := n3_
         have BK620 := n4_
         have BK632 := n5_
         have HB := n6_
         clear n0_ n1_ n2_ n3_ n4_ n5_ n6_
         (try clear hb)
         (try clear hb2)
         (try clear hk)
         (try clear hi)
         (try clear ho0)
         refine hK.out _ _ ⟨(bqC BK620.out 0).trans rfl, (bqC BK620.out 1).trans rfl, (bqC BK620.out 2).trans rfl, (bqC BK632.out 0).trans rfl⟩ (fun hHeld => ?_)
         clear hK K
         refine norm_ (a' := ?_) ?_ ?_
         rotate_left
         ·show Act.put _ (some 42) _ = _
          simp only [Act.put, List.setIfInBounds_toArray, List.set_cons_zero, List.set_cons_succ, i64_w, i32_w]
          rfl
         refine pure_ (i := 4) (N := some 38) (v := ?_) (a' := ?_) #[true, true, true, true, true, false, false, false, false] rfl rfl (any_of HT_.out (by kernel_rfl)) (fun _ _ _ h => h) (Or.inl ⟨by rfl, ?_⟩) ?_ ?_
         rotate_left
         ·intro w'
          go_simp
          with_reducible rfl
         rotate_left
         ·simp only [Act.put, List.setIfInBounds_toArray, List.set_cons_zero, List.set_cons_succ, i64_w, i32_w]
          rfl
         refine pure_ (i := 5) (N := some 43) (v := ?_) (a' := ?_) #[true, true, true, true, true, true, false, false, false] rfl rfl (any_of HT_.out (by kernel_rfl)) (fun _ _ _ h => h) (Or.inl ⟨by rfl, ?_⟩) ?_ ?_
         rotate_left
         ·intro w'
          go_simp
          with_reducible rfl
         rotate_left
         ·simp only [Act.put, List.setIfInBounds_toArray, List.set_cons_zero, List.set_cons_succ, i64_w, i32_w]
          rfl
         refine pure_ (i := 6) (N := some 44) (v := ?_) (a' := ?_) #[true, true, true, true, true, true, true, false, false] rfl rfl (any_of HT_.out (by kernel_rfl)) (fun _ _ _ h => h) (Or.inl ⟨by rfl, ?_⟩) ?_ ?_
         rotate_left
         ·intro w'
          go_simp
          with_reducible rfl
         rotate_left
         ·simp only [Act.put, List.setIfInBounds_toArray, List.set_cons_zero, List.set_cons_succ, i64_w, i32_w]
          rfl
         refine pure_ (i := 7) (N := some 10) (v := ?_) (a' := ?_) #[true, true, true, true, true, true, true, true, false] rfl rfl (any_of HT_.out (by kernel_rfl)) (fun _ _ _ h => h) (Or.inl ⟨by rfl, ?_⟩) ?_ ?_
         rotate_left
         ·intro w'
          go_simp
          with_reducible rfl
         rotate_left
         ·simp only [Act.put, List.setIfInBounds_toArray, List.set_cons_zero, List.set_cons_succ, i64_w, i32_w]
          rfl
         refine pure_ (i := 8) (N := some 11) (v := ?_) (a' := ?_) #[true, true, true, true, true, true, true, true, true] rfl rfl (any_of HT_.out (by kernel_rfl)) (fun _ _ _ h => h) (Or.inl ⟨by rfl, ?_⟩) ?_ ?_
         rotate_left
         ·intro w'
          go_simp
          with_reducible rfl
         rotate_left
         ·simp only [Act.put, List.setIfInBounds_toArray, List.set_cons_zero, List.set_cons_succ, i64_w, i32_w]
          rfl
         refine done_ (done_of HT_.out (by kernel_rfl)) ?_
         go_upto_region 13 with (fail)
         go_cut [69] (fun v69 wc => ∃ (kq : Nat) (x69_23 : Bool), v69 = .bool x69_23 ∧ Aside0 (spilelaw42_SenderNodes.j1 kq a1 t627 x7_1 t638 t627 (t627.length : Int) x33_1 x69_23 a0_0 a0_1 l0_2 = some r) ∧ Aside0 (kq ≤ k1) ∧ Aside0 (Kd.R (Kd.int .i64) 3 wc w.heap.size (fun _ => True) (.slice (some ad631) t627.length co18) t627) ∧ Aside0 (Kd.R k33 33 wc w.heap.size (fun _ => True) v639 t638) ∧ Aside0 (Kd.R (Kd.int .i64) 3 wc w.heap.size (fun _ => True) (.slice (some ad631) t627.length co18) t627) ∧ Aside0 (wc.heap[gb620]? = some (.cells #[.int .i64 a0_0, .int .i64 a0_1, (.slice A0_2 l0_2.length c0_2)] 24 (0, 0))) ∧ Aside0 (wc.heap[gb632]? = some (.cells #[.int .i64 (rd t627 x33_1)] 3 (0, 0))) ∧ Aside0 (Below w.heap.size w wc))
         case first =>
          have H := HC24.out
          clear HC24
          by_cases c33 : t641 = 0
          ·rw [if_pos c33] at H
           have c33b0 : (t641 == 0) = true := beq_iff_eq.mpr c33
           try simp only [beq_self_eq_true, Bool.not_true, Bool.false_or, Bool.true_and] at c33b0
           have c33b1 : (t641 != 0) = false := bne_eq_false_iff_eq.mpr c33
           clear c33
           (first | rw [c33b0] | (simp only [i64_w, i32_w]; rw [c33b0]) | skip)
           by_cases c34 : (t638.length : Int) = 0
           ·rw [if_pos c34] at H
            exact absurd H (by simp)
           ·rw [if_neg c34] at H
            have c34b0 : ((t638.length : Int) == 0) = false := beq_eq_false_iff_ne.mpr c34
            try simp only [beq_self_eq_true, Bool.not_true, Bool.false_or, Bool.true_and] at c34b0
            have c34b1 : ((t638.length : Int) != 0) = true := bne_iff_ne.mpr c34
            have c34b2 : ¬ (t638 = []) := fun h_ => c34 (by rw [h_]; rfl)
            by_cases c35 : x33_1 > 0
            ·rw [if_pos c35] at H
             have c35b0 : decide (0 < x33_1) = true := decide_eq_true c35
             clear c35
             obtain ⟨ji36, hji36⟩ : ∃ j_ : Int, (wrap64 (x33_1 - 1)) = j_ := ⟨_, rfl⟩
             replace H : (if 0 ≤ (ji36) then (if (ji36) < (t627.length : Int) then (if (rd t627 (ji36)) ≥ (rd t627 x33_1) then (none) else ((cont36.f k1 t638 (rd t627 x33_1) a0_0 a0_1 l0_2).bind fun t643 => (spilelaw42_SenderNodes.j1 k1 a1 t627 x7_1 t638 t627 (t627.length : Int) x33_1 t643 a0_0 a0_1 l0_2))) else (none)) else (none)) = some r := by first | (rw [hji36] at H; exact H) | (simp only [hji36] at H ⊢; exact H)
             have hji36w : (IntKind.i64.wrap (x33_1 - 1)) = ji36 := (i64_w _).trans hji36
             by_cases c37 : 0 ≤ (ji36)
             ·rw [if_pos c37] at H
              have c37b0 : decide (0 ≤ (ji36)) = true := decide_eq_true c37
              clear c37
              by_cases c38 : (ji36) < (t627.length : Int)
              ·rw [if_pos c38] at H
               have c38b0 : decide ((ji36) < (t627.length : Int)) = true := decide_eq_true c38
               clear c38
               by_cases c39 : (rd t627 (ji36)) ≥ (rd t627 x33_1)
               ·rw [if_pos c39] at H
                exact absurd H (by simp)
               ·rw [if_neg c39] at H
                have c39b0 : decide ((rd t627 x33_1) ≤ (rd t627 (ji36))) = false := decide_eq_false c39
                clear c39
                replace H := Option.bind_eq_some_iff.mp H
                obtain ⟨t643, A400, H⟩ := H
                replace H : (spilelaw42_SenderNodes.j1 k1 a1 t627 x7_1 t638 t627 (t627.length : Int) x33_1 t643 a0_0 a0_1 l0_2) = some r := H
                have A40 := Aside0.mk A400
                clear A400
                have H' := Aside0.mk H
                clear H
                try go_wp2
                have n0_ := Aside0.mk (Kd.R_drew HO_5.out)
                have n1_ := Aside0.mk (Kd.R_drew HO_31.out)
                have n2_ := Aside0.mk (Kd.R_drew HO637.out)
                have n3_ := Aside0.mk (Kd.R_drew HO640.out)
                have n4_ := Aside0.mk (bqD BK620.out)
                have n5_ := Aside0.mk (bqD BK632.out)
                have n6_ := Aside0.mk (lqD HB.out)
                clear HO_5
                clear HO_31
                clear HO637
                clear HO640
                clear BK620
                clear BK632
                clear HB
                have HO_5 := n0_
                have HO_31 := n1_
                have HO637 := n2_
                have HO640 := n3_
                have BK620 := n4_
                have BK632 := n5_
                have HB := n6_
                clear n0_ n1_ n2_ n3_ n4_ n5_ n6_
                obtain ⟨Ao42, co42, eo42⟩ := Kd.R_slice HO640.out
                (first | subst eo42 | (injection eo42 with f1_ f2_ f3_; have f4_ := f1_.symm; have f5_ := f3_.symm; clear f1_ f2_ f3_; subst f4_; subst f5_))
                have p642 : 0 ≤ ((ji36) : Int) := of_decide_eq_true (by first | (with_reducible assumption) | assumption)
                have q642 : (ji36) < (t627.length : Int) := of_decide_eq_true (by first | (with_reducible assumption) | assumption)
                obtain ⟨ad642, e642, hx642_0⟩ := Kd.at_int (Kd.R_reads' HO_5.out).2.2 (ji36) p642 q642
                obtain rfl : ad631 = ad642 := (by injection e642)
                replace p642 := eq_true p642
                replace q642 := eq_true q642
                refine start_ (n := 25) (S := fun w' => w'.cell? ⟨gb632, 0, none⟩ = some (.int .i64 (rd t627 x33_1)) ∧ w'.cell? ⟨gb620, 0, none⟩ = some (.int .i64 a0_0) ∧ w'.cell? ⟨gb620, 1, none⟩ = some (.int .i64 a0_1) ∧ w'.cell? ⟨gb620, 2, none⟩ = some (.slice A0_2 l0_2.length c0_2) ∧ w'.cell? (ad631.add ((ji36)).toNat) = some (.int .i64 (rd t627 (ji36)))) (ds := []) #[false, false, false, false, false, false, false, false, false, false, false, false, false, false, false, false, false, false, false, false, false, false, false, false, false] (by kernel_rfl) rfl rfl ⟨(bqC BK632.out 0).trans rfl, (bqC BK620.out 0).trans rfl, (bqC BK620.out 1).trans rfl, (bqC BK620.out 2).trans rfl, hx642_0⟩ (fun hHeld => ?_); refine with_tabW spilelaw42_SenderNodes.tab13 spilelaw42_SenderNodes.bits13 (fun HT_ HW_ => ?_)
                generalize w32.drew = w41 at HO_5 HO_31 HO637 HO640 BK620 BK632 HB hx642_0 hHeld ⊢
                refine pure_ (i := 0) (N := some 45) (v := ?_) (a' := ?_) #[true, false, false, false, false, false, false, false, false, false, false, false, false, false, false, false, false, false, false, false, false, false, false, false, false] rfl rfl (any_of HT_.out (by kernel_rfl)) (fun _ _ _ h => h) (Or.inl ⟨by rfl, ?_⟩) ?_ ?_
                rotate_left
                ·intro w'
                 go_simp
                 with_reducible rfl
                rotate_left
                ·simp only [Act.put, List.setIfInBounds_toArray, List.set_cons_zero, List.set_cons_succ, i64_w, i32_w]
                 rfl
                refine pure_ (i := 1) (N := some 46) (v := ?_) (a' := ?_) #[true, true, false, false, false, false, false, false, false, false, false, false, false, false, false, false, false, false, false, false, false, false, false, false, false] rfl rfl (any_of HT_.out (by kernel_rfl)) (fun _ _ _ h => h) (Or.inl ⟨by rfl, ?_⟩) ?_ ?_
                rotate_left
                ·intro w'
                 go_simp
                 with_reducible rfl
                rotate_left
                ·simp only [Act.put, List.setIfInBounds_toArray, List.set_cons_zero, List.set_cons_succ, i64_w, i32_w]
                 rfl
                refine pure_ (i := 2) (N := some 47) (v := ?_) (a' := ?_) #[true, true, true, false, false, false, false, false, false, false, false, false, false, false, false, false, false, false, false, false, false, false, false, false, false] rfl rfl (any_of HT_.out (by kernel_rfl)) (fun _ _ _ h => h) (Or.inl ⟨by rfl, ?_⟩) ?_ ?_
                rotate_left
                ·intro w'
                 go_simp
                 with_reducible rfl
                rotate_left
                ·simp only [Act.put, List.setIfInBounds_toArray, List.set_cons_zero, List.set_cons_succ, i64_w, i32_w]
                 rfl
                refine pure_ (i := 3) (N := some 48) (v := ?_) (a' := ?_) #[true, true, true, true, false, false, false, false, false, false, false, false, false, false, false, false, false, false, false, false, false, false, false, false, false] rfl rfl (any_of HT_.out (by kernel_rfl)) (fun _ _ _ h => h) (Or.inl ⟨by rfl, ?_⟩) ?_ ?_
                rotate_left
                ·intro w'
                 go_simp
                 with_reducible rfl
                rotate_left
                ·simp only [Act.put, List.setIfInBounds_toArray, List.set_cons_zero, List.set_cons_succ, i64_w, i32_w]
                 rfl
                refine pure_ (i := 4) (N := some 49) (v := ?_) (a' := ?_) #[true, true, true, true, true, false, false, false, false, false, false, false, false, false, false, false, false, false, false, false, false, false, false, false, false] rfl rfl (any_of HT_.out (by kernel_rfl)) (fun _ _ _ h => h) (Or.inl ⟨by rfl, ?_⟩) ?_ ?_
                rotate_left
                ·intro w'
                 go_simp
                 with_reducible rfl
                rotate_left
                ·simp only [Act.put, List.setIfInBounds_toArray, List.set_cons_zero, List.set_cons_succ, i64_w, i32_w]
                 rfl
                refine pure_ (i := 5) (N := some 50) (v := ?_) (a' := ?_) #[true, true, true, true, true, true, false, false, false, false, false, false, false, false, false, false, false, false, false, false, false, false, false, false, false] rfl rfl (any_of HT_.out (by kernel_rfl)) (fun _ _ _ h => h) (Or.inl ⟨by rfl, ?_⟩) ?_ ?_
                rotate_left
                ·intro w'
                 go_simp
                 with_reducible rfl
                rotate_left
                ·simp only [Act.put, List.setIfInBounds_toArray, List.set_cons_zero, List.set_cons_succ, i64_w, i32_w]
                 rfl
                refine pure_ (i := 6) (N := some 51) (v := ?_) (a' := ?_) #[true, true, true, true, true, true, true, false, false, false, false, false, false, false, false, false, false, false, false, false, false, false, false, false, false] rfl rfl (any_of HT_.out (by kernel_rfl)) (fun _ _ _ h => h) (Or.inl ⟨by rfl, ?_⟩) ?_ ?_
                rotate_left
                ·intro w'
                 go_simp
                 with_reducible rfl
                rotate_left
                ·simp only [Act.put, List.setIfInBounds_toArray, List.set_cons_zero, List.set_cons_succ, i64_w, i32_w]
                 rfl
                refine pure_ (i := 7) (N := some 52) (v := ?_) (a' := ?_) #[true, true, true, true, true, true, true, true, false, false, false, false, false, false, false, false, false, false, false, false, false, false, false, false, false] rfl rfl (any_of HT_.out (by kernel_rfl)) (fun _ _ _ h => h) (Or.inl ⟨by rfl, ?_⟩) ?_ ?_
                rotate_left
                ·intro w'
                 go_simp
                 with_reducible rfl
                rotate_left
                ·simp only [Act.put, List.setIfInBounds_toArray, List.set_cons_zero, List.set_cons_succ, i64_w, i32_w]
                 rfl
                refine pure_ (i := 8) (N := some 53) (v := ?_) (a' := ?_) #[true, true, true, true, true, true, true, true, true, false, false, false, false, false, false, false, false, false, false, false, false, false, false, false, false] rfl rfl (any_of HT_.out (by kernel_rfl)) (fun _ _ _ h => h) (Or.inl ⟨by rfl, ?_⟩) ?_ ?_
                rotate_left
                ·intro w'
                 go_simp
                 with_reducible rfl
                rotate_left
                ·simp only [Act.put, List.setIfInBounds_toArray, List.set_cons_zero, List.set_cons_succ, i64_w, i32_w]
                 rfl
                refine pure_ (i := 9) (N := some 54) (v := ?_) (a' := ?_) #[true, true, true, true, true, true, true, true, true, true, false, false, false, false, false, false, false, false, false, false, false, false, false, false, false] rfl rfl (any_of HT_.out (by kernel_rfl)) (fun _ _ _ h => h) (Or.inl ⟨by rfl, ?_⟩) ?_ ?_
                rotate_left
                ·intro w'
                 go_simp
                 with_reducible rfl
                rotate_left
                ·simp only [Act.put, List.setIfInBounds_toArray, List.set_cons_zero, List.set_cons_succ, i64_w, i32_w]
                 rfl
                refine pure_ (i := 10) (N := some 55) (v := ?_) (a' := ?_) #[true, true, true, true, true, true, true, true, true, true, true, false, false, false, false, false, false, false, false, false, false, false, false, false, false] rfl rfl (any_of HT_.out (by kernel_rfl)) (fun _ _ _ h => h) (Or.inl ⟨by rfl, ?_⟩) ?_ ?_
                rotate_left
                ·intro w'
                 go_simp
                 with_reducible rfl
                rotate_left
                ·simp only [Act.put, List.setIfInBounds_toArray, List.set_cons_zero, List.set_cons_succ, i64_w, i32_w]
                 rfl
                refine pure_ (i := 11) (N := some 56) (v := ?_) (a' := ?_) #[true, true, true, true, true, true, true, true, true, true, true, true, false, false, false, false, false, false, false, false, false, false, false, false, false] rfl rfl (any_of HT_.out (by kernel_rfl)) (fun _ _ _ h => h) (Or.inl ⟨by rfl, ?_⟩) ?_ ?_
                rotate_left
                ·intro w'
                 go_simp
                 with_reducible rfl
                rotate_left
                ·simp only [Act.put, List.setIfInBounds_toArray, List.set_cons_zero, List.set_cons_succ, i64_w, i32_w]
                 rfl
                refine pure_ (i := 12) (N := some 57) (v := ?_) (a' := ?_) #[true, true, true, true, true, true, true, true, true, true, true, true, true, false, false, false, false, false, false, false, false, false, false, false, false] rfl rfl (any_of HT_.out (by kernel_rfl)) (fun _ _ _ h => h) (Or.inl ⟨by rfl, ?_⟩) ?_ ?_
                rotate_left
                ·intro w'
                 go_simp
                 with_reducible rfl
                rotate_left
                ·simp only [Act.put, List.setIfInBounds_toArray, List.set_cons_zero, List.set_cons_succ, i64_w, i32_w]
                 rfl
                refine pure_ (i := 13) (N := some 58) (v := ?_) (a' := ?_) #[true, true, true, true, true, true, true, true, true, true, true, true, true, true, false, false, false, false, false, false, false, false, false, false, false] rfl rfl (any_of HT_.out (by kernel_rfl)) (fun _ _ _ h => h) (Or.inl ⟨by rfl, ?_⟩) ?_ ?_
                rotate_left
                ·intro w'
                 go_simp
                 with_reducible rfl
                rotate_left
                ·simp only [Act.put, List.setIfInBounds_toArray, List.set_cons_zero, List.set_cons_succ, i64_w, i32_w]
                 rfl
                refine pure_ (i := 14) (N := some 59) (v := ?_) (a' := ?_) #[true, true, true, true, true, true, true, true, true, true, true, true, true, true, true, false, false, false, false, false, false, false, false, false, false] rfl rfl (any_of HT_.out (by kernel_rfl)) (fun _ _ _ h => h) (Or.inl ⟨by rfl, ?_⟩) ?_ ?_
                rotate_left
                ·intro w'
                 go_simp
                 with_reducible rfl
                rotate_left
                ·simp only [Act.put, List.setIfInBounds_toArray, List.set_cons_zero, List.set_cons_succ, i64_w, i32_w]
                 rfl
                refine take_ (i := 15) (N := some 60) (v := ?_) (a' := ?_) #[true, true, true, true, true, true, true, true, true, true, true, true, true, true, true, true, false, false, false, false, false, false, false, false, false] rfl rfl (take_ofW HT_.out HW_.out (by kernel_rfl)) (fun _ _ _ h => h) (Or.inl ⟨by rfl, ?_⟩) hHeld ?_ ?_
                rotate_left
                ·rintro w' ⟨s0, s1, s2, s3, s4⟩
                 go_simp
                 with_reducible rfl
                rotate_left
                ·simp only [Act.put, List.setIfInBounds_toArray, List.set_cons_zero, List.set_cons_succ, i64_w, i32_w]
                 rfl
                refine take_ (i := 16) (N := some 61) (v := ?_) (a' := ?_) #[true, true, true, true, true, true, true, true, true, true, true, true, true, true, true, true, true, false, false, false, false, false, false, false, false] rfl rfl (take_ofW HT_.out HW_.out (by kernel_rfl)) (fun _ _ _ h => h) (Or.inl ⟨by rfl, ?_⟩) hHeld ?_ ?_
                rotate_left
                ·rintro w' ⟨s0, s1, s2, s3, s4⟩
                 go_simp
                 with_reducible rfl
                rotate_left
                ·simp only [Act.put, List.setIfInBounds_toArray, List.set_cons_zero, List.set_cons_succ, i64_w, i32_w]
                 rfl
                refine pure_ (i := 17) (N := some 62) (v := ?_) (a' := ?_) #[true, true, true, true, true, true, true, true, true, true, true, true, true, true, true, true, true, true, false, false, false, false, false, false, false] rfl rfl (any_of HT_.out (by kernel_rfl)) (fun _ _ _ h => h) (Or.inl ⟨by rfl, ?_⟩) ?_ ?_
                rotate_left
                ·intro w'
                 go_simp
                 with_reducible rfl
                rotate_left
                ·simp only [Act.put, List.setIfInBounds_toArray, List.set_cons_zero, List.set_cons_succ, i64_w, i32_w]
                 rfl
                refine pure_ (i := 18) (N := some 63) (v := ?_) (a' := ?_) #[true, true, true, true, true, true, true, true, true, true, true, true, true, true, true, true, true, true, true, false, false, false, false, false, false] rfl rfl (any_of HT_.out (by kernel_rfl)) (fun _ _ _ h => h) (Or.inl ⟨by rfl, ?_⟩) ?_ ?_
                rotate_left
                ·intro w'
                 go_simp
                 with_reducible rfl
                rotate_left
                ·simp only [Act.put, List.setIfInBounds_toArray, List.set_cons_zero, List.set_cons_succ, i64_w, i32_w]
                 rfl
                refine pure_ (i := 19) (N := some 64) (v := ?_) (a' := ?_) #[true, true, true, true, true, true, true, true, true, true, true, true, true, true, true, true, true, true, true, true, false, false, false, false, false] rfl rfl (any_of HT_.out (by kernel_rfl)) (fun _ _ _ h => h) (Or.inl ⟨by rfl, ?_⟩) ?_ ?_
                rotate_left
                ·intro w'
                 go_simp
                 with_reducible rfl
                rotate_left
                ·simp only [Act.put, List.setIfInBounds_toArray, List.set_cons_zero, List.set_cons_succ, i64_w, i32_w]
                 rfl
                refine pure_ (i := 20) (N := some 65) (v := ?_) (a' := ?_) #[true, true, true, true, true, true, true, true, true, true, true, true, true, true, true, true, true, true, true, true, true, false, false, false, false] rfl rfl (any_of HT_.out (by kernel_rfl)) (fun _ _ _ h => h) (Or.inl ⟨by rfl, ?_⟩) ?_ ?_
                rotate_left
                ·intro w'
                 go_simp
                 with_reducible rfl
                rotate_left
                ·simp only [Act.put, List.setIfInBounds_toArray, List.set_cons_zero, List.set_cons_succ, i64_w, i32_w]
                 rfl
                refine pure_ (i := 21) (N := some 66) (v := ?_) (a' := ?_) #[true, true, true, true, true, true, true, true, true, true, true, true, true, true, true, true, true, true, true, true, true, true, false, false, false] rfl rfl (any_of HT_.out (by kernel_rfl)) (fun _ _ _ h => h) (Or.inl ⟨by rfl, ?_⟩) ?_ ?_
                rotate_left
                ·intro w'
                 go_simp
                 with_reducible rfl
                rotate_left
                ·simp only [Act.put, List.setIfInBounds_toArray, List.set_cons_zero, List.set_cons_succ, i64_w, i32_w]
                 rfl
                refine take_ (i := 22) (N := some 67) (v := ?_) (a' := ?_) #[true, true, true, true, true, true, true, true, true, true, true, true, true, true, true, true, true, true, true, true, true, true, true, false, false] rfl rfl (take_ofW HT_.out HW_.out (by kernel_rfl)) (fun _ _ _ h => h) (Or.inl ⟨by rfl, ?_⟩) hHeld ?_ ?_
                rotate_left
                ·rintro w' ⟨s0, s1, s2, s3, s4⟩
                 go_simp
                 with_reducible rfl
                rotate_left
                ·simp only [Act.put, List.setIfInBounds_toArray, List.set_cons_zero, List.set_cons_succ, i64_w, i32_w]
                 rfl
                refine one_ (i := 23) (N := some 68) #[true, true, true, true, true, true, true, true, true, true, true, true, true, true, true, true, true, true, true, true, true, true, true, true, false] rfl rfl (one_of HT_.out (by kernel_rfl)) (by decide) (fun K hK => ?_)
                refine goes_ Try.func36 (by kernel_rfl) rfl #[.slice Ao42 t638.length co42, .func (.func 37) #[] #[.pointer (some ⟨gb632, 0, none⟩), .pointer (some ⟨gb620, 0, none⟩)]] (by rfl) rfl rfl (by (try simp only [List.map_toArray, List.map_cons, List.map_nil]); first | done | rfl | (simp only [List.length_drop, List.length_take]; rfl)) ?_
                with_reducible refine (cont36.calls k1 _ _ t638 (rd t627 x33_1) a0_0 a0_1 A0_2 c0_2 l0_2 t643 _ ?side1 ?side2 ?side3 ?side4 A40.out gb632 gb620 ?side5 ?side6).mono ?_
                (case side5 => exact (GS.bqX BK632.out))
                (case side6 => exact (GS.bqX BK620.out))
                (case side1 => repeat (first | exact (Kd.R_reads' HO640.out).2.2 | (with_reducible refine Kd.C_alloc ?_ _) | (with_reducible refine Kd.C_drewN ?_ _) | (with_reducible refine Kd.C_drew ?_)))
                (case side2 => exact (Kd.R_reads' HO640.out).2.1)
                (case side3 => exact GS.rC (Kd.C_below HR0_2.out HB.out))
                (case side4 => exact HC0_2.out)
                rintro e w43 ⟨rfl, hb⟩
                have HS4_ := (hb.cell (World.block_lt_of_cell? _ _ (hHeld.2.2.2.2))).trans (hHeld.2.2.2.2)
                refine ⟨_, rfl, ?_⟩
                have n0_ := Aside0.mk (Kd.R_below (GS.rR HO_5.out) hb)
                have n1_ := Aside0.mk (Kd.R_below (GS.rR HO_31.out) hb)
                have n2_ := Aside0.mk (Kd.R_below (GS.rR HO637.out) hb)
                have n3_ := Aside0.mk (Kd.R_below (GS.rR HO640.out) hb)
                have n4_ := Aside0.mk (bqB (GS.bqX BK620.out) hb)
                have n5_ := Aside0.mk (bqB (GS.bqX BK632.out) hb)
                have n6_ := Aside0.mk (lqT (GS.lB HB.out) hb)
                clear HO_5
                clear HO_31
                clear HO637
                clear HO640
                clear BK620
                clear BK632
                clear HB
                have HO_5 := n0_
                have HO_31 := n1_
                have HO637 := n2_
                have HO640 := n3_
                have BK620 := n4_
                have BK632 := n5_
                have HB := n6_
                clear n0_ n1_ n2_ n3_ n4_ n5_ n6_
                (try clear hb)
                (try clear hb2)
                (try clear hk)
                (try clear hi)
                refine hK.out _ _ ⟨(bqC BK632.out 0).trans rfl, (bqC BK620.out 0).trans rfl, (bqC BK620.out 1).trans rfl, (bqC BK620.out 2).trans rfl, HS4_⟩ (fun hHeld => ?_)
                clear hK K
                refine norm_ (a' := ?_) ?_ ?_
                rotate_left
                ·show Act.put _ (some 68) _ = _
                 simp only [Act.put, List.setIfInBounds_toArray, List.set_cons_zero, List.set_cons_succ, i64_w, i32_w]
                 rfl
                refine pure_ (i := 24) (N := some 69) (v := ?_) (a' := ?_) #[true, true, true, true, true, true, true, true, true, true, true, true, true, true, true, true, true, true, true, true, true, true, true, true, true] rfl rfl (any_of HT_.out (by kernel_rfl)) (fun _ _ _ h => h) (Or.inl ⟨by rfl, ?_⟩) ?_ ?_
                rotate_left
                ·intro w'
                 go_simp
                 with_reducible rfl
                rotate_left
                ·simp only [Act.put, List.setIfInBounds_toArray, List.set_cons_zero, List.set_cons_succ, i64_w, i32_w]
                 rfl
                refine done_ (done_of HT_.out (by kernel_rfl)) ?_
                try go_wp2
                go_meet
                case rel => exact ⟨_, (t643), (by first | rfl | (simp; done) | (simp [*]; done)), H', ⟨by have := HK1.out; first | omega | exact Nat.le_refl _⟩, ⟨by (with_reducible repeat (first | apply Kd.R_alloc | apply Kd.R_drewN | apply Kd.R_drew)); exact HO_5.out⟩, ⟨by (with_reducible repeat (first | apply Kd.R_alloc | apply Kd.R_drewN | apply Kd.R_drew)); exact Kd.R_mono HO640.out (fun _ hk => trivial)⟩, ⟨by (with_reducible repeat (first | apply Kd.R_alloc | apply Kd.R_drewN | apply Kd.R_drew)); exact HO_31.out⟩, ⟨GS.bqX BK620.out⟩, ⟨GS.bqX BK632.out⟩, ⟨GS.lB HB.out⟩⟩
              ·rw [if_neg c38] at H
               exact absurd H (by simp)
             ·rw [if_neg c37] at H
              exact absurd H (by simp)
            ·rw [if_neg c35] at H
             have c35b0 : decide (0 < x33_1) = false := decide_eq_false c35
             clear c35
             replace H := Option.bind_eq_some_iff.mp H
             obtain ⟨t644, A440, H⟩ := H
             replace H : (spilelaw42_SenderNodes.j1 k1 a1 t627 x7_1 t638 t627 (t627.length : Int) x33_1 t644 a0_0 a0_1 l0_2) = some r := H
             have A44 := Aside0.mk A440
             clear A440
             have H' := Aside0.mk H
             clear H
             try go_wp2
             have n0_ := Aside0.mk (Kd.R_drew HO_5.out)
             have n1_ := Aside0.mk (Kd.R_drew HO_31.out)
             have n2_ := Aside0.mk (Kd.R_drew HO637.out)
             have n3_ := Aside0.mk (Kd.R_drew HO640.out)
             have n4_ := Aside0.mk (bqD BK620.out)
             have n5_ := Aside0.mk (bqD BK632.out)
             have n6_ := Aside0.mk (lqD HB.out)
             clear HO_5
             clear HO_31
             clear HO637
             clear HO640
             clear BK620
             clear BK632
             clear HB
             have HO_5 := n0_
             have HO_31 := n1_
             have HO637 := n2_
             have HO640 := n3_
             have BK620 := n4_
             have BK632 := n5_
             have HB := n6_
             clear n0_ n1_ n2_ n3_ n4_ n5_ n6_
             obtain ⟨Ao46, co46, eo46⟩ := Kd.R_slice HO640.out
             (first | subst eo46 | (injection eo46 with f1_ f2_ f3_; have f4_ := f1_.symm; have f5_ := f3_.symm; clear f1_ f2_ f3_; subst f4_; subst f5_))
             refine start_ (n := 25) (S := fun w' => w'.cell? ⟨gb620, 0, none⟩ = some (.int .i64 a0_0) ∧ w'.cell? ⟨gb620, 1, none⟩ = some (.int .i64 a0_1) ∧ w'.cell? ⟨gb620, 2, none⟩ = some (.slice A0_2 l0_2.length c0_2)) (ds := []) #[false, false, false, false, false, false, false, false, false, false, false, false, false, false, false, false, false, false, false, false, false, false, false, false, false] (by kernel_rfl) rfl rfl ⟨(bqC BK620.out 0).trans rfl, (bqC BK620.out 1).trans rfl, (bqC BK620.out 2).trans rfl⟩ (fun hHeld => ?_); refine with_tabW spilelaw42_SenderNodes.tab13 spilelaw42_SenderNodes.bits13 (fun HT_ HW_ => ?_)
             generalize w32.drew = w45 at HO_5 HO_31 HO637 HO640 BK620 BK632 HB hHeld ⊢
             refine pure_ (i := 0) (N := some 45) (v := ?_) (a' := ?_) #[true, false, false, false, false, false, false, false, false, false, false, false, false, false, false, false, false, false, false, false, false, false, false, false, false] rfl rfl (any_of HT_.out (by kernel_rfl)) (fun _ _ _ h => h) (Or.inl ⟨by rfl, ?_⟩) ?_ ?_
             rotate_left
             ·intro w'
              go_simp
              with_reducible rfl
             rotate_left
             ·simp only [Act.put, List.setIfInBounds_toArray, List.set_cons_zero, List.set_cons_succ, i64_w, i32_w]
              rfl
             refine pure_ (i := 1) (N := some 46) (v := ?_) (a' := ?_) #[true, true, false, false, false, false, false, false, false, false, false, false, false, false, false, false, false, false, false, false, false, false, false, false, false] rfl rfl (any_of HT_.out (by kernel_rfl)) (fun _ _ _ h => h) (Or.inl ⟨by rfl, ?_⟩) ?_ ?_
             rotate_left
             ·intro w'
              go_simp
              with_reducible rfl
             rotate_left
             ·simp only [Act.put, List.setIfInBounds_toArray, List.set_cons_zero, List.set_cons_succ, i64_w, i32_w]
              rfl
             refine pure_ (i := 2) (N := some 47) (v := ?_) (a' := ?_) #[true, true, true, false, false, false, false, false, false, false, false, false, false, false, false, false, false, false, false, false, false, false, false, false, false] rfl rfl (any_of HT_.out (by kernel_rfl)) (fun _ _ _ h => h) (Or.inl ⟨by rfl, ?_⟩) ?_ ?_
             rotate_left
             ·intro w'
              go_simp
              with_reducible rfl
             rotate_left
             ·simp only [Act.put, List.setIfInBounds_toArray, List.set_cons_zero, List.set_cons_succ, i64_w, i32_w]
              rfl
             refine pure_ (i := 3) (N := some 48) (v := ?_) (a' := ?_) #[true, true, true, true, false, false, false, false, false, false, false, false, false, false, false, false, false, false, false, false, false, false, false, false, false] rfl rfl (any_of HT_.out (by kernel_rfl)) (fun _ _ _ h => h) (Or.inl ⟨by rfl, ?_⟩) ?_ ?_
             rotate_left
             ·intro w'
              go_simp
              with_reducible rfl
             rotate_left
             ·simp only [Act.put, List.setIfInBounds_toArray, List.set_cons_zero, List.set_cons_succ, i64_w, i32_w]
              rfl
             refine pure_ (i := 4) (N := some 49) (v := ?_) (a' := ?_) #[true, true, true, true, true, false, false, false, false, false, false, false, false, false, false, false, false, false, false, false, false, false, false, false, false] rfl rfl (any_of HT_.out (by kernel_rfl)) (fun _ _ _ h => h) (Or.inl ⟨by rfl, ?_⟩) ?_ ?_
             rotate_left
             ·intro w'
              go_simp
              with_reducible rfl
             rotate_left
             ·simp only [Act.put, List.setIfInBounds_toArray, List.set_cons_zero, List.set_cons_succ, i64_w, i32_w]
              rfl
             refine pure_ (i := 5) (N := some 50) (v := ?_) (a' := ?_) #[true, true, true, true, true, true, false, false, false, false, false, false, false, false, false, false, false, false, false, false, false, false, false, false, false] rfl rfl (any_of HT_.out (by kernel_rfl)) (fun _ _ _ h => h) (Or.inl ⟨by rfl, ?_⟩) ?_ ?_
             rotate_left
             ·intro w'
              go_simp
              with_reducible rfl
             rotate_left
             ·simp only [Act.put, List.setIfInBounds_toArray, List.set_cons_zero, List.set_cons_succ, i64_w, i32_w]
              rfl
             refine pure_ (i := 6) (N := some 51) (v := ?_) (a' := ?_) #[true, true, true, true, true, true, true, false, false, false, false, false, false, false, false, false, false, false, false, false, false, false, false, false, false] rfl rfl (any_of HT_.out (by kernel_rfl)) (fun _ _ _ h => h) (Or.inl ⟨by rfl, ?_⟩) ?_ ?_
             rotate_left
             ·intro w'
              go_simp
              with_reducible rfl
             rotate_left
             ·simp only [Act.put, List.setIfInBounds_toArray, List.set_cons_zero, List.set_cons_succ, i64_w, i32_w]
              rfl
             refine pure_ (i := 7) (N := some 52) (v := ?_) (a' := ?_) #[true, true, true, true, true, true, true, true, false, false, false, false, false, false, false, false, false, false, false, false, false, false, false, false, false] rfl rfl (any_of HT_.out (by kernel_rfl)) (fun _ _ _ h => h) (Or.inl ⟨by rfl, ?_⟩) ?_ ?_
             rotate_left
             ·intro w'
              go_simp
              with_reducible rfl
             rotate_left
             ·simp only [Act.put, List.setIfInBounds_toArray, List.set_cons_zero, List.set_cons_succ, i64_w, i32_w]
              rfl
             refine pure_ (i := 8) (N := some 53) (v := ?_) (a' := ?_) #[true, true, true, true, true, true, true, true, true, false, false, false, false, false, false, false, false, false, false, false, false, false, false, false, false] rfl rfl (any_of HT_.out (by kernel_rfl)) (fun _ _ _ h => h) (Or.inl ⟨by rfl, ?_⟩) ?_ ?_
             rotate_left
             ·intro w'
              go_simp
              with_reducible rfl
             rotate_left
             ·simp only [Act.put, List.setIfInBounds_toArray, List.set_cons_zero, List.set_cons_succ, i64_w, i32_w]
              rfl
             refine pure_ (i := 9) (N := some 54) (v := ?_) (a' := ?_) #[true, true, true, true, true, true, true, true, true, true, false, false, false, false, false, false, false, false, false, false, false, false, false, false, false] rfl rfl (any_of HT_.out (by kernel_rfl)) (fun _ _ _ h => h) (Or.inl ⟨by rfl, ?_⟩) ?_ ?_
             rotate_left
             ·intro w'
              go_simp
              with_reducible rfl
             rotate_left
             ·simp only [Act.put, List.setIfInBounds_toArray, List.set_cons_zero, List.set_cons_succ, i64_w, i32_w]
              rfl
             refine pure_ (i := 10) (N := some 55) (v := ?_) (a' := ?_) #[true, true, true, true, true, true, true, true, true, true, true, false, false, false, false, false, false, false, false, false, false, false, false, false, false] rfl rfl (any_of HT_.out (by kernel_rfl)) (fun _ _ _ h => h) (Or.inl ⟨by rfl, ?_⟩) ?_ ?_
             rotate_left
             ·intro w'
              go_simp
              with_reducible rfl
             rotate_left
             ·simp only [Act.put, List.setIfInBounds_toArray, List.set_cons_zero, List.set_cons_succ, i64_w, i32_w]
              rfl
             refine pure_ (i := 11) (N := some 56) (v := undef) (a' := ?_) #[true, true, true, true, true, true, true, true, true, true, true, true, false, false, false, false, false, false, false, false, false, false, false, false, false] rfl rfl (any_of HT_.out (by kernel_rfl)) (fun _ _ _ h => h) (Or.inr ⟨by rfl, rfl⟩) ?_ ?_
             rotate_left
             ·simp only [Act.put, List.setIfInBounds_toArray, List.set_cons_zero, List.set_cons_succ, i64_w, i32_w]
              rfl
             refine pure_ (i := 12) (N := some 57) (v := undef) (a' := ?_) #[true, true, true, true, true, true, true, true, true, true, true, true, true, false, false, false, false, false, false, false, false, false, false, false, false] rfl rfl (any_of HT_.out (by kernel_rfl)) (fun _ _ _ h => h) (Or.inr ⟨by rfl, rfl⟩) ?_ ?_
             rotate_left
             ·simp only [Act.put, List.setIfInBounds_toArray, List.set_cons_zero, List.set_cons_succ, i64_w, i32_w]
              rfl
             refine pure_ (i := 13) (N := some 58) (v := undef) (a' := ?_) #[true, true, true, true, true, true, true, true, true, true, true, true, true, true, false, false, false, false, false, false, false, false, false, false, false] rfl rfl (any_of HT_.out (by kernel_rfl)) (fun _ _ _ h => h) (Or.inr ⟨by rfl, rfl⟩) ?_ ?_
             rotate_left
             ·simp only [Act.put, List.setIfInBounds_toArray, List.set_cons_zero, List.set_cons_succ, i64_w, i32_w]
              rfl
             refine pure_ (i := 14) (N := some 59) (v := undef) (a' := ?_) #[true, true, true, true, true, true, true, true, true, true, true, true, true, true, true, false, false, false, false, false, false, false, false, false, false] rfl rfl (any_of HT_.out (by kernel_rfl)) (fun _ _ _ h => h) (Or.inr ⟨by rfl, rfl⟩) ?_ ?_
             rotate_left
             ·simp only [Act.put, List.setIfInBounds_toArray, List.set_cons_zero, List.set_cons_succ, i64_w, i32_w]
              rfl
             refine pure_ (i := 15) (N := some 60) (v := undef) (a' := ?_) #[true, true, true, true, true, true, true, true, true, true, true, true, true, true, true, true, false, false, false, false, false, false, false, false, false] rfl rfl (any_of HT_.out (by kernel_rfl)) (fun _ _ _ h => h) (Or.inr ⟨by rfl, rfl⟩) ?_ ?_
             rotate_left
             ·simp only [Act.put, List.setIfInBounds_toArray, List.set_cons_zero, List.set_cons_succ, i64_w, i32_w]
              rfl
             refine pure_ (i := 16) (N := some 61) (v := undef) (a' := ?_) #[true, true, true, true, true, true, true, true, true, true, true, true, true, true, true, true, true, false, false, false, false, false, false, false, false] rfl rfl (any_of HT_.out (by kernel_rfl)) (fun _ _ _ h => h) (Or.inr ⟨by rfl, rfl⟩) ?_ ?_
             rotate_left
             ·simp only [Act.put, List.setIfInBounds_toArray, List.set_cons_zero, List.set_cons_succ, i64_w, i32_w]
              rfl
             refine pure_ (i := 17) (N := some 62) (v := undef) (a' := ?_) #[true, true, true, true, true, true, true, true, true, true, true, true, true, true, true, true, true, true, false, false, false, false, false, false, false] rfl rfl (any_of HT_.out (by kernel_rfl)) (fun _ _ _ h => h) (Or.inr ⟨by rfl, rfl⟩) ?_ ?_
             rotate_left
             ·simp only [Act.put, List.setIfInBounds_toArray, List.set_cons_zero, List.set_cons_succ, i64_w, i32_w]
              rfl
             refine pure_ (i := 18) (N := some 63) (v := ?_) (a' := ?_) #[true, true, true, true, true, true, true, true, true, true, true, true, true, true, true, true, true, true, true, false, false, false, false, false, false] rfl rfl (any_of HT_.out (by kernel_rfl)) (fun _ _ _ h => h) (Or.inl ⟨by rfl, ?_⟩) ?_ ?_
             rotate_left
             ·intro w'
              go_simp
              with_reducible rfl
             rotate_left
             ·simp only [Act.put, List.setIfInBounds_toArray, List.set_cons_zero, List.set_cons_succ, i64_w, i32_w]
              rfl
             refine pure_ (i := 19) (N := some 64) (v := ?_) (a' := ?_) #[true, true, true, true, true, true, true, true, true, true, true, true, true, true, true, true, true, true, true, true, false, false, false, false, false] rfl rfl (any_of HT_.out (by kernel_rfl)) (fun _ _ _ h => h) (Or.inl ⟨by rfl, ?_⟩) ?_ ?_
             rotate_left
             ·intro w'
              go_simp
              with_reducible rfl
             rotate_left
             ·simp only [Act.put, List.setIfInBounds_toArray, List.set_cons_zero, List.set_cons_succ, i64_w, i32_w]
              rfl
             refine pure_ (i := 20) (N := some 65) (v := ?_) (a' := ?_) #[true, true, true, true, true, true, true, true, true, true, true, true, true, true, true, true, true, true, true, true, true, false, false, false, false] rfl rfl (any_of HT_.out (by kernel_rfl)) (fun _ _ _ h => h) (Or.inl ⟨by rfl, ?_⟩) ?_ ?_
             rotate_left
             ·intro w'
              go_simp
              with_reducible rfl
             rotate_left
             ·simp only [Act.put, List.setIfInBounds_toArray, List.set_cons_zero, List.set_cons_succ, i64_w, i32_w]
              rfl
             refine pure_ (i := 21) (N := some 66) (v := ?_) (a' := ?_) #[true, true, true, true, true, true, true, true, true, true, true, true, true, true, true, true, true, true, true, true, true, true, false, false, false] rfl rfl (any_of HT_.out (by kernel_rfl)) (fun _ _ _ h => h) (Or.inl ⟨by rfl, ?_⟩) ?_ ?_
             rotate_left
             ·intro w'
              go_simp
              with_reducible rfl
             rotate_left
             ·simp only [Act.put, List.setIfInBounds_toArray, List.set_cons_zero, List.set_cons_succ, i64_w, i32_w]
              rfl
             refine take_ (i := 22) (N := some 67) (v := ?_) (a' := ?_) #[true, true, true, true, true, true, true, true, true, true, true, true, true, true, true, true, true, true, true, true, true, true, true, false, false] rfl rfl (take_ofW HT_.out HW_.out (by kernel_rfl)) (fun _ _ _ h => h) (Or.inl ⟨by rfl, ?_⟩) hHeld ?_ ?_
             rotate_left
             ·rintro w' ⟨s0, s1, s2⟩
              go_simp
              with_reducible rfl
             rotate_left
             ·simp only [Act.put, List.setIfInBounds_toArray, List.set_cons_zero, List.set_cons_succ, i64_w, i32_w]
              rfl
             refine one_ (i := 23) (N := some 68) #[true, true, true, true, true, true, true, true, true, true, true, true, true, true, true, true, true, true, true, true, true, true, true, true, false] rfl rfl (one_of HT_.out (by kernel_rfl)) (by decide) (fun K hK => ?_)
             refine goes_ Try.func36 (by kernel_rfl) rfl #[.slice Ao46 t638.length co46, .func (.func 37) #[] #[.pointer (some ⟨gb632, 0, none⟩), .pointer (some ⟨gb620, 0, none⟩)]] (by rfl) rfl rfl (by (try simp only [List.map_toArray, List.map_cons, List.map_nil]); first | done | rfl | (simp only [List.length_drop, List.length_take]; rfl)) ?_
             with_reducible refine (cont36.calls k1 _ _ t638 (rd t627 x33_1) a0_0 a0_1 A0_2 c0_2 l0_2 t644 _ ?side1 ?side2 ?side3 ?side4 A44.out gb632 gb620 ?side5 ?side6).mono ?_
             (case side5 => exact (GS.bqX BK632.out))
             (case side6 => exact (GS.bqX BK620.out))
             (case side1 => repeat (first | exact (Kd.R_reads' HO640.out).2.2 | (with_reducible refine Kd.C_alloc ?_ _) | (with_reducible refine Kd.C_drewN ?_ _) | (with_reducible refine Kd.C_drew ?_)))
             (case side2 => exact (Kd.R_reads' HO640.out).2.1)
             (case side3 => exact GS.rC (Kd.C_below HR0_2.out HB.out))
             (case side4 => exact HC0_2.out)
             rintro e w47 ⟨rfl, hb⟩
             refine ⟨_, rfl, ?_⟩
             have n0_ := Aside0.mk (Kd.R_below (GS.rR HO_5.out) hb)
             have n1_ := Aside0.mk (Kd.R_below (GS.rR HO_31.out) hb)
             have n2_ := Aside0.mk (Kd.R_below (GS.rR HO637.out) hb)
             have n3_ := Aside0.mk (Kd.R_below (GS.rR HO640.out) hb)
             have n4_ := Aside0.mk (bqB (GS.bqX BK620.out) hb)
             have n5_ := Aside0.mk (bqB (GS.bqX BK632.out) hb)
             have n6_ := Aside0.mk (lqT (GS.lB HB.out) hb)
             clear HO_5
             clear HO_31
             clear HO637
             clear HO640
             clear BK620
             clear BK632
             clear HB
             have HO_5 := n0_
             have HO_31 := n1_
             have HO637 := n2_
             have HO640 := n3_
             have BK620 := n4_
             have BK632 := n5_
             have HB := n6_
             clear n0_ n1_ n2_ n3_ n4_ n5_ n6_
             (try clear hb)
             (try clear hb2)
             (try clear hk)
             (try clear hi)
             refine hK.out _ _ ⟨(bqC BK620.out 0).trans rfl, (bqC BK620.out 1).trans rfl, (bqC BK620.out 2).trans rfl⟩ (fun hHeld => ?_)
             clear hK K
             refine norm_ (a' := ?_) ?_ ?_
             rotate_left
             ·show Act.put _ (some 68) _ = _
              simp only [Act.put, List.setIfInBounds_toArray, List.set_cons_zero, List.set_cons_succ, i64_w, i32_w]
              rfl
             refine pure_ (i := 24) (N := some 69) (v := ?_) (a' := ?_) #[true, true, true, true, true, true, true, true, true, true, true, true, true, true, true, true, true, true, true, true, true, true, true, true, true] rfl rfl (any_of HT_.out (by kernel_rfl)) (fun _ _ _ h => h) (Or.inl ⟨by rfl, ?_⟩) ?_ ?_
             rotate_left
             ·intro w'
              go_simp
              with_reducible rfl
             rotate_left
             ·simp only [Act.put, List.setIfInBounds_toArray, List.set_cons_zero, List.set_cons_succ, i64_w, i32_w]
              rfl
             refine done_ (done_of HT_.out (by kernel_rfl)) ?_
             try go_wp2
             go_meet
             case rel => exact ⟨_, (t644), (by first | rfl | (simp; done) | (simp [*]; done)), H', ⟨by have := HK1.out; first | omega | exact Nat.le_refl _⟩, ⟨by (with_reducible repeat (first | apply Kd.R_alloc | apply Kd.R_drewN | apply Kd.R_drew)); exact HO_5.out⟩, ⟨by (with_reducible repeat (first | apply Kd.R_alloc | apply Kd.R_drewN | apply Kd.R_drew)); exact Kd.R_mono HO640.out (fun _ hk => trivial)⟩, ⟨by (with_reducible repeat (first | apply Kd.R_alloc | apply Kd.R_drewN | apply Kd.R_drew)); exact HO_31.out⟩, ⟨GS.bqX BK620.out⟩, ⟨GS.bqX BK632.out⟩, ⟨GS.lB HB.out⟩⟩
          ·rw [if_neg c33] at H
           exact absurd H (by simp)
         case rest =>
          clear HC24
          try clear p2
          try clear c3
          try clear p6
          try clear q6
          try clear hx6
          try clear c33
          try clear c33b0
          try clear c33b1
          try clear c34
          try clear c34b0
          try clear c34b1
          try clear c34b2
          try clear c35
          try clear c35b0
          try clear c36
          try clear c37
          try clear c37b0
          try clear c38
          try clear c38b0
          try clear c39
          try clear c39b0
          try clear hx642_0
          try clear p642
          try clear q642
          obtain ⟨kq, x69_23, rfl, HA, HJ23, HO_5, HO_10, HO_31, BK620, BK632, HB⟩ := hcut
          cases kq with
          | zero => exact absurd HA.out (by simp [spilelaw42_SenderNodes.j1])
          | succ kj23 =>
           have H := HA.out
           clear HA
           simp only [spilelaw42_SenderNodes.j1] at H
           by_cases c48 : x69_23 = true
           ·subst c48
            have H1 : (none) = some r := by rw [if_pos rfl] at H; exact H
            clear H
            have H := H1
            clear H1
            exact absurd H (by simp)
           ·replace c48 := Bool.eq_false_iff.mpr c48
            subst c48
            have H1 : (spilelaw42_SenderNodes.l0 kj23 a1 t627 (wrap64 (x7_1 + (t638.length : Int))) t627 (t627.length : Int) (wrap64 (x33_1 + 1)) a0_0 a0_1 l0_2) = some r := by rw [if_neg (show ¬ (false = true) by decide)] at H; exact H
            clear H
            have H := H1
            clear H1
            have H' := Aside0.mk H
            clear H
            obtain ⟨Ao49, co49, eo49⟩ := Kd.R_slice HO_10.out
            subst eo49
            go_wp2
            go_roundg kj23
            case measure => have := HK1.out; have := HJ23.out; omega
            case rel => exact ⟨(wrap64 (x7_1 + (t638.length : Int))), (wrap64 (x33_1 + 1)), (by first | rfl | (simp; done) | (simp [*]; done)), (by first | rfl | (simp; done) | (simp [*]; done)), H', ⟨by have := HK1.out; have := HJ23.out; omega⟩, ⟨by (with_reducible repeat (first | apply Kd.R_alloc | apply Kd.R_drewN | apply Kd.R_drew)); exact HO_5.out⟩, ⟨by (with_reducible repeat (first | apply Kd.R_alloc | apply Kd.R_drewN | apply Kd.R_drew)); exact HO_31.out⟩, ⟨GS.bqX BK620.out⟩, ⟨GS.lB HB.out⟩⟩
        ·rw [if_neg c21] at H
         exact absurd H (by simp)
       ·rw [if_neg c20] at H
        exact absurd H (by simp)
      ·rw [if_neg c19] at H
       have c19b0 : decide (x33_1 < (t627.length : Int)) = false := decide_eq_false c19
       clear c19
       replace H := Option.bind_eq_some_iff.mp H
       obtain ⟨⟨t645, t646, t647⟩, A500, H⟩ := H
       replace H : ((sender_Again.f k1 t645 t646 t647 a1).bind fun bt650 => (if x7_1 = (l0_2.length : Int) then (if bt650.2 = 0 then ((slices_Contains_int_int.f k1 t627 a1).bind fun t654 => (some ((decide ((bt650.1.length : Int) > 0)) == t654))) else (if (bt650.1.length : Int) = 0 then (some true) else (none))) else (none))) = some r := H
       have A50 := Aside0.mk A500
       clear A500
       replace H := Option.bind_eq_some_iff.mp H
       obtain ⟨⟨t650, t653⟩, A510, H⟩ := H
       replace H : (if x7_1 = (l0_2.length : Int) then (if t653 = 0 then ((slices_Contains_int_int.f k1 t627 a1).bind fun t654 => (some ((decide ((t650.length : Int) > 0)) == t654))) else (if (t650.length : Int) = 0 then (some true) else (none))) else (none)) = some r := H
       have A51 := Aside0.mk A510
       clear A510
       by_cases c52 : x7_1 = (l0_2.length : Int)
       ·rw [if_pos c52] at H
        have c52b0 : (x7_1 == (l0_2.length : Int)) = true := beq_iff_eq.mpr c52
        try simp only [beq_self_eq_true, Bool.not_true, Bool.false_or, Bool.true_and] at c52b0
        have c52b1 : (x7_1 != (l0_2.length : Int)) = false := bne_eq_false_iff_eq.mpr c52
        clear c52
        by_cases c53 : t653 = 0
        ·rw [if_pos c53] at H
         have c53b0 : (t653 == 0) = true := beq_iff_eq.mpr c53
         try simp only [beq_self_eq_true, Bool.not_true, Bool.false_or, Bool.true_and] at c53b0
         have c53b1 : (t653 != 0) = false := bne_eq_false_iff_eq.mpr c53
         clear c53
         replace H := Option.bind_eq_some_iff.mp H
         obtain ⟨t654, A540, H⟩ := H
         replace H : (some ((decide ((t650.length : Int) > 0)) == t654)) = some r := H
         have A54 := Aside0.mk A540
         clear A540
         obtain rfl := Option.some.inj H
         obtain ⟨hcz55_0, hcz55_1, hcz55_2, hfz55_0, hfz55_1, hfz55_2⟩ := GS.c3 BK620.out
         go_wp2_with (first | ((with_reducible refine gqC (f := 15) rfl ?_); refine GS.gL (some 77) Try.func15 #[.agg #[.int .i64 a0_0, .int .i64 a0_1, .slice A0_2 l0_2.length c0_2]] ?_; (with_reducible refine (spileref42_Copy.calls a0_0 a0_1 _ _ l0_2 t645 t646 t647 _ ?side1 ?side2 A50.out).mono ?_); (case side1 => exact GS.rC (Kd.C_below HR0_2.out HB.out)); (case side2 => exact HC0_2.out); rintro e w56 ⟨v648, rfl, ho0, hb⟩; refine ⟨_, rfl, ?_⟩; have n0_ := Aside0.mk (Kd.R_below (GS.rR HO_5.out) hb); have n1_ := Aside0.mk (Kd.R_below (GS.rR HO_31.out) hb); have n2_ := Aside0.mk (Kd.R_lower ho0 (lqZ (GS.lB HB.out))); have n3_ := Aside0.mk (bqB (GS.bqX BK620.out) hb); have n4_ := Aside0.mk (lqT (GS.lB HB.out) hb); clear HO_5; clear HO_31; clear BK620; clear HB; have HO_5 := n0_; have HO_31 := n1_; have HO649 := n2_; have BK620 := n3_; have HB := n4_; clear n0_ n1_ n2_ n3_ n4_; (try clear hb); (try clear hb2); (try clear hk); (try clear hi); (try clear ho0); obtain ⟨Ao57, co57, eo57⟩ := Kd.R_slice HO649.out; subst eo57) | ((with_reducible refine gqC (f := 30) rfl ?_); refine GS.gL (some 79) Try.func30 #[.agg #[.int .i64 t645, .int .i64 t646, .slice Ao57 t647.length co57], .int .i64 a1] ?_; (with_reducible refine (sender_Again.calls k1 t645 t646 _ _ t647 a1 t650 t653 _ ?side1 ?side2 A51.out).mono ?_); (case side1 => repeat (first | exact (Kd.R_reads' HO649.out).2.2 | (with_reducible refine Kd.C_alloc ?_ _) | (with_reducible refine Kd.C_drewN ?_ _) | (with_reducible refine Kd.C_drew ?_))); (case side2 => exact (Kd.R_reads' HO649.out).2.1); rintro e w58 ⟨v651, rfl, ho0, hb⟩; refine ⟨_, rfl, ?_⟩; have n0_ := Aside0.mk (Kd.R_below (GS.rR HO_5.out) hb); have n1_ := Aside0.mk (Kd.R_below (GS.rR HO_31.out) hb); have n2_ := Aside0.mk (Kd.R_elder' (GS.rR HO649.out) (Kd.R_base ho0) hb); have n3_ := Aside0.mk (Kd.R_lower (Kd.R_new' ho0 (Kd.R_lt (GS.rR HO649.out))) (lqZ (GS.lB HB.out))); have n4_ := Aside0.mk (bqB (GS.bqX BK620.out) hb); have n5_ := Aside0.mk (lqT (GS.lB HB.out) hb); clear HO_5; clear HO_31; clear HO649; clear BK620; clear HB; have HO_5 := n0_; have HO_31 := n1_; have HO649 := n2_; have HO652 := n3_; have BK620 := n4_; have HB := n5_; clear n0_ n1_ n2_ n3_ n4_ n5_; (try clear hb); (try clear hb2); (try clear hk); (try clear hi); (try clear ho0); obtain ⟨hcz59_0, hcz59_1, hcz59_2, hfz59_0, hfz59_1, hfz59_2⟩ := GS.c3 BK620.out; obtain ⟨Ao60, co60, eo60⟩ := Kd.R_slice HO652.out; subst eo60) | (go_at_call 39; (with_reducible refine (slices_Contains_int_int.calls k1 _ _ t627 a1 t654 _ ?side1 ?side2 A54.out).mono ?_); (case side1 => repeat (first | exact (Kd.R_reads' HO_5.out).2.2 | (with_reducible refine Kd.C_alloc ?_ _) | (with_reducible refine Kd.C_drewN ?_ _) | (with_reducible refine Kd.C_drew ?_))); (case side2 => exact (Kd.R_reads' HO_5.out).2.1); rintro e w' ⟨rfl, ⟨nd, rfl⟩⟩))
         go_ret
         exact ⟨by first | rfl | (simp [errW_none, errW_some] <;> rfl) | (simp [*, errW_none, errW_some] <;> rfl), GS.lB HB.out⟩
        ·rw [if_neg c53] at H
         have c53b0 : (t653 == 0) = false := beq_eq_false_iff_ne.mpr c53
         try simp only [beq_self_eq_true, Bool.not_true, Bool.false_or, Bool.true_and] at c53b0
         have c53b1 : (t653 != 0) = true := bne_iff_ne.mpr c53
         by_cases c61 : (t650.length : Int) = 0
         ·rw [if_pos c61] at H
          have c61b0 : ((t650.length : Int) == 0) = true := beq_iff_eq.mpr c61
          try simp only [beq_self_eq_true, Bool.not_true, Bool.false_or, Bool.true_and] at c61b0
          have c61b1 : ((t650.length : Int) != 0) = false := bne_eq_false_iff_eq.mpr c61
          clear c61
          obtain rfl := Option.some.inj H
          obtain ⟨hcz62_0, hcz62_1, hcz62_2, hfz62_0, hfz62_1, hfz62_2⟩ := GS.c3 BK620.out
          go_wp2_with (first | ((with_reducible refine gqC (f := 15) rfl ?_); refine GS.gL (some 77) Try.func15 #[.agg #[.int .i64 a0_0, .int .i64 a0_1, .slice A0_2 l0_2.length c0_2]] ?_; (with_reducible refine (spileref42_Copy.calls a0_0 a0_1 _ _ l0_2 t645 t646 t647 _ ?side1 ?side2 A50.out).mono ?_); (case side1 => exact GS.rC (Kd.C_below HR0_2.out HB.out)); (case side2 => exact HC0_2.out); rintro e w63 ⟨v648, rfl, ho0, hb⟩; refine ⟨_, rfl, ?_⟩; have n0_ := Aside0.mk (Kd.R_below (GS.rR HO_5.out) hb); have n1_ := Aside0.mk (Kd.R_below (GS.rR HO_31.out) hb); have n2_ := Aside0.mk (Kd.R_lower ho0 (lqZ (GS.lB HB.out))); have n3_ := Aside0.mk (bqB (GS.bqX BK620.out) hb); have n4_ := Aside0.mk (lqT (GS.lB HB.out) hb); clear HO_5; clear HO_31; clear BK620; clear HB; have HO_5 := n0_; have HO_31 := n1_; have HO649 := n2_; have BK620 := n3_; have HB := n4_; clear n0_ n1_ n2_ n3_ n4_; (try clear hb); (try clear hb2); (try clear hk); (try clear hi); (try clear ho0); obtain ⟨Ao64, co64, eo64⟩ := Kd.R_slice HO649.out; subst eo64) | ((with_reducible refine gqC (f := 30) rfl ?_); refine GS.gL (some 79) Try.func30 #[.agg #[.int .i64 t645, .int .i64 t646, .slice Ao64 t647.length co64], .int .i64 a1] ?_; (with_reducible refine (sender_Again.calls k1 t645 t646 _ _ t647 a1 t650 t653 _ ?side1 ?side2 A51.out).mono ?_); (case side1 => repeat (first | exact (Kd.R_reads' HO649.out).2.2 | (with_reducible refine Kd.C_alloc ?_ _) | (with_reducible refine Kd.C_drewN ?_ _) | (with_reducible refine Kd.C_drew ?_))); (case side2 => exact (Kd.R_reads' HO649.out).2.1); rintro e w65 ⟨v651, rfl, ho0, hb⟩; refine ⟨_, rfl, ?_⟩; have n0_ := Aside0.mk (Kd.R_below (GS.rR HO_5.out) hb); have n1_ := Aside0.mk (Kd.R_below (GS.rR HO_31.out) hb); have n2_ := Aside0.mk (Kd.R_elder' (GS.rR HO649.out) (Kd.R_base ho0) hb); have n3_ := Aside0.mk (Kd.R_lower (Kd.R_new' ho0 (Kd.R_lt (GS.rR HO649.out))) (lqZ (GS.lB HB.out))); have n4_ := Aside0.mk (bqB (GS.bqX BK620.out) hb); have n5_ := Aside0.mk (lqT (GS.lB HB.out) hb); clear HO_5; clear HO_31; clear HO649; clear BK620; clear HB; have HO_5 := n0_; have HO_31 := n1_; have HO649 := n2_; have HO652 := n3_; have BK620 := n4_; have HB := n5_; clear n0_ n1_ n2_ n3_ n4_ n5_; (try clear hb); (try clear hb2); (try clear hk); (try clear hi); (try clear ho0); obtain ⟨hcz66_0, hcz66_1, hcz66_2, hfz66_0, hfz66_1, hfz66_2⟩ := GS.c3 BK620.out; obtain ⟨Ao67, co67, eo67⟩ := Kd.R_slice HO652.out; subst eo67))
          go_ret
          exact ⟨by first | rfl | (simp [errW_none, errW_some] <;> rfl) | (simp [*, errW_none, errW_some] <;> rfl), GS.lB HB.out⟩
         ·rw [if_neg c61] at H
          exact absurd H (by simp)
       ·rw [if_neg c52] at H
        exact absurd H (by simp)
   ·rw [if_neg c11] at H
    have c11b0 : (t630 == 0) = false := beq_eq_false_iff_ne.mpr c11
    try simp only [beq_self_eq_true, Bool.not_true, Bool.false_or, Bool.true_and] at c11b0
    have c11b1 : (t630 != 0) = true := bne_iff_ne.mpr c11
    obtain rfl := Option.some.inj H
    go_enter Try.func9, Try.ntmps9
    go_wp2_with (first | ((with_reducible refine gqD (N := 2) rfl ?_); (try (refine gate_guard (by rfl) ?_; dsimp only)); refine GS.bx (N := 2) (cs := #[.int .i64 a0_0, .int .i64 a0_1, .slice A0_2 l0_2.length c0_2]) (t := 24) ?_; intro gb620 hg w68 hbox hb; have n0_ := Aside0.mk (lqT (GS.lB HB.out) hb); have n1_ := Aside0.mk (hbox); have n2_ := Aside0.mk ((by rw [hg]; exact (lqZ (GS.lB HB.out)) : w.heap.size ≤ gb620)); have n3_ := Aside0.mk ((by rw [hg]; exact (lqZ (GS.lB HB.out)) : w.heap.size ≤ gb620)); clear HB; have HB := n0_; have BK620 := n1_; have GW620 := n2_; have GE620 := n3_; clear n0_ n1_ n2_ n3_; clear hb hbox hg) | ((with_reducible refine gqC (f := 10) rfl ?_); refine GS.gL (some 14) Try.func10 #[] ?_; (with_reducible refine (spilelaw42_awake.calls k  true _ A3.out).mono ?_); rintro e w69 ⟨rfl, hb⟩; refine ⟨_, rfl, ?_⟩; have n0_ := Aside0.mk (bqB (GS.bqX BK620.out) hb); have n1_ := Aside0.mk (lqT (GS.lB HB.out) hb); clear BK620; clear HB; have BK620 := n0_; have HB := n1_; clear n0_ n1_; (try clear hb); (try clear hb2); (try clear hk); (try clear hi); obtain ⟨hcz70_0, hcz70_1, hcz70_2, hfz70_0, hfz70_1, hfz70_2⟩ := GS.c3 BK620.out) | ((with_reducible refine gqC (f := 15) rfl ?_); refine GS.gL (some 22) Try.func15 #[.agg #[.int .i64 a0_0, .int .i64 a0_1, .slice A0_2 l0_2.length c0_2]] ?_; (with_reducible refine (spileref42_Copy.calls a0_0 a0_1 _ _ l0_2 t622 t623 t624 _ ?side1 ?side2 A9.out).mono ?_); (case side1 => exact GS.rC (Kd.C_below HR0_2.out HB.out)); (case side2 => exact HC0_2.out); rintro e w71 ⟨v625, rfl, ho0, hb⟩; refine ⟨_, rfl, ?_⟩; have n0_ := Aside0.mk (Kd.R_lower ho0 (lqZ (GS.lB HB.out))); have n1_ := Aside0.mk (bqB (GS.bqX BK620.out) hb); have n2_ := Aside0.mk (lqT (GS.lB HB.out) hb); clear BK620; clear HB; have HO626 := n0_; have BK620 := n1_; have HB := n2_; clear n0_ n1_ n2_; (try clear hb); (try clear hb2); (try clear hk); (try clear hi); (try clear ho0); obtain ⟨Ao72, co72, eo72⟩ := Kd.R_slice HO626.out; subst eo72) | ((with_reducible refine gqC (f := 32) rfl ?_); refine GS.gL (some 23) Try.func32 #[.agg #[.int .i64 t622, .int .i64 t623, .slice Ao72 t624.length co72]] ?_; (with_reducible refine (sender_Waits.calls k t622 t623 _ _ t624 t627 t630 _ ?side1 ?side2 A10.out).mono ?_); (case side1 => repeat (first | exact (Kd.R_reads' HO626.out).2.2 | (with_reducible refine Kd.C_alloc ?_ _) | (with_reducible refine Kd.C_drewN ?_ _) | (with_reducible refine Kd.C_drew ?_))); (case side2 => exact (Kd.R_reads' HO626.out).2.1); rintro e w73 ⟨v628, rfl, ho0, hb⟩; refine ⟨_, rfl, ?_⟩; have n0_ := Aside0.mk (Kd.R_below (GS.rR HO626.out) hb); have n1_ := Aside0.mk (Kd.R_lower ho0 (lqZ (GS.lB HB.out))); have n2_ := Aside0.mk (bqB (GS.bqX BK620.out) hb); have n3_ := Aside0.mk (lqT (GS.lB HB.out) hb); clear HO626; clear BK620; clear HB; have HO626 := n0_; have HO629 := n1_; have BK620 := n2_; have HB := n3_; clear n0_ n1_ n2_ n3_; (try clear hb); (try clear hb2); (try clear hk); (try clear hi); (try clear ho0); obtain ⟨Ao74, co74, eo74⟩ := Kd.R_slice HO629.out; subst eo74))
    go_ret
    exact ⟨by first | rfl | (simp [errW_none, errW_some] <;> rfl) | (simp [*, errW_none, errW_some] <;> rfl), GS.lB HB.out⟩
 ·replace c4 := Bool.eq_false_iff.mpr c4
  subst c4
  have H1 : (none) = some r := by rw [if_neg (show ¬ (false = true) by decide)] at H; exact H
  clear H
  have H := H1
  clear H1
  exact absurd H (by simp)

end Go.Proofs.Ytfafeeobjlkjnaa.K
