-- PRINTED by print.py (a twelfth state) out of the translation. Not trusted: Lean checks it.
import Derived.Test.YthboaobgipodiaaK0
import Derived.Test.YthboaobgipodiaaGPu
import Derived.Test.YthboaobgipodiaaGShort
import Derived.Test.YthboaobgipodiaaK20
import Derived.Test.YthboaobgipodiaaK21
import Derived.Test.YthboaobgipodiaaK22
namespace Go.Proofs.Ythboaobgipodiaa.K
open Go.RowKit Go.Proofs.YthboaobgipodiaaW.PrintWords Go.Proofs.YthboaobgipodiaaW.PrintLast Go.Proofs.YthboaobgipodiaaW.PrintMore
attribute [local go_sem] max2_int min2_int max_two min_two max_three min_three max_four min_four   -- for this text's walks alone
set_option linter.unusedVariables false
set_option linter.unusedSimpArgs false

/-! ### spileref51_caused: function 42 -/
def spileref51_caused.f (k : Nat) (a0_0 : Int) (l0_1 : List (S60)) (a1_0 : Int) (a1_1 : Int) (a1_2 : Int) (a1_3 : Int) (a1_4 : Int) (a2_0 : Int) (a2_1 : Int) (a2_2 : Int) (a2_3 : Int) : Option (Int) := (spileref46_Force.f k a0_0 l0_1 a1_2 a2_3).bind fun bt584 => (if bt584.2.2.2 = true then (if a2_2 = 0 then (some 0) else ((spileref46_Amount.f k a0_0 bt584.2.2.1 a2_2).bind fun t589 => (some t589))) else (some 0))
theorem spileref51_caused.mono : ∀ a0 a1 a2 a3 a4 a5 a6 a7 a8 a9 a10 k, LeO (spileref51_caused.f k a0 a1 a2 a3 a4 a5 a6 a7 a8 a9 a10) (spileref51_caused.f (k + 1) a0 a1 a2 a3 a4 a5 a6 a7 a8 a9 a10) := by
 intro a0 a1 a2 a3 a4 a5 a6 a7 a8 a9 a10 k
 unfold spileref51_caused.f
 repeat' first
   | (with_reducible exact spileref46_Amount.mono _ _ _ _)
   | (with_reducible exact spileref46_Force.mono _ _ _ _ _)
   | (with_reducible exact LeO.refl _)
   | (with_reducible exact LeO.none _)
   | (with_reducible refine LeO.ite ?_ ?_)
   | (with_reducible refine LeO.bind ?_ (fun _ => ?_))
   | exact spileref46_Amount.mono _ _ _ _
   | exact spileref46_Force.mono _ _ _ _ _
   | exact LeO.none _
   | refine LeO.ite ?_ ?_
   | refine LeO.bind ?_ (fun _ => ?_)
set_option maxHeartbeats 8000000 in
set_option maxRecDepth 100000 in
theorem spileref51_caused.calls (k : Nat) (a0_0 : Int) (A0_1 : Option Addr) (c0_1 : Nat) (l0_1 : List (S60)) (a1_0 : Int) (a1_1 : Int) (a1_2 : Int) (a1_3 : Int) (a1_4 : Int) (a2_0 : Int) (a2_1 : Int) (a2_2 : Int) (a2_3 : Int) (r : Int) (w : World) (hr0_1 : Kd.C k60 w A0_1 l0_1.length l0_1) (hc0_1 : l0_1.length ≤ c0_1) (h : spileref51_caused.f k a0_0 l0_1 a1_0 a1_1 a1_2 a1_3 a1_4 a2_0 a2_1 a2_2 a2_3 = some r) :
  Calls Try.prog 42 #[.agg #[.int .i64 a0_0, .slice A0_1 l0_1.length c0_1], .agg #[.int .i64 a1_0, .int .i64 a1_1, .int .i64 a1_2, .int .i64 a1_3, .int .i64 a1_4], .agg #[.int .i64 a2_0, .int .i64 a2_1, .int .i64 a2_2, .int .i64 a2_3]] w fun e w' => e = .returned (.int .i64 r) ∧ Below w.heap.size w w' := by
 have hu24 := Try.underlying24
 have hu35 := Try.underlying35
 have hu51 := Try.underlying51
 have hu60 := Try.underlying60
 have HR0_1 := Aside0.mk hr0_1
 have HC0_1 := Aside0.mk hc0_1
 clear hr0_1 hc0_1
 have HB := Aside0.mk (Below.refl w.heap.size w)
 have H : ((spileref46_Force.f k a0_0 l0_1 a1_2 a2_3).bind fun bt584 => (if bt584.2.2.2 = true then (if a2_2 = 0 then (some 0) else ((spileref46_Amount.f k a0_0 bt584.2.2.1 a2_2).bind fun t589 => (some t589))) else (some 0))) = some r := h
 clear h
 replace H := Option.bind_eq_some_iff.mp H
 obtain ⟨⟨t584, t585, t586, t587⟩, A40, H⟩ := H
 replace H : (if t587 = true then (if a2_2 = 0 then (some 0) else ((spileref46_Amount.f k a0_0 t586 a2_2).bind fun t589 => (some t589))) else (some 0)) = some r := H
 have A4 := Aside0.mk A40
 clear A40
 by_cases c5 : t587 = true
 ·subst c5
  have H1 : (if a2_2 = 0 then (some 0) else ((spileref46_Amount.f k a0_0 t586 a2_2).bind fun t589 => (some t589))) = some r := by rw [if_pos rfl] at H; exact H
  clear H
  have H := H1
  clear H1
  by_cases c6 : a2_2 = 0
  ·rw [if_pos c6] at H
   have c6b0 : (a2_2 == 0) = true := beq_iff_eq.mpr c6
   try simp only [beq_self_eq_true, Bool.not_true, Bool.false_or, Bool.true_and] at c6b0
   have c6b1 : (a2_2 != 0) = false := bne_eq_false_iff_eq.mpr c6
   clear c6
   obtain rfl := Option.some.inj H
   go_enter Try.func42, Try.ntmps42
   go_wp2_with (first | ((with_reducible refine gqD (N := 3) rfl ?_); refine GS.bx (N := 3) (cs := #[.int .i64 a0_0, .slice A0_1 l0_1.length c0_1]) (t := 24) ?_; intro gb581 hg w7 hbox hb; have n0_ := Aside0.mk (lqT (GS.lB HB.out) hb); have n1_ := Aside0.mk (hbox); have n2_ := Aside0.mk ((by rw [hg]; exact (lqZ (GS.lB HB.out)) : w.heap.size ≤ gb581)); have n3_ := Aside0.mk ((by rw [hg]; exact (lqZ (GS.lB HB.out)) : w.heap.size ≤ gb581)); clear HB; have HB := n0_; have BK581 := n1_; have GW581 := n2_; have GE581 := n3_; clear n0_ n1_ n2_ n3_; clear hb hbox hg) | ((with_reducible refine gqD (N := 4) rfl ?_); refine GS.bx (N := 4) (cs := #[.int .i64 a1_0, .int .i64 a1_1, .int .i64 a1_2, .int .i64 a1_3, .int .i64 a1_4]) (t := 35) ?_; intro gb582 hg w8 hbox hb; have n0_ := Aside0.mk (bqB (GS.bqX BK581.out) hb); have n1_ := Aside0.mk (lqT (GS.lB HB.out) hb); have n2_ := Aside0.mk (hbox); have n3_ := Aside0.mk ((by rw [hg]; exact (lqZ (GS.lB HB.out)) : w.heap.size ≤ gb582)); have n4_ := Aside0.mk ((by rw [hg]; exact (lqZ (GS.lB HB.out)) : w.heap.size ≤ gb582)); have n5_ := Aside0.mk ((by rw [hg]; exact Nat.ne_of_lt (blk_lt (GS.bqX BK581.out)) : gb581 ≠ gb582)); have n6_ := Aside0.mk ((by rw [hg]; exact Nat.ne_of_gt (blk_lt (GS.bqX BK581.out)) : gb582 ≠ gb581)); clear BK581; clear HB; have BK581 := n0_; have HB := n1_; have BK582 := n2_; have GW582 := n3_; have GE582 := n4_; have NB581_582 := n5_; have NB582_581 := n6_; clear n0_ n1_ n2_ n3_ n4_ n5_ n6_; clear hb hbox hg) | ((with_reducible refine gqD (N := 5) rfl ?_); refine GS.bx (N := 5) (cs := #[.int .i64 a2_0, .int .i64 a2_1, .int .i64 a2_2, .int .i64 a2_3]) (t := 51) ?_; intro gb583 hg w9 hbox hb; have n0_ := Aside0.mk (bqB (GS.bqX BK581.out) hb); have n1_ := Aside0.mk (bqB (GS.bqX BK582.out) hb); have n2_ := Aside0.mk (lqT (GS.lB HB.out) hb); have n3_ := Aside0.mk (hbox); have n4_ := Aside0.mk ((by rw [hg]; exact (lqZ (GS.lB HB.out)) : w.heap.size ≤ gb583)); have n5_ := Aside0.mk ((by rw [hg]; exact (lqZ (GS.lB HB.out)) : w.heap.size ≤ gb583)); have n6_ := Aside0.mk ((by rw [hg]; exact Nat.ne_of_lt (blk_lt (GS.bqX BK581.out)) : gb581 ≠ gb583)); have n7_ := Aside0.mk ((by rw [hg]; exact Nat.ne_of_gt (blk_lt (GS.bqX BK581.out)) : gb583 ≠ gb581)); have n8_ := Aside0.mk ((by rw [hg]; exact Nat.ne_of_lt (blk_lt (GS.bqX BK582.out)) : gb582 ≠ gb583)); have n9_ := Aside0.mk ((by rw [hg]; exact Nat.ne_of_gt (blk_lt (GS.bqX BK582.out)) : gb583 ≠ gb582)); clear BK581; clear BK582; clear HB; have BK581 := n0_; have BK582 := n1_; have HB := n2_; have BK583 := n3_; have GW583 := n4_; have GE583 := n5_; have NB581_583 := n6_; have NB583_581 := n7_; have NB582_583 := n8_; have NB583_582 := n9_; clear n0_ n1_ n2_ n3_ n4_ n5_ n6_ n7_ n8_ n9_; clear hb hbox hg; have hnb10 := NB581_582.out; have hnc10 := NB582_581.out; have hnb11 := NB581_583.out; have hnc11 := NB583_581.out; obtain ⟨hcz12_0, hcz12_1, hfz12_0, hfz12_1⟩ := GS.c2 BK581.out; have hnb13 := NB582_583.out; have hnc13 := NB583_582.out; obtain ⟨hcz14_0, hcz14_1, hcz14_2, hcz14_3, hcz14_4, hfz14_0, hfz14_1, hfz14_2, hfz14_3, hfz14_4⟩ := GS.c5 BK582.out; obtain ⟨hcz15_0, hcz15_1, hcz15_2, hcz15_3, hfz15_0, hfz15_1, hfz15_2, hfz15_3⟩ := GS.c4 BK583.out) | ((with_reducible refine gqC (f := 57) rfl ?_); refine GS.gL (some 15) Try.func57 #[.agg #[.int .i64 a0_0, .slice A0_1 l0_1.length c0_1], .int .i64 a1_2, .int .i64 a2_3] ?_; (with_reducible refine (spileref46_Force.calls k a0_0 _ _ l0_1 a1_2 a2_3 t584 t585 t586 true _ ?side1 ?side2 A4.out).mono ?_); (case side1 => exact GS.rC (Kd.C_below HR0_1.out HB.out)); (case side2 => exact HC0_1.out); rintro e w16 ⟨rfl, hb⟩; refine ⟨_, rfl, ?_⟩; have n0_ := Aside0.mk (bqB (GS.bqX BK581.out) hb); have n1_ := Aside0.mk (bqB (GS.bqX BK582.out) hb); have n2_ := Aside0.mk (bqB (GS.bqX BK583.out) hb); have n3_ := Aside0.mk (lqT (GS.lB HB.out) hb); clear BK581; clear BK582; clear BK583; clear HB; have BK581 := n0_; have BK582 := n1_; have BK583 := n2_; have HB := n3_; clear n0_ n1_ n2_ n3_; (try clear hb); (try clear hb2); (try clear hk); (try clear hi)) | ((with_reducible refine gqD (N := 7) rfl ?_); refine GS.bx (N := 7) (cs := #[.int .i64 0, .int .i64 0, .int .i64 0]) (t := 60) ?_; intro gb588 hg w17 hbox hb; have n0_ := Aside0.mk (bqB (GS.bqX BK581.out) hb); have n1_ := Aside0.mk (bqB (GS.bqX BK582.out) hb); have n2_ := Aside0.mk (bqB (GS.bqX BK583.out) hb); have n3_ := Aside0.mk (lqT (GS.lB HB.out) hb); have n4_ := Aside0.mk (hbox); have n5_ := Aside0.mk ((by rw [hg]; exact (lqZ (GS.lB HB.out)) : w.heap.size ≤ gb588)); have n6_ := Aside0.mk ((by rw [hg]; exact (lqZ (GS.lB HB.out)) : w.heap.size ≤ gb588)); have n7_ := Aside0.mk ((by rw [hg]; exact Nat.ne_of_lt (blk_lt (GS.bqX BK581.out)) : gb581 ≠ gb588)); have n8_ := Aside0.mk ((by rw [hg]; exact Nat.ne_of_gt (blk_lt (GS.bqX BK581.out)) : gb588 ≠ gb581)); have n9_ := Aside0.mk ((by rw [hg]; exact Nat.ne_of_lt (blk_lt (GS.bqX BK582.out)) : gb582 ≠ gb588)); have n10_ := Aside0.mk ((by rw [hg]; exact Nat.ne_of_gt (blk_lt (GS.bqX BK582.out)) : gb588 ≠ gb582)); have n11_ := Aside0.mk ((by rw [hg]; exact Nat.ne_of_lt (blk_lt (GS.bqX BK583.out)) : gb583 ≠ gb588)); have n12_ := Aside0.mk ((by rw [hg]; exact Nat.ne_of_gt (blk_lt (GS.bqX BK583.out)) : gb588 ≠ gb583)); clear BK581; clear BK582; clear BK583; clear HB; have BK581 := n0_; have BK582 := n1_; have BK583 := n2_; have HB := n3_; have BK588 := n4_; have GW588 := n5_; have GE588 := n6_; have NB581_588 := n7_; have NB588_581 := n8_; have NB582_588 := n9_; have NB588_582 := n10_; have NB583_588 := n11_; have NB588_583 := n12_; clear n0_ n1_ n2_ n3_ n4_ n5_ n6_ n7_ n8_ n9_ n10_ n11_ n12_; clear hb hbox hg; have hnb18 := NB588_581.out; have hnc18 := NB581_588.out; have hnb19 := NB588_582.out; have hnc19 := NB582_588.out; have hnb20 := NB588_583.out; have hnc20 := NB583_588.out; obtain ⟨hcz21_0, hcz21_1, hcz21_2, hfz21_0, hfz21_1, hfz21_2⟩ := GS.c3 BK588.out; obtain ⟨hcz22_0, hcz22_1, hcz22_2, hcz22_3, hfz22_0, hfz22_1, hfz22_2, hfz22_3⟩ := GS.c4 BK583.out))
   go_ret
   exact ⟨by first | rfl | (simp [errW_none, errW_some] <;> rfl) | (simp [*, errW_none, errW_some] <;> rfl), GS.lB HB.out⟩
  ·rw [if_neg c6] at H
   have c6b0 : (a2_2 == 0) = false := beq_eq_false_iff_ne.mpr c6
   try simp only [beq_self_eq_true, Bool.not_true, Bool.false_or, Bool.true_and] at c6b0
   have c6b1 : (a2_2 != 0) = true := bne_iff_ne.mpr c6
   replace H := Option.bind_eq_some_iff.mp H
   obtain ⟨t589, A230, H⟩ := H
   replace H : (some t589) = some r := H
   have A23 := Aside0.mk A230
   clear A230
   obtain rfl := Option.some.inj H
   go_enter Try.func42, Try.ntmps42
   go_wp2_with (first | ((with_reducible refine gqD (N := 3) rfl ?_); refine GS.bx (N := 3) (cs := #[.int .i64 a0_0, .slice A0_1 l0_1.length c0_1]) (t := 24) ?_; intro gb581 hg w24 hbox hb; have n0_ := Aside0.mk (lqT (GS.lB HB.out) hb); have n1_ := Aside0.mk (hbox); have n2_ := Aside0.mk ((by rw [hg]; exact (lqZ (GS.lB HB.out)) : w.heap.size ≤ gb581)); have n3_ := Aside0.mk ((by rw [hg]; exact (lqZ (GS.lB HB.out)) : w.heap.size ≤ gb581)); clear HB; have HB := n0_; have BK581 := n1_; have GW581 := n2_; have GE581 := n3_; clear n0_ n1_ n2_ n3_; clear hb hbox hg) | ((with_reducible refine gqD (N := 4) rfl ?_); refine GS.bx (N := 4) (cs := #[.int .i64 a1_0, .int .i64 a1_1, .int .i64 a1_2, .int .i64 a1_3, .int .i64 a1_4]) (t := 35) ?_; intro gb582 hg w25 hbox hb; have n0_ := Aside0.mk (bqB (GS.bqX BK581.out) hb); have n1_ := Aside0.mk (lqT (GS.lB HB.out) hb); have n2_ := Aside0.mk (hbox); have n3_ := Aside0.mk ((by rw [hg]; exact (lqZ (GS.lB HB.out)) : w.heap.size ≤ gb582)); have n4_ := Aside0.mk ((by rw [hg]; exact (lqZ (GS.lB HB.out)) : w.heap.size ≤ gb582)); have n5_ := Aside0.mk ((by rw [hg]; exact Nat.ne_of_lt (blk_lt (GS.bqX BK581.out)) : gb581 ≠ gb582)); have n6_ := Aside0.mk ((by rw [hg]; exact Nat.ne_of_gt (blk_lt (GS.bqX BK581.out)) : gb582 ≠ gb581)); clear BK581; clear HB; have BK581 := n0_; have HB := n1_; have BK582 := n2_; have GW582 := n3_; have GE582 := n4_; have NB581_582 := n5_; have NB582_581 := n6_; clear n0_ n1_ n2_ n3_ n4_ n5_ n6_; clear hb hbox hg) | ((with_reducible refine gqD (N := 5) rfl ?_); refine GS.bx (N := 5) (cs := #[.int .i64 a2_0, .int .i64 a2_1, .int .i64 a2_2, .int .i64 a2_3]) (t := 51) ?_; intro gb583 hg w26 hbox hb; have n0_ := Aside0.mk (bqB (GS.bqX BK581.out) hb); have n1_ := Aside0.mk (bqB (GS.bqX BK582.out) hb); have n2_ := Aside0.mk (lqT (GS.lB HB.out) hb); have n3_ := Aside0.mk (hbox); have n4_ := Aside0.mk ((by rw [hg]; exact (lqZ (GS.lB HB.out)) : w.heap.size ≤ gb583)); have n5_ := Aside0.mk ((by rw [hg]; exact (lqZ (GS.lB HB.out)) : w.heap.size ≤ gb583)); have n6_ := Aside0.mk ((by rw [hg]; exact Nat.ne_of_lt (blk_lt (GS.bqX BK581.out)) : gb581 ≠ gb583)); have n7_ := Aside0.mk ((by rw [hg]; exact Nat.ne_of_gt (blk_lt (GS.bqX BK581.out)) : gb583 ≠ gb581)); have n8_ := Aside0.mk ((by rw [hg]; exact Nat.ne_of_lt (blk_lt (GS.bqX BK582.out)) : gb582 ≠ gb583)); have n9_ := Aside0.mk ((by rw [hg]; exact Nat.ne_of_gt (blk_lt (GS.bqX BK582.out)) : gb583 ≠ gb582)); clear BK581; clear BK582; clear HB; have BK581 := n0_; have BK582 := n1_; have HB := n2_; have BK583 := n3_; have GW583 := n4_; have GE583 := n5_; have NB581_583 := n6_; have NB583_581 := n7_; have NB582_583 := n8_; have NB583_582 := n9_; clear n0_ n1_ n2_ n3_ n4_ n5_ n6_ n7_ n8_ n9_; clear hb hbox hg; have hnb27 := NB581_582.out; have hnc27 := NB582_581.out; have hnb28 := NB581_583.out; have hnc28 := NB583_581.out; obtain ⟨hcz29_0, hcz29_1, hfz29_0, hfz29_1⟩ := GS.c2 BK581.out; have hnb30 := NB582_583.out; have hnc30 := NB583_582.out; obtain ⟨hcz31_0, hcz31_1, hcz31_2, hcz31_3, hcz31_4, hfz31_0, hfz31_1, hfz31_2, hfz31_3, hfz31_4⟩ := GS.c5 BK582.out; obtain ⟨hcz32_0, hcz32_1, hcz32_2, hcz32_3, hfz32_0, hfz32_1, hfz32_2, hfz32_3⟩ := GS.c4 BK583.out) | ((with_reducible refine gqC (f := 57) rfl ?_); refine GS.gL (some 15) Try.func57 #[.agg #[.int .i64 a0_0, .slice A0_1 l0_1.length c0_1], .int .i64 a1_2, .int .i64 a2_3] ?_; (with_reducible refine (spileref46_Force.calls k a0_0 _ _ l0_1 a1_2 a2_3 t584 t585 t586 true _ ?side1 ?side2 A4.out).mono ?_); (case side1 => exact GS.rC (Kd.C_below HR0_1.out HB.out)); (case side2 => exact HC0_1.out); rintro e w33 ⟨rfl, hb⟩; refine ⟨_, rfl, ?_⟩; have n0_ := Aside0.mk (bqB (GS.bqX BK581.out) hb); have n1_ := Aside0.mk (bqB (GS.bqX BK582.out) hb); have n2_ := Aside0.mk (bqB (GS.bqX BK583.out) hb); have n3_ := Aside0.mk (lqT (GS.lB HB.out) hb); clear BK581; clear BK582; clear BK583; clear HB; have BK581 := n0_; have BK582 := n1_; have BK583 := n2_; have HB := n3_; clear n0_ n1_ n2_ n3_; (try clear hb); (try clear hb2); (try clear hk); (try clear hi)) | ((with_reducible refine gqD (N := 7) rfl ?_); refine GS.bx (N := 7) (cs := #[.int .i64 0, .int .i64 0, .int .i64 0]) (t := 60) ?_; intro gb588 hg w34 hbox hb; have n0_ := Aside0.mk (bqB (GS.bqX BK581.out) hb); have n1_ := Aside0.mk (bqB (GS.bqX BK582.out) hb); have n2_ := Aside0.mk (bqB (GS.bqX BK583.out) hb); have n3_ := Aside0.mk (lqT (GS.lB HB.out) hb); have n4_ := Aside0.mk (hbox); have n5_ := Aside0.mk ((by rw [hg]; exact (lqZ (GS.lB HB.out)) : w.heap.size ≤ gb588)); have n6_ := Aside0.mk ((by rw [hg]; exact (lqZ (GS.lB HB.out)) : w.heap.size ≤ gb588)); have n7_ := Aside0.mk ((by rw [hg]; exact Nat.ne_of_lt (blk_lt (GS.bqX BK581.out)) : gb581 ≠ gb588)); have n8_ := Aside0.mk ((by rw [hg]; exact Nat.ne_of_gt (blk_lt (GS.bqX BK581.out)) : gb588 ≠ gb581)); have n9_ := Aside0.mk ((by rw [hg]; exact Nat.ne_of_lt (blk_lt (GS.bqX BK582.out)) : gb582 ≠ gb588)); have n10_ := Aside0.mk ((by rw [hg]; exact Nat.ne_of_gt (blk_lt (GS.bqX BK582.out)) : gb588 ≠ gb582)); have n11_ := Aside0.mk ((by rw [hg]; exact Nat.ne_of_lt (blk_lt (GS.bqX BK583.out)) : gb583 ≠ gb588)); have n12_ := Aside0.mk ((by rw [hg]; exact Nat.ne_of_gt (blk_lt (GS.bqX BK583.out)) : gb588 ≠ gb583)); clear BK581; clear BK582; clear BK583; clear HB; have BK581 := n0_; have BK582 := n1_; have BK583 := n2_; have HB := n3_; have BK588 := n4_; have GW588 := n5_; have GE588 := n6_; have NB581_588 := n7_; have NB588_581 := n8_; have NB582_588 := n9_; have NB588_582 := n10_; have NB583_588 := n11_; have NB588_583 := n12_; clear n0_ n1_ n2_ n3_ n4_ n5_ n6_ n7_ n8_ n9_ n10_ n11_ n12_; clear hb hbox hg; have hnb35 := NB588_581.out; have hnc35 := NB581_588.out; have hnb36 := NB588_582.out; have hnc36 := NB582_588.out; have hnb37 := NB588_583.out; have hnc37 := NB583_588.out; obtain ⟨hcz38_0, hcz38_1, hcz38_2, hfz38_0, hfz38_1, hfz38_2⟩ := GS.c3 BK588.out; obtain ⟨hcz39_0, hcz39_1, hcz39_2, hcz39_3, hfz39_0, hfz39_1, hfz39_2, hfz39_3⟩ := GS.c4 BK583.out; obtain ⟨hcz40_0, hcz40_1, hfz40_0, hfz40_1⟩ := GS.c2 BK581.out) | ((with_reducible refine gqC (f := 49) rfl ?_); refine GS.gL (some 31) Try.func49 #[.int .i64 a0_0, .int .i64 t586, .int .i64 a2_2] ?_; (with_reducible refine (spileref46_Amount.calls k a0_0 t586 a2_2 t589 _ A23.out).mono ?_); rintro e w' ⟨rfl, ⟨nd, rfl⟩⟩; refine ⟨_, rfl, ?_⟩))
   go_ret
   exact ⟨by first | rfl | (simp [errW_none, errW_some] <;> rfl) | (simp [*, errW_none, errW_some] <;> rfl), GS.lB HB.out⟩
 ·replace c5 := Bool.eq_false_iff.mpr c5
  subst c5
  have H1 : (some 0) = some r := by rw [if_neg (show ¬ (false = true) by decide)] at H; exact H
  clear H
  have H := H1
  clear H1
  obtain rfl := Option.some.inj H
  go_enter Try.func42, Try.ntmps42
  go_wp2_with (first | ((with_reducible refine gqD (N := 3) rfl ?_); refine GS.bx (N := 3) (cs := #[.int .i64 a0_0, .slice A0_1 l0_1.length c0_1]) (t := 24) ?_; intro gb581 hg w41 hbox hb; have n0_ := Aside0.mk (lqT (GS.lB HB.out) hb); have n1_ := Aside0.mk (hbox); have n2_ := Aside0.mk ((by rw [hg]; exact (lqZ (GS.lB HB.out)) : w.heap.size ≤ gb581)); have n3_ := Aside0.mk ((by rw [hg]; exact (lqZ (GS.lB HB.out)) : w.heap.size ≤ gb581)); clear HB; have HB := n0_; have BK581 := n1_; have GW581 := n2_; have GE581 := n3_; clear n0_ n1_ n2_ n3_; clear hb hbox hg) | ((with_reducible refine gqD (N := 4) rfl ?_); refine GS.bx (N := 4) (cs := #[.int .i64 a1_0, .int .i64 a1_1, .int .i64 a1_2, .int .i64 a1_3, .int .i64 a1_4]) (t := 35) ?_; intro gb582 hg w42 hbox hb; have n0_ := Aside0.mk (bqB (GS.bqX BK581.out) hb); have n1_ := Aside0.mk (lqT (GS.lB HB.out) hb); have n2_ := Aside0.mk (hbox); have n3_ := Aside0.mk ((by rw [hg]; exact (lqZ (GS.lB HB.out)) : w.heap.size ≤ gb582)); have n4_ := Aside0.mk ((by rw [hg]; exact (lqZ (GS.lB HB.out)) : w.heap.size ≤ gb582)); have n5_ := Aside0.mk ((by rw [hg]; exact Nat.ne_of_lt (blk_lt (GS.bqX BK581.out)) : gb581 ≠ gb582)); have n6_ := Aside0.mk ((by rw [hg]; exact Nat.ne_of_gt (blk_lt (GS.bqX BK581.out)) : gb582 ≠ gb581)); clear BK581; clear HB; have BK581 := n0_; have HB := n1_; have BK582 := n2_; have GW582 := n3_; have GE582 := n4_; have NB581_582 := n5_; have NB582_581 := n6_; clear n0_ n1_ n2_ n3_ n4_ n5_ n6_; clear hb hbox hg) | ((with_reducible refine gqD (N := 5) rfl ?_); refine GS.bx (N := 5) (cs := #[.int .i64 a2_0, .int .i64 a2_1, .int .i64 a2_2, .int .i64 a2_3]) (t := 51) ?_; intro gb583 hg w43 hbox hb; have n0_ := Aside0.mk (bqB (GS.bqX BK581.out) hb); have n1_ := Aside0.mk (bqB (GS.bqX BK582.out) hb); have n2_ := Aside0.mk (lqT (GS.lB HB.out) hb); have n3_ := Aside0.mk (hbox); have n4_ := Aside0.mk ((by rw [hg]; exact (lqZ (GS.lB HB.out)) : w.heap.size ≤ gb583)); have n5_ := Aside0.mk ((by rw [hg]; exact (lqZ (GS.lB HB.out)) : w.heap.size ≤ gb583)); have n6_ := Aside0.mk ((by rw [hg]; exact Nat.ne_of_lt (blk_lt (GS.bqX BK581.out)) : gb581 ≠ gb583)); have n7_ := Aside0.mk ((by rw [hg]; exact Nat.ne_of_gt (blk_lt (GS.bqX BK581.out)) : gb583 ≠ gb581)); have n8_ := Aside0.mk ((by rw [hg]; exact Nat.ne_of_lt (blk_lt (GS.bqX BK582.out)) : gb582 ≠ gb583)); have n9_ := Aside0.mk ((by rw [hg]; exact Nat.ne_of_gt (blk_lt (GS.bqX BK582.out)) : gb583 ≠ gb582)); clear BK581; clear BK582; clear HB; have BK581 := n0_; have BK582 := n1_; have HB := n2_; have BK583 := n3_; have GW583 := n4_; have GE583 := n5_; have NB581_583 := n6_; have NB583_581 := n7_; have NB582_583 := n8_; have NB583_582 := n9_; clear n0_ n1_ n2_ n3_ n4_ n5_ n6_ n7_ n8_ n9_; clear hb hbox hg; have hnb44 := NB581_582.out; have hnc44 := NB582_581.out; have hnb45 := NB581_583.out; have hnc45 := NB583_581.out; obtain ⟨hcz46_0, hcz46_1, hfz46_0, hfz46_1⟩ := GS.c2 BK581.out; have hnb47 := NB582_583.out; have hnc47 := NB583_582.out; obtain ⟨hcz48_0, hcz48_1, hcz48_2, hcz48_3, hcz48_4, hfz48_0, hfz48_1, hfz48_2, hfz48_3, hfz48_4⟩ := GS.c5 BK582.out; obtain ⟨hcz49_0, hcz49_1, hcz49_2, hcz49_3, hfz49_0, hfz49_1, hfz49_2, hfz49_3⟩ := GS.c4 BK583.out) | ((with_reducible refine gqC (f := 57) rfl ?_); refine GS.gL (some 15) Try.func57 #[.agg #[.int .i64 a0_0, .slice A0_1 l0_1.length c0_1], .int .i64 a1_2, .int .i64 a2_3] ?_; (with_reducible refine (spileref46_Force.calls k a0_0 _ _ l0_1 a1_2 a2_3 t584 t585 t586 false _ ?side1 ?side2 A4.out).mono ?_); (case side1 => exact GS.rC (Kd.C_below HR0_1.out HB.out)); (case side2 => exact HC0_1.out); rintro e w50 ⟨rfl, hb⟩; refine ⟨_, rfl, ?_⟩; have n0_ := Aside0.mk (bqB (GS.bqX BK581.out) hb); have n1_ := Aside0.mk (bqB (GS.bqX BK582.out) hb); have n2_ := Aside0.mk (bqB (GS.bqX BK583.out) hb); have n3_ := Aside0.mk (lqT (GS.lB HB.out) hb); clear BK581; clear BK582; clear BK583; clear HB; have BK581 := n0_; have BK582 := n1_; have BK583 := n2_; have HB := n3_; clear n0_ n1_ n2_ n3_; (try clear hb); (try clear hb2); (try clear hk); (try clear hi)) | ((with_reducible refine gqD (N := 7) rfl ?_); refine GS.bx (N := 7) (cs := #[.int .i64 0, .int .i64 0, .int .i64 0]) (t := 60) ?_; intro gb588 hg w51 hbox hb; have n0_ := Aside0.mk (bqB (GS.bqX BK581.out) hb); have n1_ := Aside0.mk (bqB (GS.bqX BK582.out) hb); have n2_ := Aside0.mk (bqB (GS.bqX BK583.out) hb); have n3_ := Aside0.mk (lqT (GS.lB HB.out) hb); have n4_ := Aside0.mk (hbox); have n5_ := Aside0.mk ((by rw [hg]; exact (lqZ (GS.lB HB.out)) : w.heap.size ≤ gb588)); have n6_ := Aside0.mk ((by rw [hg]; exact (lqZ (GS.lB HB.out)) : w.heap.size ≤ gb588)); have n7_ := Aside0.mk ((by rw [hg]; exact Nat.ne_of_lt (blk_lt (GS.bqX BK581.out)) : gb581 ≠ gb588)); have n8_ := Aside0.mk ((by rw [hg]; exact Nat.ne_of_gt (blk_lt (GS.bqX BK581.out)) : gb588 ≠ gb581)); have n9_ := Aside0.mk ((by rw [hg]; exact Nat.ne_of_lt (blk_lt (GS.bqX BK582.out)) : gb582 ≠ gb588)); have n10_ := Aside0.mk ((by rw [hg]; exact Nat.ne_of_gt (blk_lt (GS.bqX BK582.out)) : gb588 ≠ gb582)); have n11_ := Aside0.mk ((by rw [hg]; exact Nat.ne_of_lt (blk_lt (GS.bqX BK583.out)) : gb583 ≠ gb588)); have n12_ := Aside0.mk ((by rw [hg]; exact Nat.ne_of_gt (blk_lt (GS.bqX BK583.out)) : gb588 ≠ gb583)); clear BK581; clear BK582; clear BK583; clear HB; have BK581 := n0_; have BK582 := n1_; have BK583 := n2_; have HB := n3_; have BK588 := n4_; have GW588 := n5_; have GE588 := n6_; have NB581_588 := n7_; have NB588_581 := n8_; have NB582_588 := n9_; have NB588_582 := n10_; have NB583_588 := n11_; have NB588_583 := n12_; clear n0_ n1_ n2_ n3_ n4_ n5_ n6_ n7_ n8_ n9_ n10_ n11_ n12_; clear hb hbox hg; have hnb52 := NB588_581.out; have hnc52 := NB581_588.out; have hnb53 := NB588_582.out; have hnc53 := NB582_588.out; have hnb54 := NB588_583.out; have hnc54 := NB583_588.out; obtain ⟨hcz55_0, hcz55_1, hcz55_2, hfz55_0, hfz55_1, hfz55_2⟩ := GS.c3 BK588.out))
  go_ret
  exact ⟨by first | rfl | (simp [errW_none, errW_some] <;> rfl) | (simp [*, errW_none, errW_some] <;> rfl), GS.lB HB.out⟩

/-! ### spileref51_Sum: function 23 -/
def spileref51_Sum.l0 : Nat → List (S35) → List (S51) → Int → Int → Int → Int → List (S60) → Option (Int × Int)
 | 0, _, _, _, _, _, _, _ => none
 | k + 1, x1, x2, x3, x11, x12, x591000, x591001 => if x12 < (x1.length : Int) then (if 0 ≤ x12 then (if x12 < (x2.length : Int) then ((spileref51_Fits.f k ((rd_T35 x1 x12).f0) ((rd_T35 x1 x12).f1) ((rd_T35 x1 x12).f2) ((rd_T35 x1 x12).f3) ((rd_T35 x1 x12).f4) ((rd_T51 x2 x12).f0) ((rd_T51 x2 x12).f1) ((rd_T51 x2 x12).f2) ((rd_T51 x2 x12).f3) x3).bind fun t595 => (if t595 = true then ((spileref51_caused.f k x591000 x591001 ((rd_T35 x1 x12).f0) ((rd_T35 x1 x12).f1) ((rd_T35 x1 x12).f2) ((rd_T35 x1 x12).f3) ((rd_T35 x1 x12).f4) ((rd_T51 x2 x12).f0) ((rd_T51 x2 x12).f1) ((rd_T51 x2 x12).f2) ((rd_T51 x2 x12).f3)).bind fun t598 => (spileref51_Sum.l0 k x1 x2 x3 (wrap64 (x11 + t598)) (wrap64 (x12 + 1)) x591000 x591001)) else (some (0, 10)))) else (none)) else (none)) else (some (x11, 0))
def spileref51_Sum.f (k : Nat) (a0_0 : Int) (l0_1 : List (S60)) (l1 : List (S35)) (l2 : List (S51)) (a3 : Int) : Option (Int × Int) := (spileref51_asked.f k a0_0 l0_1 l1 a3).bind fun t591 => (if t591 = 0 then ((spileref51_later.f k l1 a3).bind fun t592 => (if t592 = true then (some (0, 11)) else (if (l2.length : Int) = (l1.length : Int) then (spileref51_Sum.l0 k l1 l2 a3 0 0 a0_0 l0_1) else (some (0, 10))))) else (some (0, t591)))
theorem spileref51_Sum.mono_l : ∀ k, (∀ y0 y1 y2 y3 y4 y5 y6, LeO (spileref51_Sum.l0 k y0 y1 y2 y3 y4 y5 y6) (spileref51_Sum.l0 (k + 1) y0 y1 y2 y3 y4 y5 y6))
 | 0 => fun _ _ _ _ _ _ _ r h => by simp [spileref51_Sum.l0] at h
 | k + 1 => by
  have ih0 := spileref51_Sum.mono_l k
  ·intro y0 y1 y2 y3 y4 y5 y6
   unfold spileref51_Sum.l0
   repeat' first
   | (with_reducible exact ih0 _ _ _ _ _ _ _)
   | (with_reducible exact spileref51_Fits.mono _ _ _ _ _ _ _ _ _ _ _)
   | (with_reducible exact spileref51_asked.mono _ _ _ _ _)
   | (with_reducible exact spileref51_caused.mono _ _ _ _ _ _ _ _ _ _ _ _)
   | (with_reducible exact spileref51_later.mono _ _ _)
   | (with_reducible exact LeO.refl _)
   | (with_reducible exact LeO.none _)
   | (with_reducible refine LeO.ite ?_ ?_)
   | (with_reducible refine LeO.bind ?_ (fun _ => ?_))
   | exact ih0 _ _ _ _ _ _ _
   | exact spileref51_Fits.mono _ _ _ _ _ _ _ _ _ _ _
   | exact spileref51_asked.mono _ _ _ _ _
   | exact spileref51_caused.mono _ _ _ _ _ _ _ _ _ _ _ _
   | exact spileref51_later.mono _ _ _
   | exact LeO.none _
   | refine LeO.ite ?_ ?_
   | refine LeO.bind ?_ (fun _ => ?_)
theorem spileref51_Sum.mono : ∀ a0 a1 a2 a3 a4 k, LeO (spileref51_Sum.f k a0 a1 a2 a3 a4) (spileref51_Sum.f (k + 1) a0 a1 a2 a3 a4) := by
 intro a0 a1 a2 a3 a4 k
 have ih0 := spileref51_Sum.mono_l k
 unfold spileref51_Sum.f
 repeat' first
   | (with_reducible exact ih0 _ _ _ _ _ _ _)
   | (with_reducible exact spileref51_Fits.mono _ _ _ _ _ _ _ _ _ _ _)
   | (with_reducible exact spileref51_asked.mono _ _ _ _ _)
   | (with_reducible exact spileref51_caused.mono _ _ _ _ _ _ _ _ _ _ _ _)
   | (with_reducible exact spileref51_later.mono _ _ _)
   | (with_reducible exact LeO.refl _)
   | (with_reducible exact LeO.none _)
   | (with_reducible refine LeO.ite ?_ ?_)
   | (with_reducible refine LeO.bind ?_ (fun _ => ?_))
   | exact ih0 _ _ _ _ _ _ _
   | exact spileref51_Fits.mono _ _ _ _ _ _ _ _ _ _ _
   | exact spileref51_asked.mono _ _ _ _ _
   | exact spileref51_caused.mono _ _ _ _ _ _ _ _ _ _ _ _
   | exact spileref51_later.mono _ _ _
   | exact LeO.none _
   | refine LeO.ite ?_ ?_
   | refine LeO.bind ?_ (fun _ => ?_)
def spileref51_Sum.T12 : Bool × List (List Nat × List Nat) := (true, [([], []), ([], []), ([0, 1], [0, 1]), ([2], [2]), ([], []), ([], []), ([4, 5], [4, 5]), ([6], [6]), ([], []), ([3, 7, 8], [3, 7, 8]), ([9], [9])])
def spileref51_Sum.B12 : List Nat := [0, 0, 3, 7, 0, 0, 48, 112, 0, 511, 1023]
theorem spileref51_Sum.tab12 : rtab .any (opsOf Try.f23 12) = spileref51_Sum.T12 := by kernel_rfl
theorem spileref51_Sum.bits12 : waitsOk spileref51_Sum.T12.2 spileref51_Sum.B12 = true := by kernel_rfl
def spileref51_Sum.T14 : Bool × List (List Nat × List Nat) := (true, [([], []), ([], []), ([], []), ([], []), ([2, 3], [2, 3]), ([4], [4]), ([], []), ([], []), ([6, 7], [6, 7]), ([8], [8]), ([1, 5, 9], [1, 5, 9]), ([0, 10], [0, 10]), ([11, 10, 0, 1, 2, 3, 4, 5, 6, 7, 8, 9, 10, 11], [0, 11])])
def spileref51_Sum.B14 : List Nat := [0, 0, 0, 0, 12, 28, 0, 0, 192, 448, 1022, 2047, 4095]
theorem spileref51_Sum.tab14 : rtab .any (opsOf Try.f23 14) = spileref51_Sum.T14 := by kernel_rfl
theorem spileref51_Sum.bits14 : waitsOk spileref51_Sum.T14.2 spileref51_Sum.B14 = true := by kernel_rfl
set_option maxHeartbeats 8000000 in
set_option maxRecDepth 100000 in
theorem spileref51_Sum.calls (k : Nat) (a0_0 : Int) (A0_1 : Option Addr) (c0_1 : Nat) (l0_1 : List (S60)) (A1 : Option Addr) (c1 : Nat) (l1 : List (S35)) (A2 : Option Addr) (c2 : Nat) (l2 : List (S51)) (a3 : Int) (r1 : Int) (r2 : Int) (w : World) (hr0_1 : Kd.C k60 w A0_1 l0_1.length l0_1) (hc0_1 : l0_1.length ≤ c0_1) (hr1 : Kd.C k35 w A1 l1.length l1) (hc1 : l1.length ≤ c1) (hr2 : Kd.C k51 w A2 l2.length l2) (hc2 : l2.length ≤ c2) (h : spileref51_Sum.f k a0_0 l0_1 l1 l2 a3 = some (r1, r2)) :
  Calls Try.prog 23 #[.agg #[.int .i64 a0_0, .slice A0_1 l0_1.length c0_1], .slice A1 l1.length c1, .slice A2 l2.length c2, .int .i64 a3] w fun e w' => e = .returned (.tuple #[.int .i64 r1, .int .i64 r2]) ∧ Below w.heap.size w w' := by
 have hu24 := Try.underlying24
 have hu35 := Try.underlying35
 have hu51 := Try.underlying51
 have HR0_1 := Aside0.mk hr0_1
 have HC0_1 := Aside0.mk hc0_1
 clear hr0_1 hc0_1
 have HR1 := Aside0.mk hr1
 have HC1 := Aside0.mk hc1
 clear hr1 hc1
 have HR2 := Aside0.mk hr2
 have HC2 := Aside0.mk hc2
 clear hr2 hc2
 have HB := Aside0.mk (Below.refl w.heap.size w)
 have H : ((spileref51_asked.f k a0_0 l0_1 l1 a3).bind fun t591 => (if t591 = 0 then ((spileref51_later.f k l1 a3).bind fun t592 => (if t592 = true then (some (0, 11)) else (if (l2.length : Int) = (l1.length : Int) then (spileref51_Sum.l0 k l1 l2 a3 0 0 a0_0 l0_1) else (some (0, 10))))) else (some (0, t591)))) = some (r1, r2) := h
 clear h
 replace H := Option.bind_eq_some_iff.mp H
 obtain ⟨t591, A50, H⟩ := H
 replace H : (if t591 = 0 then ((spileref51_later.f k l1 a3).bind fun t592 => (if t592 = true then (some (0, 11)) else (if (l2.length : Int) = (l1.length : Int) then (spileref51_Sum.l0 k l1 l2 a3 0 0 a0_0 l0_1) else (some (0, 10))))) else (some (0, t591))) = some (r1, r2) := H
 have A5 := Aside0.mk A50
 clear A50
 by_cases c6 : t591 = 0
 ·rw [if_pos c6] at H
  have c6b0 : (t591 == 0) = true := beq_iff_eq.mpr c6
  try simp only [beq_self_eq_true, Bool.not_true, Bool.false_or, Bool.true_and] at c6b0
  have c6b1 : (t591 != 0) = false := bne_eq_false_iff_eq.mpr c6
  clear c6
  replace H := Option.bind_eq_some_iff.mp H
  obtain ⟨t592, A70, H⟩ := H
  replace H : (if t592 = true then (some (0, 11)) else (if (l2.length : Int) = (l1.length : Int) then (spileref51_Sum.l0 k l1 l2 a3 0 0 a0_0 l0_1) else (some (0, 10)))) = some (r1, r2) := H
  have A7 := Aside0.mk A70
  clear A70
  by_cases c8 : t592 = true
  ·subst c8
   have H1 : (some (0, 11)) = some (r1, r2) := by rw [if_pos rfl] at H; exact H
   clear H
   have H := H1
   clear H1
   simp only [Option.some.injEq, Prod.mk.injEq] at H
   obtain ⟨rfl, rfl⟩ := H
   go_enter Try.func23, Try.ntmps23
   go_wp2_with (first | ((with_reducible refine gqD (N := 4) rfl ?_); refine GS.bx (N := 4) (cs := #[.int .i64 a0_0, .slice A0_1 l0_1.length c0_1]) (t := 24) ?_; intro gb590 hg w9 hbox hb; have n0_ := Aside0.mk (lqT (GS.lB HB.out) hb); have n1_ := Aside0.mk (hbox); have n2_ := Aside0.mk ((by rw [hg]; exact (lqZ (GS.lB HB.out)) : w.heap.size ≤ gb590)); have n3_ := Aside0.mk ((by rw [hg]; exact (lqZ (GS.lB HB.out)) : w.heap.size ≤ gb590)); clear HB; have HB := n0_; have BK590 := n1_; have GW590 := n2_; have GE590 := n3_; clear n0_ n1_ n2_ n3_; clear hb hbox hg; obtain ⟨hcz10_0, hcz10_1, hfz10_0, hfz10_1⟩ := GS.c2 BK590.out) | ((with_reducible refine gqC (f := 33) rfl ?_); refine GS.gL (some 16) Try.func33 #[.agg #[.int .i64 a0_0, .slice A0_1 l0_1.length c0_1], .slice A1 l1.length c1, .int .i64 a3] ?_; (with_reducible refine (spileref51_asked.calls k a0_0 _ _ l0_1 _ _ l1 a3 t591 _ ?side1 ?side2 ?side3 ?side4 A5.out).mono ?_); (case side1 => exact GS.rC (Kd.C_below HR0_1.out HB.out)); (case side2 => exact HC0_1.out); (case side3 => exact GS.rC (Kd.C_below HR1.out HB.out)); (case side4 => exact HC1.out); rintro e w11 ⟨rfl, hb⟩; refine ⟨_, rfl, ?_⟩; have n0_ := Aside0.mk (bqB (GS.bqX BK590.out) hb); have n1_ := Aside0.mk (lqT (GS.lB HB.out) hb); clear BK590; clear HB; have BK590 := n0_; have HB := n1_; clear n0_ n1_; (try clear hb); (try clear hb2); (try clear hk); (try clear hi)) | ((with_reducible refine gqC (f := 39) rfl ?_); refine GS.gL (some 22) Try.func39 #[.slice A1 l1.length c1, .int .i64 a3] ?_; (with_reducible refine (spileref51_later.calls k _ _ l1 a3 true _ ?side1 ?side2 A7.out).mono ?_); (case side1 => exact GS.rC (Kd.C_below HR1.out HB.out)); (case side2 => exact HC1.out); rintro e w' ⟨rfl, ⟨nd, rfl⟩⟩; refine ⟨_, rfl, ?_⟩))
   go_ret2
   exact ⟨by first | rfl | (simp [errW_none, errW_some] <;> rfl) | (simp [*, errW_none, errW_some] <;> rfl), GS.lB HB.out⟩
  ·replace c8 := Bool.eq_false_iff.mpr c8
   subst c8
   have H1 : (if (l2.length : Int) = (l1.length : Int) then (spileref51_Sum.l0 k l1 l2 a3 0 0 a0_0 l0_1) else (some (0, 10))) = some (r1, r2) := by rw [if_neg (show ¬ (false = true) by decide)] at H; exact H
   clear H
   have H := H1
   clear H1
   by_cases c12 : (l2.length : Int) = (l1.length : Int)
   ·rw [if_pos c12] at H
    have c12b0 : ((l2.length : Int) == (l1.length : Int)) = true := beq_iff_eq.mpr c12
    try simp only [beq_self_eq_true, Bool.not_true, Bool.false_or, Bool.true_and] at c12b0
    have c12b1 : ((l2.length : Int) != (l1.length : Int)) = false := bne_eq_false_iff_eq.mpr c12
    have c12b2 : (l2.length == l1.length) = true := by first | simpa using c12 | (simp at c12 ⊢; omega)
    clear c12
    have H' := Aside0.mk H
    clear H
    go_enter Try.func23, Try.ntmps23
    go_wp2_with (first | ((with_reducible refine gqD (N := 4) rfl ?_); refine GS.bx (N := 4) (cs := #[.int .i64 a0_0, .slice A0_1 l0_1.length c0_1]) (t := 24) ?_; intro gb590 hg w13 hbox hb; have n0_ := Aside0.mk (lqT (GS.lB HB.out) hb); have n1_ := Aside0.mk (hbox); have n2_ := Aside0.mk ((by rw [hg]; exact (lqZ (GS.lB HB.out)) : w.heap.size ≤ gb590)); have n3_ := Aside0.mk ((by rw [hg]; exact (lqZ (GS.lB HB.out)) : w.heap.size ≤ gb590)); clear HB; have HB := n0_; have BK590 := n1_; have GW590 := n2_; have GE590 := n3_; clear n0_ n1_ n2_ n3_; clear hb hbox hg; obtain ⟨hcz14_0, hcz14_1, hfz14_0, hfz14_1⟩ := GS.c2 BK590.out) | ((with_reducible refine gqC (f := 33) rfl ?_); refine GS.gL (some 16) Try.func33 #[.agg #[.int .i64 a0_0, .slice A0_1 l0_1.length c0_1], .slice A1 l1.length c1, .int .i64 a3] ?_; (with_reducible refine (spileref51_asked.calls k a0_0 _ _ l0_1 _ _ l1 a3 t591 _ ?side1 ?side2 ?side3 ?side4 A5.out).mono ?_); (case side1 => exact GS.rC (Kd.C_below HR0_1.out HB.out)); (case side2 => exact HC0_1.out); (case side3 => exact GS.rC (Kd.C_below HR1.out HB.out)); (case side4 => exact HC1.out); rintro e w15 ⟨rfl, hb⟩; refine ⟨_, rfl, ?_⟩; have n0_ := Aside0.mk (bqB (GS.bqX BK590.out) hb); have n1_ := Aside0.mk (lqT (GS.lB HB.out) hb); clear BK590; clear HB; have BK590 := n0_; have HB := n1_; clear n0_ n1_; (try clear hb); (try clear hb2); (try clear hk); (try clear hi)) | ((with_reducible refine gqC (f := 39) rfl ?_); refine GS.gL (some 22) Try.func39 #[.slice A1 l1.length c1, .int .i64 a3] ?_; (with_reducible refine (spileref51_later.calls k _ _ l1 a3 false _ ?side1 ?side2 A7.out).mono ?_); (case side1 => exact GS.rC (Kd.C_below HR1.out HB.out)); (case side2 => exact HC1.out); rintro e w' ⟨rfl, ⟨nd, rfl⟩⟩; refine ⟨_, rfl, ?_⟩))
    go_loopg [11, 12] k (fun kq v11 v12 w' => ∃ (x11_1 : Int) (x12_1 : Int), v11 = .int .i64 x11_1 ∧ v12 = .int .i64 x12_1 ∧ Aside0 (spileref51_Sum.l0 kq l1 l2 a3 x11_1 x12_1 a0_0 l0_1 = some (r1, r2)) ∧ Aside0 (kq ≤ k) ∧ Aside0 (w'.heap[gb590]? = some (.cells #[.int .i64 a0_0, (.slice A0_1 l0_1.length c0_1)] 24 (0, 0))) ∧ Aside0 (Below w.heap.size w w'))
    case atStart => exact ⟨(0), (0), (by first | rfl | (simp; done) | (simp [*]; done)), (by first | rfl | (simp; done) | (simp [*]; done)), H', ⟨Nat.le_refl _⟩, ⟨GS.bqX BK590.out⟩, ⟨GS.lB HB.out⟩⟩
    case round =>
     clear H'
     try clear c1
     try clear c2
     try clear p2
     try clear c3
     try clear c6
     try clear c6b0
     try clear c6b1
     try clear c8
     try clear c12
     try clear c12b0
     try clear c12b1
     try clear c12b2
     try clear hcz10_0
     try clear hcz10_1
     try clear hcz14_0
     try clear hcz14_1
     try clear hfz10_0
     try clear hfz10_1
     try clear hfz14_0
     try clear hfz14_1
     obtain ⟨x11_1, x12_1, rfl, rfl, HA, HK1, BK590, HB⟩ := hrel
     cases gk with
     | zero => exact absurd HA.out (by simp [spileref51_Sum.l0])
     | succ k1 =>
      have H := HA.out
      clear HA
      simp only [spileref51_Sum.l0] at H
      by_cases c16 : x12_1 < (l1.length : Int)
      ·rw [if_pos c16] at H
       have c16b0 : decide (x12_1 < (l1.length : Int)) = true := decide_eq_true c16
       clear c16
       by_cases c17 : 0 ≤ x12_1
       ·rw [if_pos c17] at H
        have c17b0 : decide (0 ≤ x12_1) = true := decide_eq_true c17
        clear c17
        by_cases c18 : x12_1 < (l2.length : Int)
        ·rw [if_pos c18] at H
         have c18b0 : decide (x12_1 < (l2.length : Int)) = true := decide_eq_true c18
         clear c18
         replace H := Option.bind_eq_some_iff.mp H
         obtain ⟨t595, A190, H⟩ := H
         replace H : (if t595 = true then ((spileref51_caused.f k1 a0_0 l0_1 ((rd_T35 l1 x12_1).f0) ((rd_T35 l1 x12_1).f1) ((rd_T35 l1 x12_1).f2) ((rd_T35 l1 x12_1).f3) ((rd_T35 l1 x12_1).f4) ((rd_T51 l2 x12_1).f0) ((rd_T51 l2 x12_1).f1) ((rd_T51 l2 x12_1).f2) ((rd_T51 l2 x12_1).f3)).bind fun t598 => (spileref51_Sum.l0 k1 l1 l2 a3 (wrap64 (x11_1 + t598)) (wrap64 (x12_1 + 1)) a0_0 l0_1)) else (some (0, 10))) = some (r1, r2) := H
         have A19 := Aside0.mk A190
         clear A190
         by_cases c20 : t595 = true
         ·subst c20
          have H1 : ((spileref51_caused.f k1 a0_0 l0_1 ((rd_T35 l1 x12_1).f0) ((rd_T35 l1 x12_1).f1) ((rd_T35 l1 x12_1).f2) ((rd_T35 l1 x12_1).f3) ((rd_T35 l1 x12_1).f4) ((rd_T51 l2 x12_1).f0) ((rd_T51 l2 x12_1).f1) ((rd_T51 l2 x12_1).f2) ((rd_T51 l2 x12_1).f3)).bind fun t598 => (spileref51_Sum.l0 k1 l1 l2 a3 (wrap64 (x11_1 + t598)) (wrap64 (x12_1 + 1)) a0_0 l0_1)) = some (r1, r2) := by rw [if_pos rfl] at H; exact H
          clear H
          have H := H1
          clear H1
          replace H := Option.bind_eq_some_iff.mp H
          obtain ⟨t598, A210, H⟩ := H
          replace H : (spileref51_Sum.l0 k1 l1 l2 a3 (wrap64 (x11_1 + t598)) (wrap64 (x12_1 + 1)) a0_0 l0_1) = some (r1, r2) := H
          have A21 := Aside0.mk A210
          clear A210
          have H' := Aside0.mk H
          clear H
          try go_wp2
          have n0_ := Aside0.mk (bqD BK590.out)
          have n1_ := Aside0.mk (lqD HB.out)
          clear BK590
          clear HB
          have BK590 := n0_
          have HB := n1_
          clear n0_ n1_
          have p593 : 0 ≤ (x12_1 : Int) := of_decide_eq_true (by first | (with_reducible assumption) | assumption)
          have q593 : x12_1 < (l1.length : Int) := of_decide_eq_true (by first | (with_reducible assumption) | assumption)
          obtain ⟨ad593, e593, hx593_0, hx593_1, hx593_2, hx593_3, hx593_4⟩ := at_T35 HR1.out x12_1 p593 q593
          have hw593_4 := hx593_4
          have hw593_3 := hx593_3
          have hw593_2 := hx593_2
          have hw593_1 := hx593_1
          have hw593_0 := hx593_0
          cases e593
          replace hx593_0 := (HB.out.cell (World.block_lt_of_cell? w _ hx593_0)).trans hx593_0
          replace hx593_1 := (HB.out.cell (World.block_lt_of_cell? w _ hx593_1)).trans hx593_1
          replace hx593_2 := (HB.out.cell (World.block_lt_of_cell? w _ hx593_2)).trans hx593_2
          replace hx593_3 := (HB.out.cell (World.block_lt_of_cell? w _ hx593_3)).trans hx593_3
          replace hx593_4 := (HB.out.cell (World.block_lt_of_cell? w _ hx593_4)).trans hx593_4
          replace p593 := eq_true p593
          replace q593 := eq_true q593
          have p594 : 0 ≤ (x12_1 : Int) := of_decide_eq_true (by first | (with_reducible assumption) | assumption)
          have q594 : x12_1 < (l2.length : Int) := of_decide_eq_true (by first | (with_reducible assumption) | assumption)
          obtain ⟨ad594, e594, hx594_0, hx594_1, hx594_2, hx594_3⟩ := at_T51 HR2.out x12_1 p594 q594
          have hw594_3 := hx594_3
          have hw594_2 := hx594_2
          have hw594_1 := hx594_1
          have hw594_0 := hx594_0
          cases e594
          replace hx594_0 := (HB.out.cell (World.block_lt_of_cell? w _ hx594_0)).trans hx594_0
          replace hx594_1 := (HB.out.cell (World.block_lt_of_cell? w _ hx594_1)).trans hx594_1
          replace hx594_2 := (HB.out.cell (World.block_lt_of_cell? w _ hx594_2)).trans hx594_2
          replace hx594_3 := (HB.out.cell (World.block_lt_of_cell? w _ hx594_3)).trans hx594_3
          replace p594 := eq_true p594
          replace q594 := eq_true q594
          refine start_ (n := 11) (S := fun w' => w'.cell? (ad593.add ((x12_1).toNat * 5)) = some (.int .i64 ((rd_T35 l1 x12_1).f0)) ∧ w'.cell? ⟨(ad593.add ((x12_1).toNat * 5)).block, (ad593.add ((x12_1).toNat * 5)).off + 1, none⟩ = some (.int .i64 ((rd_T35 l1 x12_1).f1)) ∧ w'.cell? ⟨(ad593.add ((x12_1).toNat * 5)).block, (ad593.add ((x12_1).toNat * 5)).off + 2, none⟩ = some (.int .i64 ((rd_T35 l1 x12_1).f2)) ∧ w'.cell? ⟨(ad593.add ((x12_1).toNat * 5)).block, (ad593.add ((x12_1).toNat * 5)).off + 3, none⟩ = some (.int .i64 ((rd_T35 l1 x12_1).f3)) ∧ w'.cell? ⟨(ad593.add ((x12_1).toNat * 5)).block, (ad593.add ((x12_1).toNat * 5)).off + 4, none⟩ = some (.int .i64 ((rd_T35 l1 x12_1).f4)) ∧ w'.cell? (ad594.add ((x12_1).toNat * 4)) = some (.int .i64 ((rd_T51 l2 x12_1).f0)) ∧ w'.cell? ⟨(ad594.add ((x12_1).toNat * 4)).block, (ad594.add ((x12_1).toNat * 4)).off + 1, none⟩ = some (.int .i64 ((rd_T51 l2 x12_1).f1)) ∧ w'.cell? ⟨(ad594.add ((x12_1).toNat * 4)).block, (ad594.add ((x12_1).toNat * 4)).off + 2, none⟩ = some (.int .i64 ((rd_T51 l2 x12_1).f2)) ∧ w'.cell? ⟨(ad594.add ((x12_1).toNat * 4)).block, (ad594.add ((x12_1).toNat * 4)).off + 3, none⟩ = some (.int .i64 ((rd_T51 l2 x12_1).f3))) (ds := []) #[false, false, false, false, false, false, false, false, false, false, false] (by kernel_rfl) rfl rfl ⟨((HB.out.cell (World.block_lt_of_cell? w _ hw593_0)).trans hw593_0), ((HB.out.cell (World.block_lt_of_cell? w _ hw593_1)).trans hw593_1), ((HB.out.cell (World.block_lt_of_cell? w _ hw593_2)).trans hw593_2), ((HB.out.cell (World.block_lt_of_cell? w _ hw593_3)).trans hw593_3), ((HB.out.cell (World.block_lt_of_cell? w _ hw593_4)).trans hw593_4), ((HB.out.cell (World.block_lt_of_cell? w _ hw594_0)).trans hw594_0), ((HB.out.cell (World.block_lt_of_cell? w _ hw594_1)).trans hw594_1), ((HB.out.cell (World.block_lt_of_cell? w _ hw594_2)).trans hw594_2), ((HB.out.cell (World.block_lt_of_cell? w _ hw594_3)).trans hw594_3)⟩ (fun hHeld => ?_); refine with_tabW spileref51_Sum.tab12 spileref51_Sum.bits12 (fun HT_ HW_ => ?_)
          generalize wr.drew = w22 at BK590 HB hx593_0 hx593_1 hx593_2 hx593_3 hx593_4 hx594_0 hx594_1 hx594_2 hx594_3 hHeld ⊢
          refine GS.pu 0 (some 34) HT_.out ?_
          refine GS.pu 1 (some 35) HT_.out ?_
          refine GS.pu 2 (some 36) HT_.out ?_
          refine GS.pu 4 (some 38) HT_.out ?_
          refine GS.pu 5 (some 39) HT_.out ?_
          refine GS.pu 6 (some 40) HT_.out ?_
          refine GS.pu 8 (some 42) HT_.out ?_
          refine GS.tk 3 (some 37) HT_.out HW_.out hHeld ?_
          refine GS.tk 7 (some 41) HT_.out HW_.out hHeld ?_
          refine one_ (i := 9) (N := some 43) #[true, true, true, true, true, true, true, true, true, true, false] rfl rfl (one_of HT_.out (by kernel_rfl)) (by decide) (fun K hK => ?_)
          refine goes_ Try.func41 (by kernel_rfl) rfl #[.agg #[.int .i64 ((rd_T35 l1 x12_1).f0), .int .i64 ((rd_T35 l1 x12_1).f1), .int .i64 ((rd_T35 l1 x12_1).f2), .int .i64 ((rd_T35 l1 x12_1).f3), .int .i64 ((rd_T35 l1 x12_1).f4)], .agg #[.int .i64 ((rd_T51 l2 x12_1).f0), .int .i64 ((rd_T51 l2 x12_1).f1), .int .i64 ((rd_T51 l2 x12_1).f2), .int .i64 ((rd_T51 l2 x12_1).f3)], .int .i64 a3] (by rfl) rfl rfl (by (try simp only [List.map_toArray, List.map_cons, List.map_nil]); first | done | rfl | (simp only [List.length_drop, List.length_take]; rfl)) ?_
          with_reducible refine (spileref51_Fits.calls k1 ((rd_T35 l1 x12_1).f0) ((rd_T35 l1 x12_1).f1) ((rd_T35 l1 x12_1).f2) ((rd_T35 l1 x12_1).f3) ((rd_T35 l1 x12_1).f4) ((rd_T51 l2 x12_1).f0) ((rd_T51 l2 x12_1).f1) ((rd_T51 l2 x12_1).f2) ((rd_T51 l2 x12_1).f3) a3 true _ A19.out).mono ?_
          rintro e w23 ⟨rfl, hb⟩
          refine ⟨_, rfl, ?_⟩
          have n0_ := Aside0.mk (bqB (GS.bqX BK590.out) hb)
          have n1_ := Aside0.mk (lqT (GS.lB HB.out) hb)
          clear BK590
          clear HB
          have BK590 := n0_
          have HB := n1_
          clear n0_ n1_
          (try clear hb)
          (try clear hb2)
          (try clear hk)
          (try clear hi)
          refine hK.out _ _ ⟨((HB.out.cell (World.block_lt_of_cell? w _ hw593_0)).trans hw593_0), ((HB.out.cell (World.block_lt_of_cell? w _ hw593_1)).trans hw593_1), ((HB.out.cell (World.block_lt_of_cell? w _ hw593_2)).trans hw593_2), ((HB.out.cell (World.block_lt_of_cell? w _ hw593_3)).trans hw593_3), ((HB.out.cell (World.block_lt_of_cell? w _ hw593_4)).trans hw593_4), ((HB.out.cell (World.block_lt_of_cell? w _ hw594_0)).trans hw594_0), ((HB.out.cell (World.block_lt_of_cell? w _ hw594_1)).trans hw594_1), ((HB.out.cell (World.block_lt_of_cell? w _ hw594_2)).trans hw594_2), ((HB.out.cell (World.block_lt_of_cell? w _ hw594_3)).trans hw594_3)⟩ (fun hHeld => ?_)
          clear hK K
          refine norm_ (a' := ?_) ?_ ?_
          rotate_left
          ·show Act.put _ (some 43) _ = _
           simp only [Act.put, List.setIfInBounds_toArray, List.set_cons_zero, List.set_cons_succ, i64_w, i32_w]
           rfl
          refine GS.pu 10 (some 44) HT_.out ?_
          refine done_ (done_of HT_.out (by kernel_rfl)) ?_
          try go_wp2
          have n0_ := Aside0.mk (bqD BK590.out)
          have n1_ := Aside0.mk (lqD HB.out)
          clear BK590
          clear HB
          have BK590 := n0_
          have HB := n1_
          clear n0_ n1_
          have p596 : 0 ≤ (x12_1 : Int) := of_decide_eq_true (by first | (with_reducible assumption) | assumption)
          have q596 : x12_1 < (l1.length : Int) := of_decide_eq_true (by first | (with_reducible assumption) | assumption)
          obtain ⟨ad596, e596, hx596_0, hx596_1, hx596_2, hx596_3, hx596_4⟩ := at_T35 HR1.out x12_1 p596 q596
          have hw596_4 := hx596_4
          have hw596_3 := hx596_3
          have hw596_2 := hx596_2
          have hw596_1 := hx596_1
          have hw596_0 := hx596_0
          obtain rfl : ad593 = ad596 := (by injection e596)
          replace hx596_0 := (HB.out.cell (World.block_lt_of_cell? w _ hx596_0)).trans hx596_0
          replace hx596_1 := (HB.out.cell (World.block_lt_of_cell? w _ hx596_1)).trans hx596_1
          replace hx596_2 := (HB.out.cell (World.block_lt_of_cell? w _ hx596_2)).trans hx596_2
          replace hx596_3 := (HB.out.cell (World.block_lt_of_cell? w _ hx596_3)).trans hx596_3
          replace hx596_4 := (HB.out.cell (World.block_lt_of_cell? w _ hx596_4)).trans hx596_4
          replace p596 := eq_true p596
          replace q596 := eq_true q596
          have p597 : 0 ≤ (x12_1 : Int) := of_decide_eq_true (by first | (with_reducible assumption) | assumption)
          have q597 : x12_1 < (l2.length : Int) := of_decide_eq_true (by first | (with_reducible assumption) | assumption)
          obtain ⟨ad597, e597, hx597_0, hx597_1, hx597_2, hx597_3⟩ := at_T51 HR2.out x12_1 p597 q597
          have hw597_3 := hx597_3
          have hw597_2 := hx597_2
          have hw597_1 := hx597_1
          have hw597_0 := hx597_0
          obtain rfl : ad594 = ad597 := (by injection e597)
          replace hx597_0 := (HB.out.cell (World.block_lt_of_cell? w _ hx597_0)).trans hx597_0
          replace hx597_1 := (HB.out.cell (World.block_lt_of_cell? w _ hx597_1)).trans hx597_1
          replace hx597_2 := (HB.out.cell (World.block_lt_of_cell? w _ hx597_2)).trans hx597_2
          replace hx597_3 := (HB.out.cell (World.block_lt_of_cell? w _ hx597_3)).trans hx597_3
          replace p597 := eq_true p597
          replace q597 := eq_true q597
          refine start_ (n := 13) (S := fun w' => w'.cell? ⟨gb590, 0, none⟩ = some (.int .i64 a0_0) ∧ w'.cell? ⟨gb590, 1, none⟩ = some (.slice A0_1 l0_1.length c0_1) ∧ w'.cell? (ad593.add ((x12_1).toNat * 5)) = some (.int .i64 ((rd_T35 l1 x12_1).f0)) ∧ w'.cell? ⟨(ad593.add ((x12_1).toNat * 5)).block, (ad593.add ((x12_1).toNat * 5)).off + 1, none⟩ = some (.int .i64 ((rd_T35 l1 x12_1).f1)) ∧ w'.cell? ⟨(ad593.add ((x12_1).toNat * 5)).block, (ad593.add ((x12_1).toNat * 5)).off + 2, none⟩ = some (.int .i64 ((rd_T35 l1 x12_1).f2)) ∧ w'.cell? ⟨(ad593.add ((x12_1).toNat * 5)).block, (ad593.add ((x12_1).toNat * 5)).off + 3, none⟩ = some (.int .i64 ((rd_T35 l1 x12_1).f3)) ∧ w'.cell? ⟨(ad593.add ((x12_1).toNat * 5)).block, (ad593.add ((x12_1).toNat * 5)).off + 4, none⟩ = some (.int .i64 ((rd_T35 l1 x12_1).f4)) ∧ w'.cell? (ad594.add ((x12_1).toNat * 4)) = some (.int .i64 ((rd_T51 l2 x12_1).f0)) ∧ w'.cell? ⟨(ad594.add ((x12_1).toNat * 4)).block, (ad594.add ((x12_1).toNat * 4)).off + 1, none⟩ = some (.int .i64 ((rd_T51 l2 x12_1).f1)) ∧ w'.cell? ⟨(ad594.add ((x12_1).toNat * 4)).block, (ad594.add ((x12_1).toNat * 4)).off + 2, none⟩ = some (.int .i64 ((rd_T51 l2 x12_1).f2)) ∧ w'.cell? ⟨(ad594.add ((x12_1).toNat * 4)).block, (ad594.add ((x12_1).toNat * 4)).off + 3, none⟩ = some (.int .i64 ((rd_T51 l2 x12_1).f3))) (ds := []) #[false, false, false, false, false, false, false, false, false, false, false, false, false] (by kernel_rfl) rfl rfl ⟨(bqC BK590.out 0).trans rfl, (bqC BK590.out 1).trans rfl, ((HB.out.cell (World.block_lt_of_cell? w _ hw596_0)).trans hw596_0), ((HB.out.cell (World.block_lt_of_cell? w _ hw596_1)).trans hw596_1), ((HB.out.cell (World.block_lt_of_cell? w _ hw596_2)).trans hw596_2), ((HB.out.cell (World.block_lt_of_cell? w _ hw596_3)).trans hw596_3), ((HB.out.cell (World.block_lt_of_cell? w _ hw596_4)).trans hw596_4), ((HB.out.cell (World.block_lt_of_cell? w _ hw597_0)).trans hw597_0), ((HB.out.cell (World.block_lt_of_cell? w _ hw597_1)).trans hw597_1), ((HB.out.cell (World.block_lt_of_cell? w _ hw597_2)).trans hw597_2), ((HB.out.cell (World.block_lt_of_cell? w _ hw597_3)).trans hw597_3)⟩ (fun hHeld => ?_); refine with_tabW spileref51_Sum.tab14 spileref51_Sum.bits14 (fun HT_ HW_ => ?_)
          generalize w23.drew = w24 at BK590 HB hx596_0 hx596_1 hx596_2 hx596_3 hx596_4 hx597_0 hx597_1 hx597_2 hx597_3 hHeld ⊢
          refine GS.pu 0 (some 45) HT_.out ?_
          refine GS.pu 2 (some 47) HT_.out ?_
          refine GS.pu 3 (some 48) HT_.out ?_
          refine GS.pu 4 (some 49) HT_.out ?_
          refine GS.pu 6 (some 51) HT_.out ?_
          refine GS.pu 7 (some 52) HT_.out ?_
          refine GS.pu 8 (some 53) HT_.out ?_
          refine GS.tk 1 (some 46) HT_.out HW_.out hHeld ?_
          refine GS.tk 5 (some 50) HT_.out HW_.out hHeld ?_
          refine GS.tk 9 (some 54) HT_.out HW_.out hHeld ?_
          refine one_ (i := 10) (N := some 55) #[true, true, true, true, true, true, true, true, true, true, true, false, false] rfl rfl (one_of HT_.out (by kernel_rfl)) (by decide) (fun K hK => ?_)
          refine goes_ Try.func42 (by kernel_rfl) rfl #[.agg #[.int .i64 a0_0, .slice A0_1 l0_1.length c0_1], .agg #[.int .i64 ((rd_T35 l1 x12_1).f0), .int .i64 ((rd_T35 l1 x12_1).f1), .int .i64 ((rd_T35 l1 x12_1).f2), .int .i64 ((rd_T35 l1 x12_1).f3), .int .i64 ((rd_T35 l1 x12_1).f4)], .agg #[.int .i64 ((rd_T51 l2 x12_1).f0), .int .i64 ((rd_T51 l2 x12_1).f1), .int .i64 ((rd_T51 l2 x12_1).f2), .int .i64 ((rd_T51 l2 x12_1).f3)]] (by rfl) rfl rfl (by (try simp only [List.map_toArray, List.map_cons, List.map_nil]); first | done | rfl | (simp only [List.length_drop, List.length_take]; rfl)) ?_
          with_reducible refine (spileref51_caused.calls k1 a0_0 _ _ l0_1 ((rd_T35 l1 x12_1).f0) ((rd_T35 l1 x12_1).f1) ((rd_T35 l1 x12_1).f2) ((rd_T35 l1 x12_1).f3) ((rd_T35 l1 x12_1).f4) ((rd_T51 l2 x12_1).f0) ((rd_T51 l2 x12_1).f1) ((rd_T51 l2 x12_1).f2) ((rd_T51 l2 x12_1).f3) t598 _ ?side1 ?side2 A21.out).mono ?_
          (case side1 => exact GS.rC (Kd.C_below HR0_1.out HB.out))
          (case side2 => exact HC0_1.out)
          rintro e w25 ⟨rfl, hb⟩
          refine ⟨_, rfl, ?_⟩
          have n0_ := Aside0.mk (bqB (GS.bqX BK590.out) hb)
          have n1_ := Aside0.mk (lqT (GS.lB HB.out) hb)
          clear BK590
          clear HB
          have BK590 := n0_
          have HB := n1_
          clear n0_ n1_
          (try clear hb)
          (try clear hb2)
          (try clear hk)
          (try clear hi)
          refine hK.out _ _ ⟨(bqC BK590.out 0).trans rfl, (bqC BK590.out 1).trans rfl, ((HB.out.cell (World.block_lt_of_cell? w _ hw596_0)).trans hw596_0), ((HB.out.cell (World.block_lt_of_cell? w _ hw596_1)).trans hw596_1), ((HB.out.cell (World.block_lt_of_cell? w _ hw596_2)).trans hw596_2), ((HB.out.cell (World.block_lt_of_cell? w _ hw596_3)).trans hw596_3), ((HB.out.cell (World.block_lt_of_cell? w _ hw596_4)).trans hw596_4), ((HB.out.cell (World.block_lt_of_cell? w _ hw597_0)).trans hw597_0), ((HB.out.cell (World.block_lt_of_cell? w _ hw597_1)).trans hw597_1), ((HB.out.cell (World.block_lt_of_cell? w _ hw597_2)).trans hw597_2), ((HB.out.cell (World.block_lt_of_cell? w _ hw597_3)).trans hw597_3)⟩ (fun hHeld => ?_)
          clear hK K
          refine norm_ (a' := ?_) ?_ ?_
          rotate_left
          ·show Act.put _ (some 55) _ = _
           simp only [Act.put, List.setIfInBounds_toArray, List.set_cons_zero, List.set_cons_succ, i64_w, i32_w]
           rfl
          refine GS.pu 11 (some 56) HT_.out ?_
          refine GS.pu 12 (some 11) HT_.out ?_
          refine done_ (done_of HT_.out (by kernel_rfl)) ?_
          try go_wp2
          go_roundg k1
          case measure => have := HK1.out; omega
          case rel => exact ⟨(wrap64 (x11_1 + t598)), (wrap64 (x12_1 + 1)), (by first | rfl | (simp; done) | (simp [*]; done)), (by first | rfl | (simp; done) | (simp [*]; done)), H', ⟨by have := HK1.out; omega⟩, ⟨GS.bqX BK590.out⟩, ⟨GS.lB HB.out⟩⟩
         ·replace c20 := Bool.eq_false_iff.mpr c20
          subst c20
          have H1 : (some (0, 10)) = some (r1, r2) := by rw [if_neg (show ¬ (false = true) by decide)] at H; exact H
          clear H
          have H := H1
          clear H1
          simp only [Option.some.injEq, Prod.mk.injEq] at H
          obtain ⟨rfl, rfl⟩ := H
          try go_wp2
          have n0_ := Aside0.mk (bqD BK590.out)
          have n1_ := Aside0.mk (lqD HB.out)
          clear BK590
          clear HB
          have BK590 := n0_
          have HB := n1_
          clear n0_ n1_
          have p593 : 0 ≤ (x12_1 : Int) := of_decide_eq_true (by first | (with_reducible assumption) | assumption)
          have q593 : x12_1 < (l1.length : Int) := of_decide_eq_true (by first | (with_reducible assumption) | assumption)
          obtain ⟨ad593, e593, hx593_0, hx593_1, hx593_2, hx593_3, hx593_4⟩ := at_T35 HR1.out x12_1 p593 q593
          have hw593_4 := hx593_4
          have hw593_3 := hx593_3
          have hw593_2 := hx593_2
          have hw593_1 := hx593_1
          have hw593_0 := hx593_0
          cases e593
          replace hx593_0 := (HB.out.cell (World.block_lt_of_cell? w _ hx593_0)).trans hx593_0
          replace hx593_1 := (HB.out.cell (World.block_lt_of_cell? w _ hx593_1)).trans hx593_1
          replace hx593_2 := (HB.out.cell (World.block_lt_of_cell? w _ hx593_2)).trans hx593_2
          replace hx593_3 := (HB.out.cell (World.block_lt_of_cell? w _ hx593_3)).trans hx593_3
          replace hx593_4 := (HB.out.cell (World.block_lt_of_cell? w _ hx593_4)).trans hx593_4
          replace p593 := eq_true p593
          replace q593 := eq_true q593
          have p594 : 0 ≤ (x12_1 : Int) := of_decide_eq_true (by first | (with_reducible assumption) | assumption)
          have q594 : x12_1 < (l2.length : Int) := of_decide_eq_true (by first | (with_reducible assumption) | assumption)
          obtain ⟨ad594, e594, hx594_0, hx594_1, hx594_2, hx594_3⟩ := at_T51 HR2.out x12_1 p594 q594
          have hw594_3 := hx594_3
          have hw594_2 := hx594_2
          have hw594_1 := hx594_1
          have hw594_0 := hx594_0
          cases e594
          replace hx594_0 := (HB.out.cell (World.block_lt_of_cell? w _ hx594_0)).trans hx594_0
          replace hx594_1 := (HB.out.cell (World.block_lt_of_cell? w _ hx594_1)).trans hx594_1
          replace hx594_2 := (HB.out.cell (World.block_lt_of_cell? w _ hx594_2)).trans hx594_2
          replace hx594_3 := (HB.out.cell (World.block_lt_of_cell? w _ hx594_3)).trans hx594_3
          replace p594 := eq_true p594
          replace q594 := eq_true q594
          refine start_ (n := 11) (S := fun w' => w'.cell? (ad593.add ((x12_1).toNat * 5)) = some (.int .i64 ((rd_T35 l1 x12_1).f0)) ∧ w'.cell? ⟨(ad593.add ((x12_1).toNat * 5)).block, (ad593.add ((x12_1).toNat * 5)).off + 1, none⟩ = some (.int .i64 ((rd_T35 l1 x12_1).f1)) ∧ w'.cell? ⟨(ad593.add ((x12_1).toNat * 5)).block, (ad593.add ((x12_1).toNat * 5)).off + 2, none⟩ = some (.int .i64 ((rd_T35 l1 x12_1).f2)) ∧ w'.cell? ⟨(ad593.add ((x12_1).toNat * 5)).block, (ad593.add ((x12_1).toNat * 5)).off + 3, none⟩ = some (.int .i64 ((rd_T35 l1 x12_1).f3)) ∧ w'.cell? ⟨(ad593.add ((x12_1).toNat * 5)).block, (ad593.add ((x12_1).toNat * 5)).off + 4, none⟩ = some (.int .i64 ((rd_T35 l1 x12_1).f4)) ∧ w'.cell? (ad594.add ((x12_1).toNat * 4)) = some (.int .i64 ((rd_T51 l2 x12_1).f0)) ∧ w'.cell? ⟨(ad594.add ((x12_1).toNat * 4)).block, (ad594.add ((x12_1).toNat * 4)).off + 1, none⟩ = some (.int .i64 ((rd_T51 l2 x12_1).f1)) ∧ w'.cell? ⟨(ad594.add ((x12_1).toNat * 4)).block, (ad594.add ((x12_1).toNat * 4)).off + 2, none⟩ = some (.int .i64 ((rd_T51 l2 x12_1).f2)) ∧ w'.cell? ⟨(ad594.add ((x12_1).toNat * 4)).block, (ad594.add ((x12_1).toNat * 4)).off + 3, none⟩ = some (.int .i64 ((rd_T51 l2 x12_1).f3))) (ds := []) #[false, false, false, false, false, false, false, false, false, false, false] (by kernel_rfl) rfl rfl ⟨((HB.out.cell (World.block_lt_of_cell? w _ hw593_0)).trans hw593_0), ((HB.out.cell (World.block_lt_of_cell? w _ hw593_1)).trans hw593_1), ((HB.out.cell (World.block_lt_of_cell? w _ hw593_2)).trans hw593_2), ((HB.out.cell (World.block_lt_of_cell? w _ hw593_3)).trans hw593_3), ((HB.out.cell (World.block_lt_of_cell? w _ hw593_4)).trans hw593_4), ((HB.out.cell (World.block_lt_of_cell? w _ hw594_0)).trans hw594_0), ((HB.out.cell (World.block_lt_of_cell? w _ hw594_1)).trans hw594_1), ((HB.out.cell (World.block_lt_of_cell? w _ hw594_2)).trans hw594_2), ((HB.out.cell (World.block_lt_of_cell? w _ hw594_3)).trans hw594_3)⟩ (fun hHeld => ?_); refine with_tabW spileref51_Sum.tab12 spileref51_Sum.bits12 (fun HT_ HW_ => ?_)
          generalize wr.drew = w26 at BK590 HB hx593_0 hx593_1 hx593_2 hx593_3 hx593_4 hx594_0 hx594_1 hx594_2 hx594_3 hHeld ⊢
          refine GS.pu 0 (some 34) HT_.out ?_
          refine GS.pu 1 (some 35) HT_.out ?_
          refine GS.pu 2 (some 36) HT_.out ?_
          refine GS.pu 4 (some 38) HT_.out ?_
          refine GS.pu 5 (some 39) HT_.out ?_
          refine GS.pu 6 (some 40) HT_.out ?_
          refine GS.pu 8 (some 42) HT_.out ?_
          refine GS.tk 3 (some 37) HT_.out HW_.out hHeld ?_
          refine GS.tk 7 (some 41) HT_.out HW_.out hHeld ?_
          refine one_ (i := 9) (N := some 43) #[true, true, true, true, true, true, true, true, true, true, false] rfl rfl (one_of HT_.out (by kernel_rfl)) (by decide) (fun K hK => ?_)
          refine goes_ Try.func41 (by kernel_rfl) rfl #[.agg #[.int .i64 ((rd_T35 l1 x12_1).f0), .int .i64 ((rd_T35 l1 x12_1).f1), .int .i64 ((rd_T35 l1 x12_1).f2), .int .i64 ((rd_T35 l1 x12_1).f3), .int .i64 ((rd_T35 l1 x12_1).f4)], .agg #[.int .i64 ((rd_T51 l2 x12_1).f0), .int .i64 ((rd_T51 l2 x12_1).f1), .int .i64 ((rd_T51 l2 x12_1).f2), .int .i64 ((rd_T51 l2 x12_1).f3)], .int .i64 a3] (by rfl) rfl rfl (by (try simp only [List.map_toArray, List.map_cons, List.map_nil]); first | done | rfl | (simp only [List.length_drop, List.length_take]; rfl)) ?_
          with_reducible refine (spileref51_Fits.calls k1 ((rd_T35 l1 x12_1).f0) ((rd_T35 l1 x12_1).f1) ((rd_T35 l1 x12_1).f2) ((rd_T35 l1 x12_1).f3) ((rd_T35 l1 x12_1).f4) ((rd_T51 l2 x12_1).f0) ((rd_T51 l2 x12_1).f1) ((rd_T51 l2 x12_1).f2) ((rd_T51 l2 x12_1).f3) a3 false _ A19.out).mono ?_
          rintro e w27 ⟨rfl, hb⟩
          refine ⟨_, rfl, ?_⟩
          have n0_ := Aside0.mk (bqB (GS.bqX BK590.out) hb)
          have n1_ := Aside0.mk (lqT (GS.lB HB.out) hb)
          clear BK590
          clear HB
          have BK590 := n0_
          have HB := n1_
          clear n0_ n1_
          (try clear hb)
          (try clear hb2)
          (try clear hk)
          (try clear hi)
          refine hK.out _ _ ⟨((HB.out.cell (World.block_lt_of_cell? w _ hw593_0)).trans hw593_0), ((HB.out.cell (World.block_lt_of_cell? w _ hw593_1)).trans hw593_1), ((HB.out.cell (World.block_lt_of_cell? w _ hw593_2)).trans hw593_2), ((HB.out.cell (World.block_lt_of_cell? w _ hw593_3)).trans hw593_3), ((HB.out.cell (World.block_lt_of_cell? w _ hw593_4)).trans hw593_4), ((HB.out.cell (World.block_lt_of_cell? w _ hw594_0)).trans hw594_0), ((HB.out.cell (World.block_lt_of_cell? w _ hw594_1)).trans hw594_1), ((HB.out.cell (World.block_lt_of_cell? w _ hw594_2)).trans hw594_2), ((HB.out.cell (World.block_lt_of_cell? w _ hw594_3)).trans hw594_3)⟩ (fun hHeld => ?_)
          clear hK K
          refine norm_ (a' := ?_) ?_ ?_
          rotate_left
          ·show Act.put _ (some 43) _ = _
           simp only [Act.put, List.setIfInBounds_toArray, List.set_cons_zero, List.set_cons_succ, i64_w, i32_w]
           rfl
          refine GS.pu 10 (some 44) HT_.out ?_
          refine done_ (done_of HT_.out (by kernel_rfl)) ?_
          try go_wp2
          go_ret2
          exact ⟨by first | rfl | (simp [errW_none, errW_some] <;> rfl) | (simp [*, errW_none, errW_some] <;> rfl), GS.lB HB.out⟩
        ·rw [if_neg c18] at H
         exact absurd H (by simp)
       ·rw [if_neg c17] at H
        exact absurd H (by simp)
      ·rw [if_neg c16] at H
       have c16b0 : decide (x12_1 < (l1.length : Int)) = false := decide_eq_false c16
       clear c16
       simp only [Option.some.injEq, Prod.mk.injEq] at H
       obtain ⟨rfl, rfl⟩ := H
       go_wp2
       go_ret2
       exact ⟨by first | rfl | (simp [errW_none, errW_some] <;> rfl) | (simp [*, errW_none, errW_some] <;> rfl), GS.lB HB.out⟩
   ·rw [if_neg c12] at H
    have c12b0 : ((l2.length : Int) == (l1.length : Int)) = false := beq_eq_false_iff_ne.mpr c12
    try simp only [beq_self_eq_true, Bool.not_true, Bool.false_or, Bool.true_and] at c12b0
    have c12b1 : ((l2.length : Int) != (l1.length : Int)) = true := bne_iff_ne.mpr c12
    have c12b2 : (l2.length == l1.length) = false := by first | simpa using c12 | (simp at c12 ⊢; omega)
    simp only [Option.some.injEq, Prod.mk.injEq] at H
    obtain ⟨rfl, rfl⟩ := H
    go_enter Try.func23, Try.ntmps23
    go_wp2_with (first | ((with_reducible refine gqD (N := 4) rfl ?_); refine GS.bx (N := 4) (cs := #[.int .i64 a0_0, .slice A0_1 l0_1.length c0_1]) (t := 24) ?_; intro gb590 hg w28 hbox hb; have n0_ := Aside0.mk (lqT (GS.lB HB.out) hb); have n1_ := Aside0.mk (hbox); have n2_ := Aside0.mk ((by rw [hg]; exact (lqZ (GS.lB HB.out)) : w.heap.size ≤ gb590)); have n3_ := Aside0.mk ((by rw [hg]; exact (lqZ (GS.lB HB.out)) : w.heap.size ≤ gb590)); clear HB; have HB := n0_; have BK590 := n1_; have GW590 := n2_; have GE590 := n3_; clear n0_ n1_ n2_ n3_; clear hb hbox hg; obtain ⟨hcz29_0, hcz29_1, hfz29_0, hfz29_1⟩ := GS.c2 BK590.out) | ((with_reducible refine gqC (f := 33) rfl ?_); refine GS.gL (some 16) Try.func33 #[.agg #[.int .i64 a0_0, .slice A0_1 l0_1.length c0_1], .slice A1 l1.length c1, .int .i64 a3] ?_; (with_reducible refine (spileref51_asked.calls k a0_0 _ _ l0_1 _ _ l1 a3 t591 _ ?side1 ?side2 ?side3 ?side4 A5.out).mono ?_); (case side1 => exact GS.rC (Kd.C_below HR0_1.out HB.out)); (case side2 => exact HC0_1.out); (case side3 => exact GS.rC (Kd.C_below HR1.out HB.out)); (case side4 => exact HC1.out); rintro e w30 ⟨rfl, hb⟩; refine ⟨_, rfl, ?_⟩; have n0_ := Aside0.mk (bqB (GS.bqX BK590.out) hb); have n1_ := Aside0.mk (lqT (GS.lB HB.out) hb); clear BK590; clear HB; have BK590 := n0_; have HB := n1_; clear n0_ n1_; (try clear hb); (try clear hb2); (try clear hk); (try clear hi)) | ((with_reducible refine gqC (f := 39) rfl ?_); refine GS.gL (some 22) Try.func39 #[.slice A1 l1.length c1, .int .i64 a3] ?_; (with_reducible refine (spileref51_later.calls k _ _ l1 a3 false _ ?side1 ?side2 A7.out).mono ?_); (case side1 => exact GS.rC (Kd.C_below HR1.out HB.out)); (case side2 => exact HC1.out); rintro e w' ⟨rfl, ⟨nd, rfl⟩⟩; refine ⟨_, rfl, ?_⟩))
    go_ret2
    exact ⟨by first | rfl | (simp [errW_none, errW_some] <;> rfl) | (simp [*, errW_none, errW_some] <;> rfl), GS.lB HB.out⟩
 ·rw [if_neg c6] at H
  have c6b0 : (t591 == 0) = false := beq_eq_false_iff_ne.mpr c6
  try simp only [beq_self_eq_true, Bool.not_true, Bool.false_or, Bool.true_and] at c6b0
  have c6b1 : (t591 != 0) = true := bne_iff_ne.mpr c6
  simp only [Option.some.injEq, Prod.mk.injEq] at H
  obtain ⟨rfl, rfl⟩ := H
  go_enter Try.func23, Try.ntmps23
  go_wp2_with (first | ((with_reducible refine gqD (N := 4) rfl ?_); refine GS.bx (N := 4) (cs := #[.int .i64 a0_0, .slice A0_1 l0_1.length c0_1]) (t := 24) ?_; intro gb590 hg w31 hbox hb; have n0_ := Aside0.mk (lqT (GS.lB HB.out) hb); have n1_ := Aside0.mk (hbox); have n2_ := Aside0.mk ((by rw [hg]; exact (lqZ (GS.lB HB.out)) : w.heap.size ≤ gb590)); have n3_ := Aside0.mk ((by rw [hg]; exact (lqZ (GS.lB HB.out)) : w.heap.size ≤ gb590)); clear HB; have HB := n0_; have BK590 := n1_; have GW590 := n2_; have GE590 := n3_; clear n0_ n1_ n2_ n3_; clear hb hbox hg; obtain ⟨hcz32_0, hcz32_1, hfz32_0, hfz32_1⟩ := GS.c2 BK590.out) | ((with_reducible refine gqC (f := 33) rfl ?_); refine GS.gL (some 16) Try.func33 #[.agg #[.int .i64 a0_0, .slice A0_1 l0_1.length c0_1], .slice A1 l1.length c1, .int .i64 a3] ?_; (with_reducible refine (spileref51_asked.calls k a0_0 _ _ l0_1 _ _ l1 a3 t591 _ ?side1 ?side2 ?side3 ?side4 A5.out).mono ?_); (case side1 => exact GS.rC (Kd.C_below HR0_1.out HB.out)); (case side2 => exact HC0_1.out); (case side3 => exact GS.rC (Kd.C_below HR1.out HB.out)); (case side4 => exact HC1.out); rintro e w33 ⟨rfl, hb⟩; refine ⟨_, rfl, ?_⟩; have n0_ := Aside0.mk (bqB (GS.bqX BK590.out) hb); have n1_ := Aside0.mk (lqT (GS.lB HB.out) hb); clear BK590; clear HB; have BK590 := n0_; have HB := n1_; clear n0_ n1_; (try clear hb); (try clear hb2); (try clear hk); (try clear hi)))
  go_ret2
  exact ⟨by first | rfl | (simp [errW_none, errW_some] <;> rfl) | (simp [*, errW_none, errW_some] <;> rfl), GS.lB HB.out⟩

end Go.Proofs.Ythboaobgipodiaa.K
