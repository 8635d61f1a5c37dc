-- PRINTED by print.py (a twelfth state) out of the translation. Not trusted: Lean checks it.
import Derived.Test.YtfafeeobjlkjnaaK0
import Derived.Test.YtfafeeobjlkjnaaGSym
import Derived.Test.YtfafeeobjlkjnaaGShort
import Derived.Test.YtfafeeobjlkjnaaK5
import Derived.Test.YtfafeeobjlkjnaaK7
import Derived.Test.YtfafeeobjlkjnaaK8
import Derived.Test.YtfafeeobjlkjnaaK9
import Derived.Test.YtfafeeobjlkjnaaGHeard
import Derived.Test.YtfafeeobjlkjnaaGTakes
namespace Go.Proofs.Ytfafeeobjlkjnaa.K
open Go.RowKit Go.Proofs.YtfafeeobjlkjnaaW.PrintWords Go.Proofs.YtfafeeobjlkjnaaW.PrintLast Go.Proofs.YtfafeeobjlkjnaaW.PrintMore
attribute [local go_sem] max2_int min2_int max_two min_two max_three min_three max_four min_four   -- for this text's walks alone
set_option linter.unusedVariables false
set_option linter.unusedSimpArgs false

/-! ### spilelaw42_SenderTakes: function 5 -/
def spilelaw42_SenderTakes.f (k : Nat) (a0_0 : Int) (a0_1 : Int) (l0_2 : List (S33)) (a1_0 : Int) (a1_1 : Int) : Option (Bool) := (spilelaw42_awake.f k).bind fun t361 => (if t361 = true then (if (l0_2.length : Int) > 14 then (some true) else ((spileref42_Copy.f a0_0 a0_1 l0_2).bind fun bt362 => ((sender_Heard.f k bt362.1 bt362.2.1 bt362.2.2 a1_0 a1_1).bind fun bt367 => (if bt367.2.2.2 = 0 then ((delf24.f l0_2 a1_0 a1_1).bind fun t374 => ((api_Envelope_20.f k bt367.2.2.1 t374).bind fun t377 => (if t377 = true then (if bt367.2.1 = a0_1 then (if bt367.1 = a0_0 then ((sender_Check.f k bt367.1 bt367.2.1 bt367.2.2.1).bind fun t378 => (some (t378 == 0))) else (none)) else (none)) else (none)))) else (if bt367.1 = 0 then (some ((bt367.2.2.1.length : Int) == 0)) else (none)))))) else (none))
theorem spilelaw42_SenderTakes.mono : ∀ a0 a1 a2 a3 a4 k, LeO (spilelaw42_SenderTakes.f k a0 a1 a2 a3 a4) (spilelaw42_SenderTakes.f (k + 1) a0 a1 a2 a3 a4) := by
 intro a0 a1 a2 a3 a4 k
 unfold spilelaw42_SenderTakes.f
 repeat' first
   | (with_reducible exact api_Envelope_20.mono _ _ _)
   | (with_reducible exact sender_Check.mono _ _ _ _)
   | (with_reducible exact sender_Heard.mono _ _ _ _ _ _)
   | (with_reducible exact spilelaw42_awake.mono _)
   | (with_reducible exact LeO.refl _)
   | (with_reducible exact LeO.none _)
   | (with_reducible refine LeO.ite ?_ ?_)
   | (with_reducible refine LeO.bind ?_ (fun _ => ?_))
   | exact api_Envelope_20.mono _ _ _
   | exact sender_Check.mono _ _ _ _
   | exact sender_Heard.mono _ _ _ _ _ _
   | exact spilelaw42_awake.mono _
   | exact LeO.none _
   | refine LeO.ite ?_ ?_
   | refine LeO.bind ?_ (fun _ => ?_)
def spilelaw42_SenderTakes.T5 : Bool × List (List Nat × List Nat) := (true, [([], []), ([0], [0]), ([], []), ([1, 2, 1], [1, 2]), ([3], [3]), ([4], [4]), ([4], [4]), ([], []), ([7, 5, 3, 0, 1, 2, 3, 4, 5, 7], [5, 7]), ([6, 8, 0, 1, 2, 3, 4, 5, 6, 7, 8], [6])])
def spilelaw42_SenderTakes.B5 : List Nat := [0, 1, 0, 7, 15, 31, 31, 0, 191, 511]
theorem spilelaw42_SenderTakes.tab5 : rtab .any (opsOf Try.f5 5) = spilelaw42_SenderTakes.T5 := by kernel_rfl
theorem spilelaw42_SenderTakes.bits5 : waitsOk spilelaw42_SenderTakes.T5.2 spilelaw42_SenderTakes.B5 = true := by kernel_rfl
set_option maxHeartbeats 8000000 in
set_option maxRecDepth 100000 in
theorem spilelaw42_SenderTakes.calls (k : Nat) (a0_0 : Int) (a0_1 : Int) (A0_2 : Option Addr) (c0_2 : Nat) (l0_2 : List (S33)) (a1_0 : Int) (a1_1 : Int) (r : Bool) (w : World) (hr0_2 : Kd.C k33 w A0_2 l0_2.length l0_2) (hc0_2 : l0_2.length ≤ c0_2) (h : spilelaw42_SenderTakes.f k a0_0 a0_1 l0_2 a1_0 a1_1 = some r) :
  Calls Try.prog 5 #[.agg #[.int .i64 a0_0, .int .i64 a0_1, .slice A0_2 l0_2.length c0_2], .agg #[.int .i64 a1_0, .int .i64 a1_1]] w fun e w' => e = .returned (.bool r) ∧ Below w.heap.size w w' := by
 have hu24 := Try.underlying24
 have hu44 := Try.underlying44
 have HR0_2 := Aside0.mk hr0_2
 have HC0_2 := Aside0.mk hc0_2
 clear hr0_2 hc0_2
 have HB := Aside0.mk (Below.refl w.heap.size w)
 have H : ((spilelaw42_awake.f k).bind fun t361 => (if t361 = true then (if (l0_2.length : Int) > 14 then (some true) else ((spileref42_Copy.f a0_0 a0_1 l0_2).bind fun bt362 => ((sender_Heard.f k bt362.1 bt362.2.1 bt362.2.2 a1_0 a1_1).bind fun bt367 => (if bt367.2.2.2 = 0 then ((delf24.f l0_2 a1_0 a1_1).bind fun t374 => ((api_Envelope_20.f k bt367.2.2.1 t374).bind fun t377 => (if t377 = true then (if bt367.2.1 = a0_1 then (if bt367.1 = a0_0 then ((sender_Check.f k bt367.1 bt367.2.1 bt367.2.2.1).bind fun t378 => (some (t378 == 0))) else (none)) else (none)) else (none)))) else (if bt367.1 = 0 then (some ((bt367.2.2.1.length : Int) == 0)) else (none)))))) else (none))) = some r := h
 clear h
 replace H := Option.bind_eq_some_iff.mp H
 obtain ⟨t361, A30, H⟩ := H
 replace H : (if t361 = true then (if (l0_2.length : Int) > 14 then (some true) else ((spileref42_Copy.f a0_0 a0_1 l0_2).bind fun bt362 => ((sender_Heard.f k bt362.1 bt362.2.1 bt362.2.2 a1_0 a1_1).bind fun bt367 => (if bt367.2.2.2 = 0 then ((delf24.f l0_2 a1_0 a1_1).bind fun t374 => ((api_Envelope_20.f k bt367.2.2.1 t374).bind fun t377 => (if t377 = true then (if bt367.2.1 = a0_1 then (if bt367.1 = a0_0 then ((sender_Check.f k bt367.1 bt367.2.1 bt367.2.2.1).bind fun t378 => (some (t378 == 0))) else (none)) else (none)) else (none)))) else (if bt367.1 = 0 then (some ((bt367.2.2.1.length : Int) == 0)) else (none)))))) else (none)) = some r := H
 have A3 := Aside0.mk A30
 clear A30
 by_cases c4 : t361 = true
 ·subst c4
  have H1 : (if (l0_2.length : Int) > 14 then (some true) else ((spileref42_Copy.f a0_0 a0_1 l0_2).bind fun bt362 => ((sender_Heard.f k bt362.1 bt362.2.1 bt362.2.2 a1_0 a1_1).bind fun bt367 => (if bt367.2.2.2 = 0 then ((delf24.f l0_2 a1_0 a1_1).bind fun t374 => ((api_Envelope_20.f k bt367.2.2.1 t374).bind fun t377 => (if t377 = true then (if bt367.2.1 = a0_1 then (if bt367.1 = a0_0 then ((sender_Check.f k bt367.1 bt367.2.1 bt367.2.2.1).bind fun t378 => (some (t378 == 0))) else (none)) else (none)) else (none)))) else (if bt367.1 = 0 then (some ((bt367.2.2.1.length : Int) == 0)) else (none)))))) = some r := by rw [if_pos rfl] at H; exact H
  clear H
  have H := H1
  clear H1
  by_cases c5 : (l0_2.length : Int) > 14
  ·rw [if_pos c5] at H
   have c5b0 : decide (14 < (l0_2.length : Int)) = true := decide_eq_true c5
   have c5b1 : decide (14 < l0_2.length) = true := decide_eq_true (by omega)
   clear c5
   obtain rfl := Option.some.inj H
   go_enter Try.func5, Try.ntmps5
   go_wp2_with (first | ((with_reducible refine gqD (N := 2) rfl ?_); (try (refine gate_guard (by rfl) ?_; dsimp only)); refine box_event ?hg (N := 2) ?hd (cs := #[.int .i64 a0_0, .int .i64 a0_1, .slice A0_2 l0_2.length c0_2]) (t := 24) ?hr ?_; (case hd => rfl); (case hg => rfl); (case hr => first | (go_simp; done) | (go_simp; rfl)); intro gb359 hg w6 hbox hb; have n0_ := Aside0.mk (lqT (by repeat (first | (with_reducible first | exact HB.out | apply lqA | apply lqN | apply lqD) | exact HB.out)) hb); have n1_ := Aside0.mk (hbox); have n2_ := Aside0.mk ((by rw [hg]; exact (lqZ (by repeat (first | (with_reducible first | exact HB.out | apply lqA | apply lqN | apply lqD) | exact HB.out))) : w.heap.size ≤ gb359)); have n3_ := Aside0.mk ((by rw [hg]; exact (lqZ (by repeat (first | (with_reducible first | exact HB.out | apply lqA | apply lqN | apply lqD) | exact HB.out))) : w.heap.size ≤ gb359)); clear HB; have HB := n0_; have BK359 := n1_; have GW359 := n2_; have GE359 := n3_; clear n0_ n1_ n2_ n3_; clear hb hbox hg) | ((with_reducible refine gqD (N := 3) rfl ?_); (try (refine gate_guard (by rfl) ?_; dsimp only)); refine box_event ?hg (N := 3) ?hd (cs := #[.int .i64 a1_0, .int .i64 a1_1]) (t := 44) ?hr ?_; (case hd => rfl); (case hg => rfl); (case hr => first | (go_simp; done) | (go_simp; rfl)); intro gb360 hg w7 hbox hb; have n0_ := Aside0.mk (bqB (g := gb359) (o := .cells #[.int .i64 a0_0, .int .i64 a0_1, .slice A0_2 l0_2.length c0_2] 24 (0, 0)) (by (with_reducible repeat (first | refine bqN ?_ _ | refine bqD ?_ | refine bqA ?_ _)); exact BK359.out) hb); have n1_ := Aside0.mk (lqT (by repeat (first | (with_reducible first | exact HB.out | apply lqA | apply lqN | apply lqD | refine lqS ?_ GE359.out) | exact HB.out)) hb); have n2_ := Aside0.mk (hbox); have n3_ := Aside0.mk ((by rw [hg]; exact (lqZ (by repeat (first | (with_reducible first | exact HB.out | apply lqA | apply lqN | apply lqD | refine lqS ?_ GE359.out) | exact HB.out))) : w.heap.size ≤ gb360)); have n4_ := Aside0.mk ((by rw [hg]; exact (lqZ (by repeat (first | (with_reducible first | exact HB.out | apply lqA | apply lqN | apply lqD | refine lqS ?_ GE359.out) | exact HB.out))) : w.heap.size ≤ gb360)); have n5_ := Aside0.mk ((by rw [hg]; exact Nat.ne_of_lt (blk_lt (g := gb359) (o := .cells #[.int .i64 a0_0, .int .i64 a0_1, .slice A0_2 l0_2.length c0_2] 24 (0, 0)) (by (with_reducible repeat (first | refine bqN ?_ _ | refine bqD ?_ | refine bqA ?_ _)); exact BK359.out)) : gb359 ≠ gb360)); have n6_ := Aside0.mk ((by rw [hg]; exact Nat.ne_of_gt (blk_lt (g := gb359) (o := .cells #[.int .i64 a0_0, .int .i64 a0_1, .slice A0_2 l0_2.length c0_2] 24 (0, 0)) (by (with_reducible repeat (first | refine bqN ?_ _ | refine bqD ?_ | refine bqA ?_ _)); exact BK359.out)) : gb360 ≠ gb359)); clear BK359; clear HB; have BK359 := n0_; have HB := n1_; have BK360 := n2_; have GW360 := n3_; have GE360 := n4_; have NB359_360 := n5_; have NB360_359 := n6_; clear n0_ n1_ n2_ n3_ n4_ n5_ n6_; clear hb hbox hg) | ((with_reducible refine gqC (f := 10) rfl ?_); refine goesL_ (some 8) rfl rfl Try.func10 (by kernel_rfl) rfl #[] rfl (by (try simp only [List.map_toArray, List.map_cons, List.map_nil]); first | done | rfl | (simp only [List.length_drop, List.length_take]; rfl)) ?_; (with_reducible refine (spilelaw42_awake.calls k  true _ A3.out).mono ?_); rintro e w8 ⟨rfl, hb⟩; refine ⟨_, rfl, ?_⟩; have n0_ := Aside0.mk (bqB (g := gb359) (o := .cells #[.int .i64 a0_0, .int .i64 a0_1, .slice A0_2 l0_2.length c0_2] 24 (0, 0)) (by (with_reducible repeat (first | refine bqN ?_ _ | refine bqD ?_ | refine bqA ?_ _)); exact BK359.out) hb); have n1_ := Aside0.mk (bqB (g := gb360) (o := .cells #[.int .i64 a1_0, .int .i64 a1_1] 44 (0, 0)) (by (with_reducible repeat (first | refine bqN ?_ _ | refine bqD ?_ | refine bqA ?_ _)); exact BK360.out) hb); have n2_ := Aside0.mk (lqT (by repeat (first | (with_reducible first | exact HB.out | apply lqA | apply lqN | apply lqD | refine lqS ?_ GE359.out | refine lqS ?_ GE360.out) | exact HB.out)) hb); clear BK359; clear BK360; clear HB; have BK359 := n0_; have BK360 := n1_; have HB := n2_; clear n0_ n1_ n2_; (try clear hb); (try clear hb2); (try clear hk); (try clear hi); have hnb9 := NB359_360.out; have hnc9 := NB360_359.out; have hcz10_0 : w8.cell? ⟨gb359, 0, none⟩ = some (.int .i64 a0_0) := (bqC BK359.out 0).trans rfl; have hcz10_1 : w8.cell? ⟨gb359, 1, none⟩ = some (.int .i64 a0_1) := (bqC BK359.out 1).trans rfl; have hcz10_2 : w8.cell? ⟨gb359, 2, none⟩ = some (.slice A0_2 l0_2.length c0_2) := (bqC BK359.out 2).trans rfl; have hfz10_0 := bqF BK359.out 0; have hfz10_1 := bqF BK359.out 1; have hfz10_2 := bqF BK359.out 2))
   go_ret
   exact ⟨by first | rfl | (simp [errW_none, errW_some] <;> rfl) | (simp [*, errW_none, errW_some] <;> rfl), by repeat (first | (with_reducible first | exact HB.out | apply lqA | apply lqN | apply lqD | refine lqS ?_ GE359.out | refine lqS ?_ GE360.out) | exact HB.out)⟩
  ·rw [if_neg c5] at H
   have c5b0 : decide (14 < (l0_2.length : Int)) = false := decide_eq_false c5
   have c5b1 : decide (14 < l0_2.length) = false := decide_eq_false (by omega)
   clear c5
   replace H := Option.bind_eq_some_iff.mp H
   obtain ⟨⟨t362, t363, t364⟩, A110, H⟩ := H
   replace H : ((sender_Heard.f k t362 t363 t364 a1_0 a1_1).bind fun bt367 => (if bt367.2.2.2 = 0 then ((delf24.f l0_2 a1_0 a1_1).bind fun t374 => ((api_Envelope_20.f k bt367.2.2.1 t374).bind fun t377 => (if t377 = true then (if bt367.2.1 = a0_1 then (if bt367.1 = a0_0 then ((sender_Check.f k bt367.1 bt367.2.1 bt367.2.2.1).bind fun t378 => (some (t378 == 0))) else (none)) else (none)) else (none)))) else (if bt367.1 = 0 then (some ((bt367.2.2.1.length : Int) == 0)) else (none)))) = some r := H
   have A11 := Aside0.mk A110
   clear A110
   replace H := Option.bind_eq_some_iff.mp H
   obtain ⟨⟨t367, t368, t369, t372⟩, A120, H⟩ := H
   replace H : (if t372 = 0 then ((delf24.f l0_2 a1_0 a1_1).bind fun t374 => ((api_Envelope_20.f k t369 t374).bind fun t377 => (if t377 = true then (if t368 = a0_1 then (if t367 = a0_0 then ((sender_Check.f k t367 t368 t369).bind fun t378 => (some (t378 == 0))) else (none)) else (none)) else (none)))) else (if t367 = 0 then (some ((t369.length : Int) == 0)) else (none))) = some r := H
   have A12 := Aside0.mk A120
   clear A120
   by_cases c13 : t372 = 0
   ·rw [if_pos c13] at H
    have c13b0 : (t372 == 0) = true := beq_iff_eq.mpr c13
    try simp only [beq_self_eq_true, Bool.not_true, Bool.false_or, Bool.true_and] at c13b0
    have c13b1 : (t372 != 0) = false := bne_eq_false_iff_eq.mpr c13
    clear c13
    replace H := Option.bind_eq_some_iff.mp H
    obtain ⟨t374, A140, H⟩ := H
    replace H : ((api_Envelope_20.f k t369 t374).bind fun t377 => (if t377 = true then (if t368 = a0_1 then (if t367 = a0_0 then ((sender_Check.f k t367 t368 t369).bind fun t378 => (some (t378 == 0))) else (none)) else (none)) else (none))) = some r := H
    have A14 := Aside0.mk A140
    clear A140
    replace H := Option.bind_eq_some_iff.mp H
    obtain ⟨t377, A150, H⟩ := H
    replace H : (if t377 = true then (if t368 = a0_1 then (if t367 = a0_0 then ((sender_Check.f k t367 t368 t369).bind fun t378 => (some (t378 == 0))) else (none)) else (none)) else (none)) = some r := H
    have A15 := Aside0.mk A150
    clear A150
    by_cases c16 : t377 = true
    ·subst c16
     have H1 : (if t368 = a0_1 then (if t367 = a0_0 then ((sender_Check.f k t367 t368 t369).bind fun t378 => (some (t378 == 0))) else (none)) else (none)) = some r := by rw [if_pos rfl] at H; exact H
     clear H
     have H := H1
     clear H1
     by_cases c17 : t368 = a0_1
     ·rw [if_pos c17] at H
      have c17b0 : (t368 == a0_1) = true := beq_iff_eq.mpr c17
      try simp only [beq_self_eq_true, Bool.not_true, Bool.false_or, Bool.true_and] at c17b0
      have c17b1 : (t368 != a0_1) = false := bne_eq_false_iff_eq.mpr c17
      clear c17
      by_cases c18 : t367 = a0_0
      ·rw [if_pos c18] at H
       have c18b0 : (t367 == a0_0) = true := beq_iff_eq.mpr c18
       try simp only [beq_self_eq_true, Bool.not_true, Bool.false_or, Bool.true_and] at c18b0
       have c18b1 : (t367 != a0_0) = false := bne_eq_false_iff_eq.mpr c18
       clear c18
       replace H := Option.bind_eq_some_iff.mp H
       obtain ⟨t378, A190, H⟩ := H
       replace H : (some (t378 == 0)) = some r := H
       have A19 := Aside0.mk A190
       clear A190
       obtain rfl := Option.some.inj H
       have hm20_ := delf24_open A14.out
       have hm21_ := Aside0.mk hm20_.1
       have hm22_ := Aside0.mk hm20_.2
       clear hm20_
       go_enter Try.func5, Try.ntmps5
       try go_wp2_with (first | ((with_reducible refine gqD (N := 2) rfl ?_); (try (refine gate_guard (by rfl) ?_; dsimp only)); refine box_event ?hg (N := 2) ?hd (cs := #[.int .i64 a0_0, .int .i64 a0_1, .slice A0_2 l0_2.length c0_2]) (t := 24) ?hr ?_; (case hd => rfl); (case hg => rfl); (case hr => first | (go_simp; done) | (go_simp; rfl)); intro gb359 hg w20 hbox hb; have n0_ := Aside0.mk (lqT (by repeat (first | (with_reducible first | exact HB.out | apply lqA | apply lqN | apply lqD) | exact HB.out)) hb); have n1_ := Aside0.mk (hbox); have n2_ := Aside0.mk ((by rw [hg]; exact (lqZ (by repeat (first | (with_reducible first | exact HB.out | apply lqA | apply lqN | apply lqD) | exact HB.out))) : w.heap.size ≤ gb359)); have n3_ := Aside0.mk ((by rw [hg]; exact (lqZ (by repeat (first | (with_reducible first | exact HB.out | apply lqA | apply lqN | apply lqD) | exact HB.out))) : w.heap.size ≤ gb359)); clear HB; have HB := n0_; have BK359 := n1_; have GW359 := n2_; have GE359 := n3_; clear n0_ n1_ n2_ n3_; clear hb hbox hg) | ((with_reducible refine gqD (N := 3) rfl ?_); (try (refine gate_guard (by rfl) ?_; dsimp only)); refine box_event ?hg (N := 3) ?hd (cs := #[.int .i64 a1_0, .int .i64 a1_1]) (t := 44) ?hr ?_; (case hd => rfl); (case hg => rfl); (case hr => first | (go_simp; done) | (go_simp; rfl)); intro gb360 hg w21 hbox hb; have n0_ := Aside0.mk (bqB (g := gb359) (o := .cells #[.int .i64 a0_0, .int .i64 a0_1, .slice A0_2 l0_2.length c0_2] 24 (0, 0)) (by (with_reducible repeat (first | refine bqN ?_ _ | refine bqD ?_ | refine bqA ?_ _)); exact BK359.out) hb); have n1_ := Aside0.mk (lqT (by repeat (first | (with_reducible first | exact HB.out | apply lqA | apply lqN | apply lqD | refine lqS ?_ GE359.out) | exact HB.out)) hb); have n2_ := Aside0.mk (hbox); have n3_ := Aside0.mk ((by rw [hg]; exact (lqZ (by repeat (first | (with_reducible first | exact HB.out | apply lqA | apply lqN | apply lqD | refine lqS ?_ GE359.out) | exact HB.out))) : w.heap.size ≤ gb360)); have n4_ := Aside0.mk ((by rw [hg]; exact (lqZ (by repeat (first | (with_reducible first | exact HB.out | apply lqA | apply lqN | apply lqD | refine lqS ?_ GE359.out) | exact HB.out))) : w.heap.size ≤ gb360)); have n5_ := Aside0.mk ((by rw [hg]; exact Nat.ne_of_lt (blk_lt (g := gb359) (o := .cells #[.int .i64 a0_0, .int .i64 a0_1, .slice A0_2 l0_2.length c0_2] 24 (0, 0)) (by (with_reducible repeat (first | refine bqN ?_ _ | refine bqD ?_ | refine bqA ?_ _)); exact BK359.out)) : gb359 ≠ gb360)); have n6_ := Aside0.mk ((by rw [hg]; exact Nat.ne_of_gt (blk_lt (g := gb359) (o := .cells #[.int .i64 a0_0, .int .i64 a0_1, .slice A0_2 l0_2.length c0_2] 24 (0, 0)) (by (with_reducible repeat (first | refine bqN ?_ _ | refine bqD ?_ | refine bqA ?_ _)); exact BK359.out)) : gb360 ≠ gb359)); clear BK359; clear HB; have BK359 := n0_; have HB := n1_; have BK360 := n2_; have GW360 := n3_; have GE360 := n4_; have NB359_360 := n5_; have NB360_359 := n6_; clear n0_ n1_ n2_ n3_ n4_ n5_ n6_; clear hb hbox hg) | ((with_reducible refine gqC (f := 10) rfl ?_); refine goesL_ (some 8) rfl rfl Try.func10 (by kernel_rfl) rfl #[] rfl (by (try simp only [List.map_toArray, List.map_cons, List.map_nil]); first | done | rfl | (simp only [List.length_drop, List.length_take]; rfl)) ?_; (with_reducible refine (spilelaw42_awake.calls k  true _ A3.out).mono ?_); rintro e w22 ⟨rfl, hb⟩; refine ⟨_, rfl, ?_⟩; have n0_ := Aside0.mk (bqB (g := gb359) (o := .cells #[.int .i64 a0_0, .int .i64 a0_1, .slice A0_2 l0_2.length c0_2] 24 (0, 0)) (by (with_reducible repeat (first | refine bqN ?_ _ | refine bqD ?_ | refine bqA ?_ _)); exact BK359.out) hb); have n1_ := Aside0.mk (bqB (g := gb360) (o := .cells #[.int .i64 a1_0, .int .i64 a1_1] 44 (0, 0)) (by (with_reducible repeat (first | refine bqN ?_ _ | refine bqD ?_ | refine bqA ?_ _)); exact BK360.out) hb); have n2_ := Aside0.mk (lqT (by repeat (first | (with_reducible first | exact HB.out | apply lqA | apply lqN | apply lqD | refine lqS ?_ GE359.out | refine lqS ?_ GE360.out) | exact HB.out)) hb); clear BK359; clear BK360; clear HB; have BK359 := n0_; have BK360 := n1_; have HB := n2_; clear n0_ n1_ n2_; (try clear hb); (try clear hb2); (try clear hk); (try clear hi); have hnb23 := NB359_360.out; have hnc23 := NB360_359.out; have hcz24_0 : w22.cell? ⟨gb359, 0, none⟩ = some (.int .i64 a0_0) := (bqC BK359.out 0).trans rfl; have hcz24_1 : w22.cell? ⟨gb359, 1, none⟩ = some (.int .i64 a0_1) := (bqC BK359.out 1).trans rfl; have hcz24_2 : w22.cell? ⟨gb359, 2, none⟩ = some (.slice A0_2 l0_2.length c0_2) := (bqC BK359.out 2).trans rfl; have hfz24_0 := bqF BK359.out 0; have hfz24_1 := bqF BK359.out 1; have hfz24_2 := bqF BK359.out 2))
       have n0_ := Aside0.mk (bqD BK359.out)
       have n1_ := Aside0.mk (bqD BK360.out)
       have n2_ := Aside0.mk (lqD HB.out)
       clear BK359
       clear BK360
       clear HB
       have BK359 := n0_
       have BK360 := n1_
       have HB := n2_
       clear n0_ n1_ n2_
       refine start_ (n := 10) (S := fun w' => True) (ds := []) #[false, false, false, false, false, false, false, false, false, false] (by kernel_rfl) rfl rfl trivial (fun hHeld => ?_); refine with_tabW spilelaw42_SenderTakes.tab5 spilelaw42_SenderTakes.bits5 (fun HT_ HW_ => ?_)
       generalize w22.drew = w25 at BK359 BK360 HB hHeld ⊢
       refine inv_at [0, 1, 2, 3, 4, 5, 6, 7, 8, 9] (fun a0_ b a w' => ∃ (v365 : Value) (v370 : Value) (gb373 : Nat) (m1_ : Value) (m3_ : Value) (m4_ : Value) (m5_ : Value) (m7_ : Value), a = putSel a0_ b [(0, 15, .agg #[.int .i64 a0_0, .int .i64 a0_1, .slice A0_2 l0_2.length c0_2]), (1, 16, m1_), (2, 17, .agg #[.int .i64 a1_0, .int .i64 a1_1]), (3, 18, m3_), (4, 14, m4_), (5, 19, m5_), (6, 20, .int .i64 t372), (7, 5, m7_), (9, 6, .int .i64 t372)] ∧ (w'.heap[gb359]? = some (.cells #[.int .i64 a0_0, .int .i64 a0_1, .slice A0_2 l0_2.length c0_2] 24 (0, 0))) ∧ (w'.heap[gb360]? = some (.cells #[.int .i64 a1_0, .int .i64 a1_1] 44 (0, 0))) ∧ (Below w.heap.size w w') ∧ (b 1 = true → Kd.R k33 33 w' w.heap.size (fun _ => True) v365 t364) ∧ (b 3 = true → Kd.R k33 33 w' w.heap.size (fun _ => True) v370 t369) ∧ (b 7 = true → b 8 = false → w'.heap[gb373]? = some (.cells #[.int .i64 0, .int .i64 0, .slice none 0 0] 24 (0, 0))) ∧ (b 7 = true → w.heap.size ≤ gb373) ∧ (b 7 = true → w.heap.size ≤ gb373) ∧ (b 7 = true → gb359 ≠ gb373) ∧ (b 7 = true → gb373 ≠ gb359) ∧ (b 7 = true → gb360 ≠ gb373) ∧ (b 7 = true → gb373 ≠ gb360) ∧ (b 8 = true → w'.heap[gb373]? = some (.cells #[.int .i64 t367, .int .i64 t368, v370] 24 (0, 0))) ∧ (b 1 = true → (m1_ : Value) = .agg #[.int .i64 t362, .int .i64 t363, v365]) ∧ (b 3 = true → (m3_ : Value) = .tuple #[.agg #[.int .i64 t367, .int .i64 t368, v370], .int .i64 t372]) ∧ (b 4 = true → (m4_ : Value) = .tuple #[.agg #[.int .i64 t367, .int .i64 t368, v370], .int .i64 t372]) ∧ (b 5 = true → (m5_ : Value) = .agg #[.int .i64 t367, .int .i64 t368, v370]) ∧ (b 7 = true → (m7_ : Value) = .pointer (some ⟨gb373, 0, none⟩))) HT_.out HW_.out (by kernel_rfl) (by kernel_rfl) ?_ ?_ ?_
       ·exact ⟨.bool false, .bool false, 0, .bool false, .bool false, .bool false, .bool false, .bool false, by simp only [putSel, Bool.false_eq_true, if_false], BK359.out, BK360.out, HB.out, fun h_ => absurd h_ (by decide), fun h_ => absurd h_ (by decide), fun h_ => absurd h_ (by decide), fun h_ => absurd h_ (by decide), fun h_ => absurd h_ (by decide), fun h_ => absurd h_ (by decide), fun h_ => absurd h_ (by decide), fun h_ => absurd h_ (by decide), fun h_ => absurd h_ (by decide), fun h_ => absurd h_ (by decide), fun h_ => absurd h_ (by decide), fun h_ => absurd h_ (by decide), fun h_ => absurd h_ (by decide), fun h_ => absurd h_ (by decide), fun h_ => absurd h_ (by decide)⟩
       ·skip
        clear BK359 BK360 HB
        refine steps_cons ?_ ?_
        ·rintro b a w' ⟨v365, v370, gb373, m1_, m3_, m4_, m5_, m7_, ha, Q_BK359, Q_BK360, Q_HB, Q_HO366, Q_HO371, Q_BK373, Q_GW373, Q_GE373, Q_NB359_373, Q_NB373_359, Q_NB360_373, Q_NB373_360, Q_BK373_e8, Q_X1_, Q_X3_, Q_X4_, Q_X5_, Q_X7_⟩ hb_ hon hoff
         refine ⟨_, rfl, fun K hK => ?_⟩
         have e2 : a.tmps[2]? = some (.pointer (some ⟨gb359, 0, none⟩)) := by rw [ha]; exact (putSel_off rfl).trans rfl
         replace ha := Aside0.mk ha
         have BK359 := Aside0.mk Q_BK359
         have BK360 := Aside0.mk Q_BK360
         have HB := Aside0.mk Q_HB
         have hc0_ : w'.cell? ⟨gb359, 0, none⟩ = some (.int .i64 a0_0) := (bqC BK359.out 0).trans rfl
         have hc1_ : w'.cell? ⟨gb359, 1, none⟩ = some (.int .i64 a0_1) := (bqC BK359.out 1).trans rfl
         have hc2_ : w'.cell? ⟨gb359, 2, none⟩ = some (.slice A0_2 l0_2.length c0_2) := (bqC BK359.out 2).trans rfl
         refine value_ (w1 := w') (v := .agg #[.int .i64 a0_0, .int .i64 a0_1, .slice A0_2 l0_2.length c0_2]) (by rfl) rfl ?_ ?_
         ·go_simp
          (try simp only [i64_w])
          try rfl
         refine hK.out _ _ ⟨v365, v370, gb373, m1_, m3_, m4_, m5_, m7_, (by rw [ha.out]; exact putSel_upk 0 hb_ rfl rfl rfl), Q_BK359, Q_BK360, Q_HB, fun h0_ => absurd ((hoff 1 (by kernel_rfl)).symm.trans h0_) (by decide), fun h0_ => absurd ((hoff 3 (by kernel_rfl)).symm.trans h0_) (by decide), Q_BK373, Q_GW373, Q_GE373, Q_NB359_373, Q_NB373_359, Q_NB360_373, Q_NB373_360, fun h0_ => absurd ((hoff 8 (by kernel_rfl)).symm.trans h0_) (by decide), fun h0_ => absurd ((hoff 1 (by kernel_rfl)).symm.trans h0_) (by decide), fun h0_ => absurd ((hoff 3 (by kernel_rfl)).symm.trans h0_) (by decide), fun h0_ => absurd ((hoff 4 (by kernel_rfl)).symm.trans h0_) (by decide), fun h0_ => absurd ((hoff 5 (by kernel_rfl)).symm.trans h0_) (by decide), Q_X7_⟩
        refine steps_cons ?_ ?_
        ·rintro b a w' ⟨v365, v370, gb373, m1_, m3_, m4_, m5_, m7_, ha, Q_BK359, Q_BK360, Q_HB, Q_HO366, Q_HO371, Q_BK373, Q_GW373, Q_GE373, Q_NB359_373, Q_NB373_359, Q_NB360_373, Q_NB373_360, Q_BK373_e8, Q_X1_, Q_X3_, Q_X4_, Q_X5_, Q_X7_⟩ hb_ hon hoff
         refine ⟨_, rfl, fun K hK => ?_⟩
         have e15 : a.tmps[15]? = some (.agg #[.int .i64 a0_0, .int .i64 a0_1, .slice A0_2 l0_2.length c0_2]) := by rw [ha]; exact putSel_on (e := (0, 15, .agg #[.int .i64 a0_0, .int .i64 a0_1, .slice A0_2 l0_2.length c0_2])) 0 rfl rfl (hon 0 (by kernel_rfl)) rfl
         replace ha := Aside0.mk ha
         have BK359 := Aside0.mk Q_BK359
         have BK360 := Aside0.mk Q_BK360
         have HB := Aside0.mk Q_HB
         refine goes_ Try.func15 (by kernel_rfl) rfl #[.agg #[.int .i64 a0_0, .int .i64 a0_1, .slice A0_2 l0_2.length c0_2]] (by rfl) rfl rfl (by first | (simp only [List.map_toArray, List.map_cons, List.map_nil, Act.eval, Array.getD_eq_getD_getElem?, Option.getD_some, e15]; done) | (simp only [List.map_toArray, List.map_cons, List.map_nil, Act.eval, Array.getD_eq_getD_getElem?, Option.getD_some, e15]; rfl)) ?_
         with_reducible refine (spileref42_Copy.calls a0_0 a0_1 _ _ l0_2 t362 t363 t364 _ ?side1 ?side2 A11.out).mono ?_
         (case side1 => repeat (first | exact (Kd.C_below HR0_2.out HB.out) | (with_reducible refine Kd.C_alloc ?_ _) | (with_reducible refine Kd.C_drewN ?_ _) | (with_reducible refine Kd.C_drew ?_)))
         (case side2 => exact HC0_2.out)
         rintro e w26 ⟨v365, rfl, ho0, hb⟩
         refine ⟨_, rfl, ?_⟩
         have n0_ := Aside0.mk (Kd.R_lower ho0 (lqZ (by repeat (first | (with_reducible first | exact HB.out | apply lqA | apply lqN | apply lqD | refine lqS ?_ GE359.out | refine lqS ?_ GE360.out) | exact HB.out))))
         have n1_ := Aside0.mk (bqB (g := gb359) (o := .cells #[.int .i64 a0_0, .int .i64 a0_1, .slice A0_2 l0_2.length c0_2] 24 (0, 0)) (by (with_reducible repeat (first | refine bqN ?_ _ | refine bqD ?_ | refine bqA ?_ _)); exact BK359.out) hb)
         have n2_ := Aside0.mk (bqB (g := gb360) (o := .cells #[.int .i64 a1_0, .int .i64 a1_1] 44 (0, 0)) (by (with_reducible repeat (first | refine bqN ?_ _ | refine bqD ?_ | refine bqA ?_ _)); exact BK360.out) hb)
         have n3_ := Aside0.mk (lqT (by repeat (first | (with_reducible first | exact HB.out | apply lqA | apply lqN | apply lqD | refine lqS ?_ GE359.out | refine lqS ?_ GE360.out) | exact HB.out)) hb)
         have z_BK373 := fun (h0_ : b 7 = true) (h1_ : b 8 = false) => (show w26.heap[gb373]? = some (.cells #[.int .i64 0, .int .i64 0, .slice none 0 0] 24 (0, 0)) from by first | exact (bqB (g := gb373) (o := .cells #[.int .i64 0, .int .i64 0, .slice none 0 0] 24 (0, 0)) (by (with_reducible repeat (first | refine bqN ?_ _ | refine bqD ?_ | refine bqA ?_ _)); exact (Q_BK373 h0_ h1_)) hb))
         clear BK359
         clear BK360
         clear HB
         have HO366 := n0_
         have BK359 := n1_
         have BK360 := n2_
         have HB := n3_
         clear n0_ n1_ n2_ n3_
         (try clear hb)
         (try clear hb2)
         (try clear hk)
         (try clear hi)
         (try clear ho0)
         refine hK.out _ _ ⟨v365, v370, gb373, (.agg #[.int .i64 t362, .int .i64 t363, v365]), m3_, m4_, m5_, m7_, (by rw [ha.out]; exact putSel_upk 1 hb_ rfl rfl rfl), (by (with_reducible repeat (first | refine bqN ?_ _ | refine bqD ?_ | refine bqA ?_ _)); exact BK359.out), (by (with_reducible repeat (first | refine bqN ?_ _ | refine bqD ?_ | refine bqA ?_ _)); exact BK360.out), (by repeat (first | (with_reducible first | exact HB.out | apply lqA | apply lqN | apply lqD | refine lqS ?_ GE359.out | refine lqS ?_ GE360.out) | exact HB.out)), fun _ => (by (with_reducible repeat (first | apply Kd.R_alloc | apply Kd.R_drewN | apply Kd.R_drew)); exact HO366.out), fun h0_ => absurd ((hoff 3 (by kernel_rfl)).symm.trans h0_) (by decide), z_BK373, Q_GW373, Q_GE373, Q_NB359_373, Q_NB373_359, Q_NB360_373, Q_NB373_360, fun h0_ => absurd ((hoff 8 (by kernel_rfl)).symm.trans h0_) (by decide), fun _ => rfl, fun h0_ => absurd ((hoff 3 (by kernel_rfl)).symm.trans h0_) (by decide), fun h0_ => absurd ((hoff 4 (by kernel_rfl)).symm.trans h0_) (by decide), fun h0_ => absurd ((hoff 5 (by kernel_rfl)).symm.trans h0_) (by decide), Q_X7_⟩
        refine steps_cons ?_ ?_
        ·rintro b a w' ⟨v365, v370, gb373, m1_, m3_, m4_, m5_, m7_, ha, Q_BK359, Q_BK360, Q_HB, Q_HO366, Q_HO371, Q_BK373, Q_GW373, Q_GE373, Q_NB359_373, Q_NB373_359, Q_NB360_373, Q_NB373_360, Q_BK373_e8, Q_X1_, Q_X3_, Q_X4_, Q_X5_, Q_X7_⟩ hb_ hon hoff
         refine ⟨_, rfl, fun K hK => ?_⟩
         have e3 : a.tmps[3]? = some (.pointer (some ⟨gb360, 0, none⟩)) := by rw [ha]; exact (putSel_off rfl).trans rfl
         replace ha := Aside0.mk ha
         have BK359 := Aside0.mk Q_BK359
         have BK360 := Aside0.mk Q_BK360
         have HB := Aside0.mk Q_HB
         have hc0_ : w'.cell? ⟨gb360, 0, none⟩ = some (.int .i64 a1_0) := (bqC BK360.out 0).trans rfl
         have hc1_ : w'.cell? ⟨gb360, 1, none⟩ = some (.int .i64 a1_1) := (bqC BK360.out 1).trans rfl
         refine value_ (w1 := w') (v := .agg #[.int .i64 a1_0, .int .i64 a1_1]) (by rfl) rfl ?_ ?_
         ·go_simp
          (try simp only [i64_w])
          try rfl
         refine hK.out _ _ ⟨v365, v370, gb373, m1_, m3_, m4_, m5_, m7_, (by rw [ha.out]; exact putSel_upk 2 hb_ rfl rfl rfl), Q_BK359, Q_BK360, Q_HB, Q_HO366, fun h0_ => absurd ((hoff 3 (by kernel_rfl)).symm.trans h0_) (by decide), Q_BK373, Q_GW373, Q_GE373, Q_NB359_373, Q_NB373_359, Q_NB360_373, Q_NB373_360, fun h0_ => absurd ((hoff 8 (by kernel_rfl)).symm.trans h0_) (by decide), Q_X1_, fun h0_ => absurd ((hoff 3 (by kernel_rfl)).symm.trans h0_) (by decide), fun h0_ => absurd ((hoff 4 (by kernel_rfl)).symm.trans h0_) (by decide), fun h0_ => absurd ((hoff 5 (by kernel_rfl)).symm.trans h0_) (by decide), Q_X7_⟩
        refine steps_cons ?_ ?_
        ·rintro b a w' ⟨v365, v370, gb373, m1_, m3_, m4_, m5_, m7_, ha, Q_BK359, Q_BK360, Q_HB, Q_HO366, Q_HO371, Q_BK373, Q_GW373, Q_GE373, Q_NB359_373, Q_NB373_359, Q_NB360_373, Q_NB373_360, Q_BK373_e8, Q_X1_, Q_X3_, Q_X4_, Q_X5_, Q_X7_⟩ hb_ hon hoff
         refine ⟨_, rfl, fun K hK => ?_⟩
         have e16 : a.tmps[16]? = some (m1_) := by rw [ha]; exact putSel_on (e := (1, 16, m1_)) 1 rfl rfl (hon 1 (by kernel_rfl)) rfl
         rw [Q_X1_ (hon 1 (by kernel_rfl))] at e16
         have e17 : a.tmps[17]? = some (.agg #[.int .i64 a1_0, .int .i64 a1_1]) := by rw [ha]; exact putSel_on (e := (2, 17, .agg #[.int .i64 a1_0, .int .i64 a1_1])) 2 rfl rfl (hon 2 (by kernel_rfl)) rfl
         replace ha := Aside0.mk ha
         have BK359 := Aside0.mk Q_BK359
         have BK360 := Aside0.mk Q_BK360
         have HB := Aside0.mk Q_HB
         have HO366 := Aside0.mk (Q_HO366 (hon 1 (by kernel_rfl)))
         obtain ⟨Ao28, co28, eo28⟩ := Kd.R_slice HO366.out
         (first | subst eo28 | (injection eo28 with f1_ f2_ f3_; have f4_ := f1_.symm; have f5_ := f3_.symm; clear f1_ f2_ f3_; subst f4_; subst f5_))
         refine goes_ Try.func22 (by kernel_rfl) rfl #[.agg #[.int .i64 t362, .int .i64 t363, .slice Ao28 t364.length co28], .agg #[.int .i64 a1_0, .int .i64 a1_1]] (by rfl) rfl rfl (by first | (simp only [List.map_toArray, List.map_cons, List.map_nil, Act.eval, Array.getD_eq_getD_getElem?, Option.getD_some, e16, e17]; done) | (simp only [List.map_toArray, List.map_cons, List.map_nil, Act.eval, Array.getD_eq_getD_getElem?, Option.getD_some, e16, e17]; rfl)) ?_
         with_reducible refine (sender_Heard.calls k t362 t363 _ _ t364 a1_0 a1_1 t367 t368 t369 t372 _ ?side1 ?side2 A12.out).mono ?_
         (case side1 => repeat (first | exact (Kd.R_reads' HO366.out).2.2 | (with_reducible refine Kd.C_alloc ?_ _) | (with_reducible refine Kd.C_drewN ?_ _) | (with_reducible refine Kd.C_drew ?_)))
         (case side2 => exact (Kd.R_reads' HO366.out).2.1)
         rintro e w29 ⟨v370, rfl, ho0, hb⟩
         refine ⟨_, rfl, ?_⟩
         have n0_ := Aside0.mk (Kd.R_elder' (by (with_reducible repeat (first | apply Kd.R_alloc | apply Kd.R_drewN | apply Kd.R_drew)); exact HO366.out) (Kd.R_base ho0) hb)
         have n1_ := Aside0.mk (Kd.R_lower (Kd.R_new' ho0 (Kd.R_lt (by (with_reducible repeat (first | apply Kd.R_alloc | apply Kd.R_drewN | apply Kd.R_drew)); exact HO366.out))) (lqZ (by repeat (first | (with_reducible first | exact HB.out | apply lqA | apply lqN | apply lqD | refine lqS ?_ GE359.out | refine lqS ?_ GE360.out) | exact HB.out))))
         have n2_ := Aside0.mk (bqB (g := gb359) (o := .cells #[.int .i64 a0_0, .int .i64 a0_1, .slice A0_2 l0_2.length c0_2] 24 (0, 0)) (by (with_reducible repeat (first | refine bqN ?_ _ | refine bqD ?_ | refine bqA ?_ _)); exact BK359.out) hb)
         have n3_ := Aside0.mk (bqB (g := gb360) (o := .cells #[.int .i64 a1_0, .int .i64 a1_1] 44 (0, 0)) (by (with_reducible repeat (first | refine bqN ?_ _ | refine bqD ?_ | refine bqA ?_ _)); exact BK360.out) hb)
         have n4_ := Aside0.mk (lqT (by repeat (first | (with_reducible first | exact HB.out | apply lqA | apply lqN | apply lqD | refine lqS ?_ GE359.out | refine lqS ?_ GE360.out) | exact HB.out)) hb)
         have z_BK373 := fun (h0_ : b 7 = true) (h1_ : b 8 = false) => (show w29.heap[gb373]? = some (.cells #[.int .i64 0, .int .i64 0, .slice none 0 0] 24 (0, 0)) from by first | exact (bqB (g := gb373) (o := .cells #[.int .i64 0, .int .i64 0, .slice none 0 0] 24 (0, 0)) (by (with_reducible repeat (first | refine bqN ?_ _ | refine bqD ?_ | refine bqA ?_ _)); exact (Q_BK373 h0_ h1_)) hb))
         clear HO366
         clear BK359
         clear BK360
         clear HB
         have HO366 := n0_
         have HO371 := n1_
         have BK359 := n2_
         have BK360 := n3_
         have HB := n4_
         clear n0_ n1_ n2_ n3_ n4_
         (try clear hb)
         (try clear hb2)
         (try clear hk)
         (try clear hi)
         (try clear ho0)
         refine hK.out _ _ ⟨.slice Ao28 t364.length co28, v370, gb373, m1_, (.tuple #[.agg #[.int .i64 t367, .int .i64 t368, v370], .int .i64 t372]), m4_, m5_, m7_, (by rw [ha.out]; exact putSel_upk 3 hb_ rfl rfl rfl), (by (with_reducible repeat (first | refine bqN ?_ _ | refine bqD ?_ | refine bqA ?_ _)); exact BK359.out), (by (with_reducible repeat (first | refine bqN ?_ _ | refine bqD ?_ | refine bqA ?_ _)); exact BK360.out), (by repeat (first | (with_reducible first | exact HB.out | apply lqA | apply lqN | apply lqD | refine lqS ?_ GE359.out | refine lqS ?_ GE360.out) | exact HB.out)), fun _ => (by (with_reducible repeat (first | apply Kd.R_alloc | apply Kd.R_drewN | apply Kd.R_drew)); exact Kd.R_mono HO366.out (fun _ hk => GS.cj hk)), fun _ => (by (with_reducible repeat (first | apply Kd.R_alloc | apply Kd.R_drewN | apply Kd.R_drew)); exact Kd.R_mono HO371.out (fun _ hk => GS.cj hk)), z_BK373, Q_GW373, Q_GE373, Q_NB359_373, Q_NB373_359, Q_NB360_373, Q_NB373_360, fun h0_ => absurd ((hoff 8 (by kernel_rfl)).symm.trans h0_) (by decide), Q_X1_, fun _ => rfl, fun h0_ => absurd ((hoff 4 (by kernel_rfl)).symm.trans h0_) (by decide), fun h0_ => absurd ((hoff 5 (by kernel_rfl)).symm.trans h0_) (by decide), Q_X7_⟩
        refine steps_cons ?_ ?_
        ·rintro b a w' ⟨v365, v370, gb373, m1_, m3_, m4_, m5_, m7_, ha, Q_BK359, Q_BK360, Q_HB, Q_HO366, Q_HO371, Q_BK373, Q_GW373, Q_GE373, Q_NB359_373, Q_NB373_359, Q_NB360_373, Q_NB373_360, Q_BK373_e8, Q_X1_, Q_X3_, Q_X4_, Q_X5_, Q_X7_⟩ hb_ hon hoff
         refine ⟨_, rfl, fun K hK => ?_⟩
         have e18 : a.tmps[18]? = some (m3_) := by rw [ha]; exact putSel_on (e := (3, 18, m3_)) 3 rfl rfl (hon 3 (by kernel_rfl)) rfl
         rw [Q_X3_ (hon 3 (by kernel_rfl))] at e18
         replace ha := Aside0.mk ha
         have BK359 := Aside0.mk Q_BK359
         have BK360 := Aside0.mk Q_BK360
         have HB := Aside0.mk Q_HB
         have HO366 := Aside0.mk (Q_HO366 (hon 1 (by kernel_rfl)))
         have HO371 := Aside0.mk (Q_HO371 (hon 3 (by kernel_rfl)))
         refine value_ (w1 := w') (v := .tuple #[.agg #[.int .i64 t367, .int .i64 t368, v370], .int .i64 t372]) (by rfl) rfl ?_ ?_
         ·go_simp
          (try simp only [i64_w])
          try rfl
         refine hK.out _ _ ⟨v365, v370, gb373, m1_, m3_, (.tuple #[.agg #[.int .i64 t367, .int .i64 t368, v370], .int .i64 t372]), m5_, m7_, (by rw [ha.out]; exact putSel_upk 4 hb_ rfl rfl rfl), Q_BK359, Q_BK360, Q_HB, Q_HO366, Q_HO371, Q_BK373, Q_GW373, Q_GE373, Q_NB359_373, Q_NB373_359, Q_NB360_373, Q_NB373_360, fun h0_ => absurd ((hoff 8 (by kernel_rfl)).symm.trans h0_) (by decide), Q_X1_, Q_X3_, fun _ => rfl, fun h0_ => absurd ((hoff 5 (by kernel_rfl)).symm.trans h0_) (by decide), Q_X7_⟩
        refine steps_cons ?_ ?_
        ·rintro b a w' ⟨v365, v370, gb373, m1_, m3_, m4_, m5_, m7_, ha, Q_BK359, Q_BK360, Q_HB, Q_HO366, Q_HO371, Q_BK373, Q_GW373, Q_GE373, Q_NB359_373, Q_NB373_359, Q_NB360_373, Q_NB373_360, Q_BK373_e8, Q_X1_, Q_X3_, Q_X4_, Q_X5_, Q_X7_⟩ hb_ hon hoff
         refine ⟨_, rfl, fun K hK => ?_⟩
         have e14 : a.tmps[14]? = some (m4_) := by rw [ha]; exact putSel_on (e := (4, 14, m4_)) 4 rfl rfl (hon 4 (by kernel_rfl)) rfl
         rw [Q_X4_ (hon 4 (by kernel_rfl))] at e14
         replace ha := Aside0.mk ha
         have BK359 := Aside0.mk Q_BK359
         have BK360 := Aside0.mk Q_BK360
         have HB := Aside0.mk Q_HB
         have HO366 := Aside0.mk (Q_HO366 (hon 1 (by kernel_rfl)))
         have HO371 := Aside0.mk (Q_HO371 (hon 3 (by kernel_rfl)))
         refine value_ (w1 := w') (v := .agg #[.int .i64 t367, .int .i64 t368, v370]) (by rfl) rfl ?_ ?_
         ·go_simp
          (try simp only [i64_w])
          try rfl
         refine hK.out _ _ ⟨v365, v370, gb373, m1_, m3_, m4_, (.agg #[.int .i64 t367, .int .i64 t368, v370]), m7_, (by rw [ha.out]; exact putSel_upk 5 hb_ rfl rfl rfl), Q_BK359, Q_BK360, Q_HB, Q_HO366, Q_HO371, Q_BK373, Q_GW373, Q_GE373, Q_NB359_373, Q_NB373_359, Q_NB360_373, Q_NB373_360, fun h0_ => absurd ((hoff 8 (by kernel_rfl)).symm.trans h0_) (by decide), Q_X1_, Q_X3_, Q_X4_, fun _ => rfl, Q_X7_⟩
        refine steps_cons ?_ ?_
        ·rintro b a w' ⟨v365, v370, gb373, m1_, m3_, m4_, m5_, m7_, ha, Q_BK359, Q_BK360, Q_HB, Q_HO366, Q_HO371, Q_BK373, Q_GW373, Q_GE373, Q_NB359_373, Q_NB373_359, Q_NB360_373, Q_NB373_360, Q_BK373_e8, Q_X1_, Q_X3_, Q_X4_, Q_X5_, Q_X7_⟩ hb_ hon hoff
         refine ⟨_, rfl, fun K hK => ?_⟩
         have e14 : a.tmps[14]? = some (m4_) := by rw [ha]; exact putSel_on (e := (4, 14, m4_)) 4 rfl rfl (hon 4 (by kernel_rfl)) rfl
         rw [Q_X4_ (hon 4 (by kernel_rfl))] at e14
         replace ha := Aside0.mk ha
         have BK359 := Aside0.mk Q_BK359
         have BK360 := Aside0.mk Q_BK360
         have HB := Aside0.mk Q_HB
         have HO366 := Aside0.mk (Q_HO366 (hon 1 (by kernel_rfl)))
         have HO371 := Aside0.mk (Q_HO371 (hon 3 (by kernel_rfl)))
         refine value_ (w1 := w') (v := .int .i64 t372) (by rfl) rfl ?_ ?_
         ·go_simp
          (try simp only [i64_w])
          try rfl
         refine hK.out _ _ ⟨v365, v370, gb373, m1_, m3_, m4_, m5_, m7_, (by rw [ha.out]; exact putSel_upk 6 hb_ rfl rfl rfl), Q_BK359, Q_BK360, Q_HB, Q_HO366, Q_HO371, Q_BK373, Q_GW373, Q_GE373, Q_NB359_373, Q_NB373_359, Q_NB360_373, Q_NB373_360, Q_BK373_e8, Q_X1_, Q_X3_, Q_X4_, Q_X5_, Q_X7_⟩
        refine steps_cons ?_ ?_
        ·rintro b a w' ⟨v365, v370, gb373, m1_, m3_, m4_, m5_, m7_, ha, Q_BK359, Q_BK360, Q_HB, Q_HO366, Q_HO371, Q_BK373, Q_GW373, Q_GE373, Q_NB359_373, Q_NB373_359, Q_NB360_373, Q_NB373_360, Q_BK373_e8, Q_X1_, Q_X3_, Q_X4_, Q_X5_, Q_X7_⟩ hb_ hon hoff
         refine ⟨_, rfl, fun K hK => ?_⟩
         replace ha := Aside0.mk ha
         have BK359 := Aside0.mk Q_BK359
         have BK360 := Aside0.mk Q_BK360
         have HB := Aside0.mk Q_HB
         refine box_step ?hg (N := 5) ?hd (cs := #[.int .i64 0, .int .i64 0, .slice none 0 0]) (t := 24) ?hr ?_; (case hd => rfl); (case hg => rfl); (case hr => first | (go_simp; done) | (go_simp; rfl))
         intro gb373 hg w26 hbox hb
         have n0_ := Aside0.mk (bqB (g := gb359) (o := .cells #[.int .i64 a0_0, .int .i64 a0_1, .slice A0_2 l0_2.length c0_2] 24 (0, 0)) (by (with_reducible repeat (first | refine bqN ?_ _ | refine bqD ?_ | refine bqA ?_ _)); exact BK359.out) hb)
         have n1_ := Aside0.mk (bqB (g := gb360) (o := .cells #[.int .i64 a1_0, .int .i64 a1_1] 44 (0, 0)) (by (with_reducible repeat (first | refine bqN ?_ _ | refine bqD ?_ | refine bqA ?_ _)); exact BK360.out) hb)
         have n2_ := Aside0.mk (lqT (by repeat (first | (with_reducible first | exact HB.out | apply lqA | apply lqN | apply lqD | refine lqS ?_ GE359.out | refine lqS ?_ GE360.out) | exact HB.out)) hb)
         have n3_ := Aside0.mk (hbox)
         have n4_ := Aside0.mk ((by rw [hg]; exact (lqZ (by repeat (first | (with_reducible first | exact HB.out | apply lqA | apply lqN | apply lqD | refine lqS ?_ GE359.out | refine lqS ?_ GE360.out) | exact HB.out))) : w.heap.size ≤ gb373))
         have n5_ := Aside0.mk ((by rw [hg]; exact (lqZ (by repeat (first | (with_reducible first | exact HB.out | apply lqA | apply lqN | apply lqD | refine lqS ?_ GE359.out | refine lqS ?_ GE360.out) | exact HB.out))) : w.heap.size ≤ gb373))
         have n6_ := Aside0.mk ((by rw [hg]; exact Nat.ne_of_lt (blk_lt (g := gb359) (o := .cells #[.int .i64 a0_0, .int .i64 a0_1, .slice A0_2 l0_2.length c0_2] 24 (0, 0)) (by (with_reducible repeat (first | refine bqN ?_ _ | refine bqD ?_ | refine bqA ?_ _)); exact BK359.out)) : gb359 ≠ gb373))
         have n7_ := Aside0.mk ((by rw [hg]; exact Nat.ne_of_gt (blk_lt (g := gb359) (o := .cells #[.int .i64 a0_0, .int .i64 a0_1, .slice A0_2 l0_2.length c0_2] 24 (0, 0)) (by (with_reducible repeat (first | refine bqN ?_ _ | refine bqD ?_ | refine bqA ?_ _)); exact BK359.out)) : gb373 ≠ gb359))
         have n8_ := Aside0.mk ((by rw [hg]; exact Nat.ne_of_lt (blk_lt (g := gb360) (o := .cells #[.int .i64 a1_0, .int .i64 a1_1] 44 (0, 0)) (by (with_reducible repeat (first | refine bqN ?_ _ | refine bqD ?_ | refine bqA ?_ _)); exact BK360.out)) : gb360 ≠ gb373))
         have n9_ := Aside0.mk ((by rw [hg]; exact Nat.ne_of_gt (blk_lt (g := gb360) (o := .cells #[.int .i64 a1_0, .int .i64 a1_1] 44 (0, 0)) (by (with_reducible repeat (first | refine bqN ?_ _ | refine bqD ?_ | refine bqA ?_ _)); exact BK360.out)) : gb373 ≠ gb360))
         have z_HO366 := fun (h0_ : b 1 = true) => (show Kd.R k33 33 w26 w.heap.size (fun _ => True) v365 t364 from by first | exact (Kd.R_below (by (with_reducible repeat (first | apply Kd.R_alloc | apply Kd.R_drewN | apply Kd.R_drew)); exact (Q_HO366 h0_)) hb) | exact Kd.R_mono (Kd.R_below (by (with_reducible repeat (first | apply Kd.R_alloc | apply Kd.R_drewN | apply Kd.R_drew)); exact (Q_HO366 h0_)) hb) (fun _ hk => GS.cj hk))
         have z_HO371 := fun (h0_ : b 3 = true) => (show Kd.R k33 33 w26 w.heap.size (fun _ => True) v370 t369 from by first | exact (Kd.R_below (by (with_reducible repeat (first | apply Kd.R_alloc | apply Kd.R_drewN | apply Kd.R_drew)); exact (Q_HO371 h0_)) hb) | exact Kd.R_mono (Kd.R_below (by (with_reducible repeat (first | apply Kd.R_alloc | apply Kd.R_drewN | apply Kd.R_drew)); exact (Q_HO371 h0_)) hb) (fun _ hk => GS.cj hk))
         clear BK359
         clear BK360
         clear HB
         have BK359 := n0_
         have BK360 := n1_
         have HB := n2_
         have BK373 := n3_
         have GW373 := n4_
         have GE373 := n5_
         have NB359_373 := n6_
         have NB373_359 := n7_
         have NB360_373 := n8_
         have NB373_360 := n9_
         clear n0_ n1_ n2_ n3_ n4_ n5_ n6_ n7_ n8_ n9_
         clear hb hbox hg
         refine hK.out _ _ ⟨v365, v370, gb373, m1_, m3_, m4_, m5_, (.pointer (some ⟨gb373, 0, none⟩)), (by rw [ha.out]; exact putSel_upk 7 hb_ rfl rfl rfl), (by (with_reducible repeat (first | refine bqN ?_ _ | refine bqD ?_ | refine bqA ?_ _)); exact BK359.out), (by (with_reducible repeat (first | refine bqN ?_ _ | refine bqD ?_ | refine bqA ?_ _)); exact BK360.out), (by repeat (first | (with_reducible first | exact HB.out | apply lqA | apply lqN | apply lqD | refine lqS ?_ GE359.out | refine lqS ?_ GE360.out | refine lqS ?_ GE373.out) | exact HB.out)), z_HO366, z_HO371, fun _ _ => (by (with_reducible repeat (first | refine bqN ?_ _ | refine bqD ?_ | refine bqA ?_ _)); exact BK373.out), fun _ => GW373.out, fun _ => GE373.out, fun _ => NB359_373.out, fun _ => NB373_359.out, fun _ => NB360_373.out, fun _ => NB373_360.out, fun h0_ => absurd ((hoff 8 (by kernel_rfl)).symm.trans h0_) (by decide), Q_X1_, Q_X3_, Q_X4_, Q_X5_, fun _ => rfl⟩
        refine steps_cons ?_ ?_
        ·rintro b a w' ⟨v365, v370, gb373, m1_, m3_, m4_, m5_, m7_, ha, Q_BK359, Q_BK360, Q_HB, Q_HO366, Q_HO371, Q_BK373, Q_GW373, Q_GE373, Q_NB359_373, Q_NB373_359, Q_NB360_373, Q_NB373_360, Q_BK373_e8, Q_X1_, Q_X3_, Q_X4_, Q_X5_, Q_X7_⟩ hb_ hon hoff
         refine ⟨_, rfl, fun K hK => ?_⟩
         have e5 : a.tmps[5]? = some (m7_) := by rw [ha]; exact putSel_on (e := (7, 5, m7_)) 7 rfl rfl (hon 7 (by kernel_rfl)) rfl
         rw [Q_X7_ (hon 7 (by kernel_rfl))] at e5
         have e19 : a.tmps[19]? = some (m5_) := by rw [ha]; exact putSel_on (e := (5, 19, m5_)) 5 rfl rfl (hon 5 (by kernel_rfl)) rfl
         rw [Q_X5_ (hon 5 (by kernel_rfl))] at e19
         replace ha := Aside0.mk ha
         have BK359 := Aside0.mk Q_BK359
         have BK360 := Aside0.mk Q_BK360
         have HB := Aside0.mk Q_HB
         have HO366 := Aside0.mk (Q_HO366 (hon 1 (by kernel_rfl)))
         have HO371 := Aside0.mk (Q_HO371 (hon 3 (by kernel_rfl)))
         have BK373 := Aside0.mk (Q_BK373 (hon 7 (by kernel_rfl)) hb_)
         have GW373 := Aside0.mk (Q_GW373 (hon 7 (by kernel_rfl)))
         have GE373 := Aside0.mk (Q_GE373 (hon 7 (by kernel_rfl)))
         have NB359_373 := Aside0.mk (Q_NB359_373 (hon 7 (by kernel_rfl)))
         have NB373_359 := Aside0.mk (Q_NB373_359 (hon 7 (by kernel_rfl)))
         have NB360_373 := Aside0.mk (Q_NB360_373 (hon 7 (by kernel_rfl)))
         have NB373_360 := Aside0.mk (Q_NB373_360 (hon 7 (by kernel_rfl)))
         obtain ⟨Ao33, co33, eo33⟩ := Kd.R_slice HO371.out
         (first | subst eo33 | (injection eo33 with f1_ f2_ f3_; have f4_ := f1_.symm; have f5_ := f3_.symm; clear f1_ f2_ f3_; subst f4_; subst f5_))
         have hs31 : w'.cell? ⟨gb373, 0, none⟩ = some (.int .i64 0) := (bqC BK373.out 0).trans rfl
         have hfs31 := bqF BK373.out 0
         have hns31_0 := NB359_373.out
         have hns31_1 := NB360_373.out
         have hms31_0 := NB373_359.out
         have hms31_1 := NB373_360.out
         have hs32 : w'.cell? ⟨gb373, 1, none⟩ = some (.int .i64 0) := (bqC BK373.out 1).trans rfl
         have hfs32 := bqF BK373.out 1
         have hns32_0 := NB359_373.out
         have hns32_1 := NB360_373.out
         have hms32_0 := NB373_359.out
         have hms32_1 := NB373_360.out
         have hs34 : w'.cell? ⟨gb373, 2, none⟩ = some (.slice none 0 0) := (bqC BK373.out 2).trans rfl
         have hfs34 := bqF BK373.out 2
         have hns34_0 := NB359_373.out
         have hns34_1 := NB360_373.out
         have hms34_0 := NB373_359.out
         have hms34_1 := NB373_360.out
         refine skip_ (w1 := ?_) (by rfl) rfl ?_ ?_
         rotate_left
         ·go_simp
          rfl
         refine hK.out _ _ ⟨v365, .slice Ao33 t369.length co33, gb373, m1_, m3_, m4_, m5_, m7_, (by rw [ha.out]; exact putSel_none (v := undef) rfl), (by (with_reducible repeat (first | refine bqN ?_ _ | refine bqD ?_ | refine bqA ?_ _)); refine blk_far ?_ NB359_373.out _; (with_reducible repeat (first | refine bqN ?_ _ | refine bqD ?_ | refine bqA ?_ _)); refine blk_far ?_ NB359_373.out _; (with_reducible repeat (first | refine bqN ?_ _ | refine bqD ?_ | refine bqA ?_ _)); refine blk_far ?_ NB359_373.out _; (with_reducible repeat (first | refine bqN ?_ _ | refine bqD ?_ | refine bqA ?_ _)); exact BK359.out), (by (with_reducible repeat (first | refine bqN ?_ _ | refine bqD ?_ | refine bqA ?_ _)); refine blk_far ?_ NB360_373.out _; (with_reducible repeat (first | refine bqN ?_ _ | refine bqD ?_ | refine bqA ?_ _)); refine blk_far ?_ NB360_373.out _; (with_reducible repeat (first | refine bqN ?_ _ | refine bqD ?_ | refine bqA ?_ _)); refine blk_far ?_ NB360_373.out _; (with_reducible repeat (first | refine bqN ?_ _ | refine bqD ?_ | refine bqA ?_ _)); exact BK360.out), (by repeat (first | (with_reducible first | exact HB.out | apply lqA | apply lqN | apply lqD | refine lqS ?_ GE359.out | refine lqS ?_ GE360.out | refine lqS ?_ GE373.out) | exact HB.out)), fun _ => (by (with_reducible repeat (first | apply Kd.R_alloc | apply Kd.R_drewN | apply Kd.R_drew)); exact Kd.R_mono (Kd.R_far (p := ⟨gb373, 2, none⟩) (Kd.R_far (p := ⟨gb373, 1, none⟩) (Kd.R_far (p := ⟨gb373, 0, none⟩) (Kd.R_types HO366.out BK373.out (by decide)) (fun _ hk => hk.2) (.int .i64 t367)) (fun _ hk => hk.2) (.int .i64 t368)) (fun _ hk => hk.2) (.slice Ao33 t369.length co33)) (fun _ hk => GS.cj hk)), fun _ => (by (with_reducible repeat (first | apply Kd.R_alloc | apply Kd.R_drewN | apply Kd.R_drew)); exact Kd.R_mono (Kd.R_far (p := ⟨gb373, 2, none⟩) (Kd.R_far (p := ⟨gb373, 1, none⟩) (Kd.R_far (p := ⟨gb373, 0, none⟩) (Kd.R_types HO371.out BK373.out (by decide)) (fun _ hk => hk.2) (.int .i64 t367)) (fun _ hk => hk.2) (.int .i64 t368)) (fun _ hk => hk.2) (.slice Ao33 t369.length co33)) (fun _ hk => GS.cj hk)), fun _ h1_ => absurd ((up_self b 8).symm.trans h1_) (by decide), fun _ => GW373.out, fun _ => GE373.out, fun _ => NB359_373.out, fun _ => NB373_359.out, fun _ => NB360_373.out, fun _ => NB373_360.out, fun _ => (by (with_reducible repeat (first | refine bqN ?_ _ | refine bqD ?_ | refine bqA ?_ _)); refine bqP (cs := #[.int .i64 t367, .int .i64 t368, .slice none 0 0]) ?_ 2 _ rfl; (with_reducible repeat (first | refine bqN ?_ _ | refine bqD ?_ | refine bqA ?_ _)); refine bqP (cs := #[.int .i64 t367, .int .i64 0, .slice none 0 0]) ?_ 1 _ rfl; (with_reducible repeat (first | refine bqN ?_ _ | refine bqD ?_ | refine bqA ?_ _)); refine bqP (cs := #[.int .i64 0, .int .i64 0, .slice none 0 0]) ?_ 0 _ rfl; (with_reducible repeat (first | refine bqN ?_ _ | refine bqD ?_ | refine bqA ?_ _)); exact BK373.out), Q_X1_, Q_X3_, Q_X4_, Q_X5_, Q_X7_⟩
        refine steps_cons ?_ ?_
        ·rintro b a w' ⟨v365, v370, gb373, m1_, m3_, m4_, m5_, m7_, ha, Q_BK359, Q_BK360, Q_HB, Q_HO366, Q_HO371, Q_BK373, Q_GW373, Q_GE373, Q_NB359_373, Q_NB373_359, Q_NB360_373, Q_NB373_360, Q_BK373_e8, Q_X1_, Q_X3_, Q_X4_, Q_X5_, Q_X7_⟩ hb_ hon hoff
         refine ⟨_, rfl, fun K hK => ?_⟩
         have e20 : a.tmps[20]? = some (.int .i64 t372) := by rw [ha]; exact putSel_on (e := (6, 20, .int .i64 t372)) 6 rfl rfl (hon 6 (by kernel_rfl)) rfl
         replace ha := Aside0.mk ha
         have BK359 := Aside0.mk Q_BK359
         have BK360 := Aside0.mk Q_BK360
         have HB := Aside0.mk Q_HB
         have HO366 := Aside0.mk (Q_HO366 (hon 1 (by kernel_rfl)))
         have HO371 := Aside0.mk (Q_HO371 (hon 3 (by kernel_rfl)))
         have GW373 := Aside0.mk (Q_GW373 (hon 7 (by kernel_rfl)))
         have GE373 := Aside0.mk (Q_GE373 (hon 7 (by kernel_rfl)))
         have NB359_373 := Aside0.mk (Q_NB359_373 (hon 7 (by kernel_rfl)))
         have NB373_359 := Aside0.mk (Q_NB373_359 (hon 7 (by kernel_rfl)))
         have NB360_373 := Aside0.mk (Q_NB360_373 (hon 7 (by kernel_rfl)))
         have NB373_360 := Aside0.mk (Q_NB373_360 (hon 7 (by kernel_rfl)))
         have BK373 := Aside0.mk (Q_BK373_e8 (hon 8 (by kernel_rfl)))
         refine value_ (w1 := w') (v := .int .i64 t372) (by rfl) rfl ?_ ?_
         ·go_simp
          (try simp only [i64_w])
          try rfl
         refine hK.out _ _ ⟨v365, v370, gb373, m1_, m3_, m4_, m5_, m7_, (by rw [ha.out]; exact putSel_upk 8 hb_ rfl rfl rfl), Q_BK359, Q_BK360, Q_HB, Q_HO366, Q_HO371, fun _ h1_ => absurd ((hon 8 (by kernel_rfl)).symm.trans h1_) (by decide), Q_GW373, Q_GE373, Q_NB359_373, Q_NB373_359, Q_NB360_373, Q_NB373_360, Q_BK373_e8, Q_X1_, Q_X3_, Q_X4_, Q_X5_, Q_X7_⟩
        exact steps_nil
       rintro b a w34 hall ⟨v365, v370, gb373, m1_, m3_, m4_, m5_, m7_, ha, Q_BK359, Q_BK360, Q_HB, Q_HO366, Q_HO371, Q_BK373, Q_GW373, Q_GE373, Q_NB359_373, Q_NB373_359, Q_NB360_373, Q_NB373_360, Q_BK373_e8, Q_X1_, Q_X3_, Q_X4_, Q_X5_, Q_X7_⟩
       clear BK359 BK360 HB
       have hb0_ := hall 0 (by kernel_rfl)
       have hb1_ := hall 1 (by kernel_rfl)
       have hb2_ := hall 2 (by kernel_rfl)
       have hb3_ := hall 3 (by kernel_rfl)
       have hb4_ := hall 4 (by kernel_rfl)
       have hb5_ := hall 5 (by kernel_rfl)
       have hb6_ := hall 6 (by kernel_rfl)
       have hb7_ := hall 7 (by kernel_rfl)
       have hb8_ := hall 8 (by kernel_rfl)
       have hb9_ := hall 9 (by kernel_rfl)
       subst ha
       obtain rfl := Q_X1_ hb1_
       obtain rfl := Q_X3_ hb3_
       obtain rfl := Q_X4_ hb4_
       obtain rfl := Q_X5_ hb5_
       obtain rfl := Q_X7_ hb7_
       simp only [putSel, hb0_, hb1_, hb2_, hb3_, hb4_, hb5_, hb6_, hb7_, hb8_, hb9_, if_true, Act.put, List.setIfInBounds_toArray, List.set_cons_zero, List.set_cons_succ]
       have BK359 := Aside0.mk Q_BK359
       clear Q_BK359
       have BK360 := Aside0.mk Q_BK360
       clear Q_BK360
       have HB := Aside0.mk Q_HB
       clear Q_HB
       have HO366 := Aside0.mk (Q_HO366 hb1_)
       clear Q_HO366
       have HO371 := Aside0.mk (Q_HO371 hb3_)
       clear Q_HO371
       clear Q_BK373
       have GW373 := Aside0.mk (Q_GW373 hb7_)
       clear Q_GW373
       have GE373 := Aside0.mk (Q_GE373 hb7_)
       clear Q_GE373
       have NB359_373 := Aside0.mk (Q_NB359_373 hb7_)
       clear Q_NB359_373
       have NB373_359 := Aside0.mk (Q_NB373_359 hb7_)
       clear Q_NB373_359
       have NB360_373 := Aside0.mk (Q_NB360_373 hb7_)
       clear Q_NB360_373
       have NB373_360 := Aside0.mk (Q_NB373_360 hb7_)
       clear Q_NB373_360
       have BK373 := Aside0.mk (Q_BK373_e8 hb8_)
       clear Q_BK373_e8
       clear hall hb0_ hb1_ hb2_ hb3_ hb4_ hb5_ hb6_ hb7_ hb8_ hb9_
       have hnb35 := NB359_373.out
       have hnc35 := NB373_359.out
       have hcz36_0 : w34.cell? ⟨gb359, 0, none⟩ = some (.int .i64 a0_0) := (bqC BK359.out 0).trans rfl
       have hcz36_1 : w34.cell? ⟨gb359, 1, none⟩ = some (.int .i64 a0_1) := (bqC BK359.out 1).trans rfl
       have hcz36_2 : w34.cell? ⟨gb359, 2, none⟩ = some (.slice A0_2 l0_2.length c0_2) := (bqC BK359.out 2).trans rfl
       have hfz36_0 := bqF BK359.out 0
       have hfz36_1 := bqF BK359.out 1
       have hfz36_2 := bqF BK359.out 2
       have hnb37 := NB360_373.out
       have hnc37 := NB373_360.out
       have hcz38_0 : w34.cell? ⟨gb360, 0, none⟩ = some (.int .i64 a1_0) := (bqC BK360.out 0).trans rfl
       have hcz38_1 : w34.cell? ⟨gb360, 1, none⟩ = some (.int .i64 a1_1) := (bqC BK360.out 1).trans rfl
       have hfz38_0 := bqF BK360.out 0
       have hfz38_1 := bqF BK360.out 1
       try go_wp2_with (first | (go_at_call 21; refine (api_Envelope_21.calls _ _ l0_2 l0_2 _ ?side1_ HC0_2.out hm21_.out).mono ?_; (case side1_ => repeat (first | exact (Kd.C_below HR0_2.out HB.out) | (with_reducible refine Kd.C_alloc ?_ _) | (with_reducible refine Kd.C_drewN ?_ _) | (with_reducible refine Kd.C_drew ?_))); rintro e wc_ ⟨v_, rfl, hoc_, hbc_⟩; obtain ⟨Ac_, cc_, hvc_⟩ := Kd.R_slice hoc_; subst hvc_) | ((with_reducible refine gqC (f := 23) rfl ?_); refine goesL_ (some 36) rfl rfl Try.func23 (by kernel_rfl) rfl #[.slice Ac_ l0_2.length cc_, .func (.func 24) #[] #[.pointer (some ⟨gb360, 0, none⟩)]] rfl (by (try simp only [List.map_toArray, List.map_cons, List.map_nil]); first | done | rfl | (simp only [List.length_drop, List.length_take]; rfl)) ?_; refine (delf24.calls gb360 a1_0 a1_1 Ac_ cc_ l0_2 t374 _ _ hm22_.out hoc_ hbc_ (blk_below (by (with_reducible repeat (first | refine bqN ?_ _ | refine bqD ?_ | refine bqA ?_ _)); exact BK360.out) hbc_)).mono ?_; rintro e w39 ⟨v375, rfl, ho0, hb⟩; refine ⟨_, rfl, ?_⟩; have n0_ := Aside0.mk (Kd.R_elder' (by (with_reducible repeat (first | apply Kd.R_alloc | apply Kd.R_drewN | apply Kd.R_drew)); exact HO366.out) (Kd.R_base ho0) hb); have n1_ := Aside0.mk (Kd.R_elder' (by (with_reducible repeat (first | apply Kd.R_alloc | apply Kd.R_drewN | apply Kd.R_drew)); exact HO371.out) (Kd.R_base ho0) hb); have n2_ := Aside0.mk (Kd.R_lower (Kd.R_new' (Kd.R_new' ho0 (Kd.R_lt (by (with_reducible repeat (first | apply Kd.R_alloc | apply Kd.R_drewN | apply Kd.R_drew)); exact HO366.out))) (Kd.R_lt (by (with_reducible repeat (first | apply Kd.R_alloc | apply Kd.R_drewN | apply Kd.R_drew)); exact HO371.out))) (lqZ (by repeat (first | (with_reducible first | exact HB.out | apply lqA | apply lqN | apply lqD | refine lqS ?_ GE359.out | refine lqS ?_ GE360.out | refine lqS ?_ GE373.out) | exact HB.out)))); have n3_ := Aside0.mk (bqB (g := gb359) (o := .cells #[.int .i64 a0_0, .int .i64 a0_1, .slice A0_2 l0_2.length c0_2] 24 (0, 0)) (by (with_reducible repeat (first | refine bqN ?_ _ | refine bqD ?_ | refine bqA ?_ _)); exact BK359.out) hb); have n4_ := Aside0.mk (bqB (g := gb360) (o := .cells #[.int .i64 a1_0, .int .i64 a1_1] 44 (0, 0)) (by (with_reducible repeat (first | refine bqN ?_ _ | refine bqD ?_ | refine bqA ?_ _)); exact BK360.out) hb); have n5_ := Aside0.mk (bqB (g := gb373) (o := .cells #[.int .i64 t367, .int .i64 t368, v370] 24 (0, 0)) (by (with_reducible repeat (first | refine bqN ?_ _ | refine bqD ?_ | refine bqA ?_ _)); exact BK373.out) hb); have n6_ := Aside0.mk (lqT (by repeat (first | (with_reducible first | exact HB.out | apply lqA | apply lqN | apply lqD | refine lqS ?_ GE359.out | refine lqS ?_ GE360.out | refine lqS ?_ GE373.out) | exact HB.out)) hb); clear HO366; clear HO371; clear BK359; clear BK360; clear BK373; clear HB; have HO366 := n0_; have HO371 := n1_; have HO376 := n2_; have BK359 := n3_; have BK360 := n4_; have BK373 := n5_; have HB := n6_; clear n0_ n1_ n2_ n3_ n4_ n5_ n6_; (try clear hb); (try clear hb2); (try clear hk); (try clear hi); (try clear ho0); have hcz40_0 : w39.cell? ⟨gb373, 0, none⟩ = some (.int .i64 t367) := (bqC BK373.out 0).trans rfl; have hcz40_1 : w39.cell? ⟨gb373, 1, none⟩ = some (.int .i64 t368) := (bqC BK373.out 1).trans rfl; have hcz40_2 : w39.cell? ⟨gb373, 2, none⟩ = some (v370) := (bqC BK373.out 2).trans rfl; have hfz40_0 := bqF BK373.out 0; have hfz40_1 := bqF BK373.out 1; have hfz40_2 := bqF BK373.out 2; obtain ⟨Ao41, co41, eo41⟩ := Kd.R_slice HO371.out; subst eo41; obtain ⟨Ao42, co42, eo42⟩ := Kd.R_slice HO376.out; subst eo42) | ((with_reducible refine gqC (f := 20) rfl ?_); refine goesL_ (some 40) rfl rfl Try.func20 (by kernel_rfl) rfl #[.slice Ao41 t369.length co41, .slice Ao42 t374.length co42] rfl (by (try simp only [List.map_toArray, List.map_cons, List.map_nil]); first | done | rfl | (simp only [List.length_drop, List.length_take]; rfl)) ?_; (with_reducible refine (api_Envelope_20.calls k _ _ t369 _ _ t374 true _ ?side1 ?side2 ?side3 ?side4 A15.out).mono ?_); (case side1 => repeat (first | exact (Kd.R_reads' HO371.out).2.2 | (with_reducible refine Kd.C_alloc ?_ _) | (with_reducible refine Kd.C_drewN ?_ _) | (with_reducible refine Kd.C_drew ?_))); (case side2 => exact (Kd.R_reads' HO371.out).2.1); (case side3 => repeat (first | exact (Kd.R_reads' HO376.out).2.2 | (with_reducible refine Kd.C_alloc ?_ _) | (with_reducible refine Kd.C_drewN ?_ _) | (with_reducible refine Kd.C_drew ?_))); (case side4 => exact (Kd.R_reads' HO376.out).2.1); rintro e w' ⟨rfl, ⟨nd, rfl⟩⟩; refine ⟨_, rfl, ?_⟩; have hcz43_0 : w39.cell? ⟨gb359, 0, none⟩ = some (.int .i64 a0_0) := (bqC BK359.out 0).trans rfl; have hcz43_1 : w39.cell? ⟨gb359, 1, none⟩ = some (.int .i64 a0_1) := (bqC BK359.out 1).trans rfl; have hcz43_2 : w39.cell? ⟨gb359, 2, none⟩ = some (.slice A0_2 l0_2.length c0_2) := (bqC BK359.out 2).trans rfl; have hfz43_0 := bqF BK359.out 0; have hfz43_1 := bqF BK359.out 1; have hfz43_2 := bqF BK359.out 2) | (go_at_call 17; (with_reducible refine (sender_Check.calls k t367 t368 _ _ t369 t378 _ ?side1 ?side2 A19.out).mono ?_); (case side1 => repeat (first | exact (Kd.R_reads' HO371.out).2.2 | (with_reducible refine Kd.C_alloc ?_ _) | (with_reducible refine Kd.C_drewN ?_ _) | (with_reducible refine Kd.C_drew ?_))); (case side2 => exact (Kd.R_reads' HO371.out).2.1); rintro e w44 ⟨rfl, hb⟩; have n0_ := Aside0.mk (Kd.R_below (by (with_reducible repeat (first | apply Kd.R_alloc | apply Kd.R_drewN | apply Kd.R_drew)); exact HO366.out) hb); have n1_ := Aside0.mk (Kd.R_below (by (with_reducible repeat (first | apply Kd.R_alloc | apply Kd.R_drewN | apply Kd.R_drew)); exact HO371.out) hb); have n2_ := Aside0.mk (Kd.R_below (by (with_reducible repeat (first | apply Kd.R_alloc | apply Kd.R_drewN | apply Kd.R_drew)); exact HO376.out) hb); have n3_ := Aside0.mk (bqB (g := gb359) (o := .cells #[.int .i64 a0_0, .int .i64 a0_1, .slice A0_2 l0_2.length c0_2] 24 (0, 0)) (by (with_reducible repeat (first | refine bqN ?_ _ | refine bqD ?_ | refine bqA ?_ _)); exact BK359.out) hb); have n4_ := Aside0.mk (bqB (g := gb360) (o := .cells #[.int .i64 a1_0, .int .i64 a1_1] 44 (0, 0)) (by (with_reducible repeat (first | refine bqN ?_ _ | refine bqD ?_ | refine bqA ?_ _)); exact BK360.out) hb); have n5_ := Aside0.mk (bqB (g := gb373) (o := .cells #[.int .i64 t367, .int .i64 t368, .slice Ao41 t369.length co41] 24 (0, 0)) (by (with_reducible repeat (first | refine bqN ?_ _ | refine bqD ?_ | refine bqA ?_ _)); exact BK373.out) hb); have n6_ := Aside0.mk (lqT (by repeat (first | (with_reducible first | exact HB.out | apply lqA | apply lqN | apply lqD | refine lqS ?_ GE359.out | refine lqS ?_ GE360.out | refine lqS ?_ GE373.out) | exact HB.out)) hb); clear HO366; clear HO371; clear HO376; clear BK359; clear BK360; clear BK373; clear HB; have HO366 := n0_; have HO371 := n1_; have HO376 := n2_; have BK359 := n3_; have BK360 := n4_; have BK373 := n5_; have HB := n6_; clear n0_ n1_ n2_ n3_ n4_ n5_ n6_; (try clear hb); (try clear hb2); (try clear hk); (try clear hi)))
       go_ret
       exact ⟨by first | rfl | (simp [errW_none, errW_some] <;> rfl) | (simp [*, errW_none, errW_some] <;> rfl), by repeat (first | (with_reducible first | exact HB.out | apply lqA | apply lqN | apply lqD | refine lqS ?_ GE359.out | refine lqS ?_ GE360.out | refine lqS ?_ GE373.out) | exact HB.out)⟩
      ·rw [if_neg c18] at H
       exact absurd H (by simp)
     ·rw [if_neg c17] at H
      exact absurd H (by simp)
    ·replace c16 := Bool.eq_false_iff.mpr c16
     subst c16
     have H1 : (none) = some r := by rw [if_neg (show ¬ (false = true) by decide)] at H; exact H
     clear H
     have H := H1
     clear H1
     exact absurd H (by simp)
   ·rw [if_neg c13] at H
    have c13b0 : (t372 == 0) = false := beq_eq_false_iff_ne.mpr c13
    try simp only [beq_self_eq_true, Bool.not_true, Bool.false_or, Bool.true_and] at c13b0
    have c13b1 : (t372 != 0) = true := bne_iff_ne.mpr c13
    by_cases c45 : t367 = 0
    ·rw [if_pos c45] at H
     have c45b0 : (t367 == 0) = true := beq_iff_eq.mpr c45
     try simp only [beq_self_eq_true, Bool.not_true, Bool.false_or, Bool.true_and] at c45b0
     have c45b1 : (t367 != 0) = false := bne_eq_false_iff_eq.mpr c45
     clear c45
     obtain rfl := Option.some.inj H
     go_enter Try.func5, Try.ntmps5
     try go_wp2_with (first | ((with_reducible refine gqD (N := 2) rfl ?_); (try (refine gate_guard (by rfl) ?_; dsimp only)); refine box_event ?hg (N := 2) ?hd (cs := #[.int .i64 a0_0, .int .i64 a0_1, .slice A0_2 l0_2.length c0_2]) (t := 24) ?hr ?_; (case hd => rfl); (case hg => rfl); (case hr => first | (go_simp; done) | (go_simp; rfl)); intro gb359 hg w46 hbox hb; have n0_ := Aside0.mk (lqT (by repeat (first | (with_reducible first | exact HB.out | apply lqA | apply lqN | apply lqD) | exact HB.out)) hb); have n1_ := Aside0.mk (hbox); have n2_ := Aside0.mk ((by rw [hg]; exact (lqZ (by repeat (first | (with_reducible first | exact HB.out | apply lqA | apply lqN | apply lqD) | exact HB.out))) : w.heap.size ≤ gb359)); have n3_ := Aside0.mk ((by rw [hg]; exact (lqZ (by repeat (first | (with_reducible first | exact HB.out | apply lqA | apply lqN | apply lqD) | exact HB.out))) : w.heap.size ≤ gb359)); clear HB; have HB := n0_; have BK359 := n1_; have GW359 := n2_; have GE359 := n3_; clear n0_ n1_ n2_ n3_; clear hb hbox hg) | ((with_reducible refine gqD (N := 3) rfl ?_); (try (refine gate_guard (by rfl) ?_; dsimp only)); refine box_event ?hg (N := 3) ?hd (cs := #[.int .i64 a1_0, .int .i64 a1_1]) (t := 44) ?hr ?_; (case hd => rfl); (case hg => rfl); (case hr => first | (go_simp; done) | (go_simp; rfl)); intro gb360 hg w47 hbox hb; have n0_ := Aside0.mk (bqB (g := gb359) (o := .cells #[.int .i64 a0_0, .int .i64 a0_1, .slice A0_2 l0_2.length c0_2] 24 (0, 0)) (by (with_reducible repeat (first | refine bqN ?_ _ | refine bqD ?_ | refine bqA ?_ _)); exact BK359.out) hb); have n1_ := Aside0.mk (lqT (by repeat (first | (with_reducible first | exact HB.out | apply lqA | apply lqN | apply lqD | refine lqS ?_ GE359.out) | exact HB.out)) hb); have n2_ := Aside0.mk (hbox); have n3_ := Aside0.mk ((by rw [hg]; exact (lqZ (by repeat (first | (with_reducible first | exact HB.out | apply lqA | apply lqN | apply lqD | refine lqS ?_ GE359.out) | exact HB.out))) : w.heap.size ≤ gb360)); have n4_ := Aside0.mk ((by rw [hg]; exact (lqZ (by repeat (first | (with_reducible first | exact HB.out | apply lqA | apply lqN | apply lqD | refine lqS ?_ GE359.out) | exact HB.out))) : w.heap.size ≤ gb360)); have n5_ := Aside0.mk ((by rw [hg]; exact Nat.ne_of_lt (blk_lt (g := gb359) (o := .cells #[.int .i64 a0_0, .int .i64 a0_1, .slice A0_2 l0_2.length c0_2] 24 (0, 0)) (by (with_reducible repeat (first | refine bqN ?_ _ | refine bqD ?_ | refine bqA ?_ _)); exact BK359.out)) : gb359 ≠ gb360)); have n6_ := Aside0.mk ((by rw [hg]; exact Nat.ne_of_gt (blk_lt (g := gb359) (o := .cells #[.int .i64 a0_0, .int .i64 a0_1, .slice A0_2 l0_2.length c0_2] 24 (0, 0)) (by (with_reducible repeat (first | refine bqN ?_ _ | refine bqD ?_ | refine bqA ?_ _)); exact BK359.out)) : gb360 ≠ gb359)); clear BK359; clear HB; have BK359 := n0_; have HB := n1_; have BK360 := n2_; have GW360 := n3_; have GE360 := n4_; have NB359_360 := n5_; have NB360_359 := n6_; clear n0_ n1_ n2_ n3_ n4_ n5_ n6_; clear hb hbox hg) | ((with_reducible refine gqC (f := 10) rfl ?_); refine goesL_ (some 8) rfl rfl Try.func10 (by kernel_rfl) rfl #[] rfl (by (try simp only [List.map_toArray, List.map_cons, List.map_nil]); first | done | rfl | (simp only [List.length_drop, List.length_take]; rfl)) ?_; (with_reducible refine (spilelaw42_awake.calls k  true _ A3.out).mono ?_); rintro e w48 ⟨rfl, hb⟩; refine ⟨_, rfl, ?_⟩; have n0_ := Aside0.mk (bqB (g := gb359) (o := .cells #[.int .i64 a0_0, .int .i64 a0_1, .slice A0_2 l0_2.length c0_2] 24 (0, 0)) (by (with_reducible repeat (first | refine bqN ?_ _ | refine bqD ?_ | refine bqA ?_ _)); exact BK359.out) hb); have n1_ := Aside0.mk (bqB (g := gb360) (o := .cells #[.int .i64 a1_0, .int .i64 a1_1] 44 (0, 0)) (by (with_reducible repeat (first | refine bqN ?_ _ | refine bqD ?_ | refine bqA ?_ _)); exact BK360.out) hb); have n2_ := Aside0.mk (lqT (by repeat (first | (with_reducible first | exact HB.out | apply lqA | apply lqN | apply lqD | refine lqS ?_ GE359.out | refine lqS ?_ GE360.out) | exact HB.out)) hb); clear BK359; clear BK360; clear HB; have BK359 := n0_; have BK360 := n1_; have HB := n2_; clear n0_ n1_ n2_; (try clear hb); (try clear hb2); (try clear hk); (try clear hi); have hnb49 := NB359_360.out; have hnc49 := NB360_359.out; have hcz50_0 : w48.cell? ⟨gb359, 0, none⟩ = some (.int .i64 a0_0) := (bqC BK359.out 0).trans rfl; have hcz50_1 : w48.cell? ⟨gb359, 1, none⟩ = some (.int .i64 a0_1) := (bqC BK359.out 1).trans rfl; have hcz50_2 : w48.cell? ⟨gb359, 2, none⟩ = some (.slice A0_2 l0_2.length c0_2) := (bqC BK359.out 2).trans rfl; have hfz50_0 := bqF BK359.out 0; have hfz50_1 := bqF BK359.out 1; have hfz50_2 := bqF BK359.out 2))
     have n0_ := Aside0.mk (bqD BK359.out)
     have n1_ := Aside0.mk (bqD BK360.out)
     have n2_ := Aside0.mk (lqD HB.out)
     clear BK359
     clear BK360
     clear HB
     have BK359 := n0_
     have BK360 := n1_
     have HB := n2_
     clear n0_ n1_ n2_
     refine start_ (n := 10) (S := fun w' => True) (ds := []) #[false, false, false, false, false, false, false, false, false, false] (by kernel_rfl) rfl rfl trivial (fun hHeld => ?_); refine with_tabW spilelaw42_SenderTakes.tab5 spilelaw42_SenderTakes.bits5 (fun HT_ HW_ => ?_)
     generalize w48.drew = w51 at BK359 BK360 HB hHeld ⊢
     refine inv_at [0, 1, 2, 3, 4, 5, 6, 7, 8, 9] (fun a0_ b a w' => ∃ (v365 : Value) (v370 : Value) (gb373 : Nat) (m1_ : Value) (m3_ : Value) (m4_ : Value) (m5_ : Value) (m7_ : Value), a = putSel a0_ b [(0, 15, .agg #[.int .i64 a0_0, .int .i64 a0_1, .slice A0_2 l0_2.length c0_2]), (1, 16, m1_), (2, 17, .agg #[.int .i64 a1_0, .int .i64 a1_1]), (3, 18, m3_), (4, 14, m4_), (5, 19, m5_), (6, 20, .int .i64 t372), (7, 5, m7_), (9, 6, .int .i64 t372)] ∧ (w'.heap[gb359]? = some (.cells #[.int .i64 a0_0, .int .i64 a0_1, .slice A0_2 l0_2.length c0_2] 24 (0, 0))) ∧ (w'.heap[gb360]? = some (.cells #[.int .i64 a1_0, .int .i64 a1_1] 44 (0, 0))) ∧ (Below w.heap.size w w') ∧ (b 1 = true → Kd.R k33 33 w' w.heap.size (fun _ => True) v365 t364) ∧ (b 3 = true → Kd.R k33 33 w' w.heap.size (fun _ => True) v370 t369) ∧ (b 7 = true → b 8 = false → w'.heap[gb373]? = some (.cells #[.int .i64 0, .int .i64 0, .slice none 0 0] 24 (0, 0))) ∧ (b 7 = true → w.heap.size ≤ gb373) ∧ (b 7 = true → w.heap.size ≤ gb373) ∧ (b 7 = true → gb359 ≠ gb373) ∧ (b 7 = true → gb373 ≠ gb359) ∧ (b 7 = true → gb360 ≠ gb373) ∧ (b 7 = true → gb373 ≠ gb360) ∧ (b 8 = true → w'.heap[gb373]? = some (.cells #[.int .i64 t367, .int .i64 t368, v370] 24 (0, 0))) ∧ (b 1 = true → (m1_ : Value) = .agg #[.int .i64 t362, .int .i64 t363, v365]) ∧ (b 3 = true → (m3_ : Value) = .tuple #[.agg #[.int .i64 t367, .int .i64 t368, v370], .int .i64 t372]) ∧ (b 4 = true → (m4_ : Value) = .tuple #[.agg #[.int .i64 t367, .int .i64 t368, v370], .int .i64 t372]) ∧ (b 5 = true → (m5_ : Value) = .agg #[.int .i64 t367, .int .i64 t368, v370]) ∧ (b 7 = true → (m7_ : Value) = .pointer (some ⟨gb373, 0, none⟩))) HT_.out HW_.out (by kernel_rfl) (by kernel_rfl) ?_ ?_ ?_
     ·exact ⟨.bool false, .bool false, 0, .bool false, .bool false, .bool false, .bool false, .bool false, by simp only [putSel, Bool.false_eq_true, if_false], BK359.out, BK360.out, HB.out, fun h_ => absurd h_ (by decide), fun h_ => absurd h_ (by decide), fun h_ => absurd h_ (by decide), fun h_ => absurd h_ (by decide), fun h_ => absurd h_ (by decide), fun h_ => absurd h_ (by decide), fun h_ => absurd h_ (by decide), fun h_ => absurd h_ (by decide), fun h_ => absurd h_ (by decide), fun h_ => absurd h_ (by decide), fun h_ => absurd h_ (by decide), fun h_ => absurd h_ (by decide), fun h_ => absurd h_ (by decide), fun h_ => absurd h_ (by decide), fun h_ => absurd h_ (by decide)⟩
     ·skip
      clear BK359 BK360 HB
      refine steps_cons ?_ ?_
      ·rintro b a w' ⟨v365, v370, gb373, m1_, m3_, m4_, m5_, m7_, ha, Q_BK359, Q_BK360, Q_HB, Q_HO366, Q_HO371, Q_BK373, Q_GW373, Q_GE373, Q_NB359_373, Q_NB373_359, Q_NB360_373, Q_NB373_360, Q_BK373_e8, Q_X1_, Q_X3_, Q_X4_, Q_X5_, Q_X7_⟩ hb_ hon hoff
       refine ⟨_, rfl, fun K hK => ?_⟩
       have e2 : a.tmps[2]? = some (.pointer (some ⟨gb359, 0, none⟩)) := by rw [ha]; exact (putSel_off rfl).trans rfl
       replace ha := Aside0.mk ha
       have BK359 := Aside0.mk Q_BK359
       have BK360 := Aside0.mk Q_BK360
       have HB := Aside0.mk Q_HB
       have hc0_ : w'.cell? ⟨gb359, 0, none⟩ = some (.int .i64 a0_0) := (bqC BK359.out 0).trans rfl
       have hc1_ : w'.cell? ⟨gb359, 1, none⟩ = some (.int .i64 a0_1) := (bqC BK359.out 1).trans rfl
       have hc2_ : w'.cell? ⟨gb359, 2, none⟩ = some (.slice A0_2 l0_2.length c0_2) := (bqC BK359.out 2).trans rfl
       refine value_ (w1 := w') (v := .agg #[.int .i64 a0_0, .int .i64 a0_1, .slice A0_2 l0_2.length c0_2]) (by rfl) rfl ?_ ?_
       ·go_simp
        (try simp only [i64_w])
        try rfl
       refine hK.out _ _ ⟨v365, v370, gb373, m1_, m3_, m4_, m5_, m7_, (by rw [ha.out]; exact putSel_upk 0 hb_ rfl rfl rfl), Q_BK359, Q_BK360, Q_HB, fun h0_ => absurd ((hoff 1 (by kernel_rfl)).symm.trans h0_) (by decide), fun h0_ => absurd ((hoff 3 (by kernel_rfl)).symm.trans h0_) (by decide), Q_BK373, Q_GW373, Q_GE373, Q_NB359_373, Q_NB373_359, Q_NB360_373, Q_NB373_360, fun h0_ => absurd ((hoff 8 (by kernel_rfl)).symm.trans h0_) (by decide), fun h0_ => absurd ((hoff 1 (by kernel_rfl)).symm.trans h0_) (by decide), fun h0_ => absurd ((hoff 3 (by kernel_rfl)).symm.trans h0_) (by decide), fun h0_ => absurd ((hoff 4 (by kernel_rfl)).symm.trans h0_) (by decide), fun h0_ => absurd ((hoff 5 (by kernel_rfl)).symm.trans h0_) (by decide), Q_X7_⟩
      refine steps_cons ?_ ?_
      ·rintro b a w' ⟨v365, v370, gb373, m1_, m3_, m4_, m5_, m7_, ha, Q_BK359, Q_BK360, Q_HB, Q_HO366, Q_HO371, Q_BK373, Q_GW373, Q_GE373, Q_NB359_373, Q_NB373_359, Q_NB360_373, Q_NB373_360, Q_BK373_e8, Q_X1_, Q_X3_, Q_X4_, Q_X5_, Q_X7_⟩ hb_ hon hoff
       refine ⟨_, rfl, fun K hK => ?_⟩
       have e15 : a.tmps[15]? = some (.agg #[.int .i64 a0_0, .int .i64 a0_1, .slice A0_2 l0_2.length c0_2]) := by rw [ha]; exact putSel_on (e := (0, 15, .agg #[.int .i64 a0_0, .int .i64 a0_1, .slice A0_2 l0_2.length c0_2])) 0 rfl rfl (hon 0 (by kernel_rfl)) rfl
       replace ha := Aside0.mk ha
       have BK359 := Aside0.mk Q_BK359
       have BK360 := Aside0.mk Q_BK360
       have HB := Aside0.mk Q_HB
       refine goes_ Try.func15 (by kernel_rfl) rfl #[.agg #[.int .i64 a0_0, .int .i64 a0_1, .slice A0_2 l0_2.length c0_2]] (by rfl) rfl rfl (by first | (simp only [List.map_toArray, List.map_cons, List.map_nil, Act.eval, Array.getD_eq_getD_getElem?, Option.getD_some, e15]; done) | (simp only [List.map_toArray, List.map_cons, List.map_nil, Act.eval, Array.getD_eq_getD_getElem?, Option.getD_some, e15]; rfl)) ?_
       with_reducible refine (spileref42_Copy.calls a0_0 a0_1 _ _ l0_2 t362 t363 t364 _ ?side1 ?side2 A11.out).mono ?_
       (case side1 => repeat (first | exact (Kd.C_below HR0_2.out HB.out) | (with_reducible refine Kd.C_alloc ?_ _) | (with_reducible refine Kd.C_drewN ?_ _) | (with_reducible refine Kd.C_drew ?_)))
       (case side2 => exact HC0_2.out)
       rintro e w52 ⟨v365, rfl, ho0, hb⟩
       refine ⟨_, rfl, ?_⟩
       have n0_ := Aside0.mk (Kd.R_lower ho0 (lqZ (by repeat (first | (with_reducible first | exact HB.out | apply lqA | apply lqN | apply lqD | refine lqS ?_ GE359.out | refine lqS ?_ GE360.out) | exact HB.out))))
       have n1_ := Aside0.mk (bqB (g := gb359) (o := .cells #[.int .i64 a0_0, .int .i64 a0_1, .slice A0_2 l0_2.length c0_2] 24 (0, 0)) (by (with_reducible repeat (first | refine bqN ?_ _ | refine bqD ?_ | refine bqA ?_ _)); exact BK359.out) hb)
       have n2_ := Aside0.mk (bqB (g := gb360) (o := .cells #[.int .i64 a1_0, .int .i64 a1_1] 44 (0, 0)) (by (with_reducible repeat (first | refine bqN ?_ _ | refine bqD ?_ | refine bqA ?_ _)); exact BK360.out) hb)
       have n3_ := Aside0.mk (lqT (by repeat (first | (with_reducible first | exact HB.out | apply lqA | apply lqN | apply lqD | refine lqS ?_ GE359.out | refine lqS ?_ GE360.out) | exact HB.out)) hb)
       have z_BK373 := fun (h0_ : b 7 = true) (h1_ : b 8 = false) => (show w52.heap[gb373]? = some (.cells #[.int .i64 0, .int .i64 0, .slice none 0 0] 24 (0, 0)) from by first | exact (bqB (g := gb373) (o := .cells #[.int .i64 0, .int .i64 0, .slice none 0 0] 24 (0, 0)) (by (with_reducible repeat (first | refine bqN ?_ _ | refine bqD ?_ | refine bqA ?_ _)); exact (Q_BK373 h0_ h1_)) hb))
       clear BK359
       clear BK360
       clear HB
       have HO366 := n0_
       have BK359 := n1_
       have BK360 := n2_
       have HB := n3_
       clear n0_ n1_ n2_ n3_
       (try clear hb)
       (try clear hb2)
       (try clear hk)
       (try clear hi)
       (try clear ho0)
       refine hK.out _ _ ⟨v365, v370, gb373, (.agg #[.int .i64 t362, .int .i64 t363, v365]), m3_, m4_, m5_, m7_, (by rw [ha.out]; exact putSel_upk 1 hb_ rfl rfl rfl), (by (with_reducible repeat (first | refine bqN ?_ _ | refine bqD ?_ | refine bqA ?_ _)); exact BK359.out), (by (with_reducible repeat (first | refine bqN ?_ _ | refine bqD ?_ | refine bqA ?_ _)); exact BK360.out), (by repeat (first | (with_reducible first | exact HB.out | apply lqA | apply lqN | apply lqD | refine lqS ?_ GE359.out | refine lqS ?_ GE360.out) | exact HB.out)), fun _ => (by (with_reducible repeat (first | apply Kd.R_alloc | apply Kd.R_drewN | apply Kd.R_drew)); exact HO366.out), fun h0_ => absurd ((hoff 3 (by kernel_rfl)).symm.trans h0_) (by decide), z_BK373, Q_GW373, Q_GE373, Q_NB359_373, Q_NB373_359, Q_NB360_373, Q_NB373_360, fun h0_ => absurd ((hoff 8 (by kernel_rfl)).symm.trans h0_) (by decide), fun _ => rfl, fun h0_ => absurd ((hoff 3 (by kernel_rfl)).symm.trans h0_) (by decide), fun h0_ => absurd ((hoff 4 (by kernel_rfl)).symm.trans h0_) (by decide), fun h0_ => absurd ((hoff 5 (by kernel_rfl)).symm.trans h0_) (by decide), Q_X7_⟩
      refine steps_cons ?_ ?_
      ·rintro b a w' ⟨v365, v370, gb373, m1_, m3_, m4_, m5_, m7_, ha, Q_BK359, Q_BK360, Q_HB, Q_HO366, Q_HO371, Q_BK373, Q_GW373, Q_GE373, Q_NB359_373, Q_NB373_359, Q_NB360_373, Q_NB373_360, Q_BK373_e8, Q_X1_, Q_X3_, Q_X4_, Q_X5_, Q_X7_⟩ hb_ hon hoff
       refine ⟨_, rfl, fun K hK => ?_⟩
       have e3 : a.tmps[3]? = some (.pointer (some ⟨gb360, 0, none⟩)) := by rw [ha]; exact (putSel_off rfl).trans rfl
       replace ha := Aside0.mk ha
       have BK359 := Aside0.mk Q_BK359
       have BK360 := Aside0.mk Q_BK360
       have HB := Aside0.mk Q_HB
       have hc0_ : w'.cell? ⟨gb360, 0, none⟩ = some (.int .i64 a1_0) := (bqC BK360.out 0).trans rfl
       have hc1_ : w'.cell? ⟨gb360, 1, none⟩ = some (.int .i64 a1_1) := (bqC BK360.out 1).trans rfl
       refine value_ (w1 := w') (v := .agg #[.int .i64 a1_0, .int .i64 a1_1]) (by rfl) rfl ?_ ?_
       ·go_simp
        (try simp only [i64_w])
        try rfl
       refine hK.out _ _ ⟨v365, v370, gb373, m1_, m3_, m4_, m5_, m7_, (by rw [ha.out]; exact putSel_upk 2 hb_ rfl rfl rfl), Q_BK359, Q_BK360, Q_HB, Q_HO366, fun h0_ => absurd ((hoff 3 (by kernel_rfl)).symm.trans h0_) (by decide), Q_BK373, Q_GW373, Q_GE373, Q_NB359_373, Q_NB373_359, Q_NB360_373, Q_NB373_360, fun h0_ => absurd ((hoff 8 (by kernel_rfl)).symm.trans h0_) (by decide), Q_X1_, fun h0_ => absurd ((hoff 3 (by kernel_rfl)).symm.trans h0_) (by decide), fun h0_ => absurd ((hoff 4 (by kernel_rfl)).symm.trans h0_) (by decide), fun h0_ => absurd ((hoff 5 (by kernel_rfl)).symm.trans h0_) (by decide), Q_X7_⟩
      refine steps_cons ?_ ?_
      ·rintro b a w' ⟨v365, v370, gb373, m1_, m3_, m4_, m5_, m7_, ha, Q_BK359, Q_BK360, Q_HB, Q_HO366, Q_HO371, Q_BK373, Q_GW373, Q_GE373, Q_NB359_373, Q_NB373_359, Q_NB360_373, Q_NB373_360, Q_BK373_e8, Q_X1_, Q_X3_, Q_X4_, Q_X5_, Q_X7_⟩ hb_ hon hoff
       refine ⟨_, rfl, fun K hK => ?_⟩
       have e16 : a.tmps[16]? = some (m1_) := by rw [ha]; exact putSel_on (e := (1, 16, m1_)) 1 rfl rfl (hon 1 (by kernel_rfl)) rfl
       rw [Q_X1_ (hon 1 (by kernel_rfl))] at e16
       have e17 : a.tmps[17]? = some (.agg #[.int .i64 a1_0, .int .i64 a1_1]) := by rw [ha]; exact putSel_on (e := (2, 17, .agg #[.int .i64 a1_0, .int .i64 a1_1])) 2 rfl rfl (hon 2 (by kernel_rfl)) rfl
       replace ha := Aside0.mk ha
       have BK359 := Aside0.mk Q_BK359
       have BK360 := Aside0.mk Q_BK360
       have HB := Aside0.mk Q_HB
       have HO366 := Aside0.mk (Q_HO366 (hon 1 (by kernel_rfl)))
       obtain ⟨Ao54, co54, eo54⟩ := Kd.R_slice HO366.out
       (first | subst eo54 | (injection eo54 with f1_ f2_ f3_; have f4_ := f1_.symm; have f5_ := f3_.symm; clear f1_ f2_ f3_; subst f4_; subst f5_))
       refine goes_ Try.func22 (by kernel_rfl) rfl #[.agg #[.int .i64 t362, .int .i64 t363, .slice Ao54 t364.length co54], .agg #[.int .i64 a1_0, .int .i64 a1_1]] (by rfl) rfl rfl (by first | (simp only [List.map_toArray, List.map_cons, List.map_nil, Act.eval, Array.getD_eq_getD_getElem?, Option.getD_some, e16, e17]; done) | (simp only [List.map_toArray, List.map_cons, List.map_nil, Act.eval, Array.getD_eq_getD_getElem?, Option.getD_some, e16, e17]; rfl)) ?_
       with_reducible refine (sender_Heard.calls k t362 t363 _ _ t364 a1_0 a1_1 t367 t368 t369 t372 _ ?side1 ?side2 A12.out).mono ?_
       (case side1 => repeat (first | exact (Kd.R_reads' HO366.out).2.2 | (with_reducible refine Kd.C_alloc ?_ _) | (with_reducible refine Kd.C_drewN ?_ _) | (with_reducible refine Kd.C_drew ?_)))
       (case side2 => exact (Kd.R_reads' HO366.out).2.1)
       rintro e w55 ⟨v370, rfl, ho0, hb⟩
       refine ⟨_, rfl, ?_⟩
       have n0_ := Aside0.mk (Kd.R_elder' (by (with_reducible repeat (first | apply Kd.R_alloc | apply Kd.R_drewN | apply Kd.R_drew)); exact HO366.out) (Kd.R_base ho0) hb)
       have n1_ := Aside0.mk (Kd.R_lower (Kd.R_new' ho0 (Kd.R_lt (by (with_reducible repeat (first | apply Kd.R_alloc | apply Kd.R_drewN | apply Kd.R_drew)); exact HO366.out))) (lqZ (by repeat (first | (with_reducible first | exact HB.out | apply lqA | apply lqN | apply lqD | refine lqS ?_ GE359.out | refine lqS ?_ GE360.out) | exact HB.out))))
       have n2_ := Aside0.mk (bqB (g := gb359) (o := .cells #[.int .i64 a0_0, .int .i64 a0_1, .slice A0_2 l0_2.length c0_2] 24 (0, 0)) (by (with_reducible repeat (first | refine bqN ?_ _ | refine bqD ?_ | refine bqA ?_ _)); exact BK359.out) hb)
       have n3_ := Aside0.mk (bqB (g := gb360) (o := .cells #[.int .i64 a1_0, .int .i64 a1_1] 44 (0, 0)) (by (with_reducible repeat (first | refine bqN ?_ _ | refine bqD ?_ | refine bqA ?_ _)); exact BK360.out) hb)
       have n4_ := Aside0.mk (lqT (by repeat (first | (with_reducible first | exact HB.out | apply lqA | apply lqN | apply lqD | refine lqS ?_ GE359.out | refine lqS ?_ GE360.out) | exact HB.out)) hb)
       have z_BK373 := fun (h0_ : b 7 = true) (h1_ : b 8 = false) => (show w55.heap[gb373]? = some (.cells #[.int .i64 0, .int .i64 0, .slice none 0 0] 24 (0, 0)) from by first | exact (bqB (g := gb373) (o := .cells #[.int .i64 0, .int .i64 0, .slice none 0 0] 24 (0, 0)) (by (with_reducible repeat (first | refine bqN ?_ _ | refine bqD ?_ | refine bqA ?_ _)); exact (Q_BK373 h0_ h1_)) hb))
       clear HO366
       clear BK359
       clear BK360
       clear HB
       have HO366 := n0_
       have HO371 := n1_
       have BK359 := n2_
       have BK360 := n3_
       have HB := n4_
       clear n0_ n1_ n2_ n3_ n4_
       (try clear hb)
       (try clear hb2)
       (try clear hk)
       (try clear hi)
       (try clear ho0)
       refine hK.out _ _ ⟨.slice Ao54 t364.length co54, v370, gb373, m1_, (.tuple #[.agg #[.int .i64 t367, .int .i64 t368, v370], .int .i64 t372]), m4_, m5_, m7_, (by rw [ha.out]; exact putSel_upk 3 hb_ rfl rfl rfl), (by (with_reducible repeat (first | refine bqN ?_ _ | refine bqD ?_ | refine bqA ?_ _)); exact BK359.out), (by (with_reducible repeat (first | refine bqN ?_ _ | refine bqD ?_ | refine bqA ?_ _)); exact BK360.out), (by repeat (first | (with_reducible first | exact HB.out | apply lqA | apply lqN | apply lqD | refine lqS ?_ GE359.out | refine lqS ?_ GE360.out) | exact HB.out)), fun _ => (by (with_reducible repeat (first | apply Kd.R_alloc | apply Kd.R_drewN | apply Kd.R_drew)); exact Kd.R_mono HO366.out (fun _ hk => GS.cj hk)), fun _ => (by (with_reducible repeat (first | apply Kd.R_alloc | apply Kd.R_drewN | apply Kd.R_drew)); exact Kd.R_mono HO371.out (fun _ hk => GS.cj hk)), z_BK373, Q_GW373, Q_GE373, Q_NB359_373, Q_NB373_359, Q_NB360_373, Q_NB373_360, fun h0_ => absurd ((hoff 8 (by kernel_rfl)).symm.trans h0_) (by decide), Q_X1_, fun _ => rfl, fun h0_ => absurd ((hoff 4 (by kernel_rfl)).symm.trans h0_) (by decide), fun h0_ => absurd ((hoff 5 (by kernel_rfl)).symm.trans h0_) (by decide), Q_X7_⟩
      refine steps_cons ?_ ?_
      ·rintro b a w' ⟨v365, v370, gb373, m1_, m3_, m4_, m5_, m7_, ha, Q_BK359, Q_BK360, Q_HB, Q_HO366, Q_HO371, Q_BK373, Q_GW373, Q_GE373, Q_NB359_373, Q_NB373_359, Q_NB360_373, Q_NB373_360, Q_BK373_e8, Q_X1_, Q_X3_, Q_X4_, Q_X5_, Q_X7_⟩ hb_ hon hoff
       refine ⟨_, rfl, fun K hK => ?_⟩
       have e18 : a.tmps[18]? = some (m3_) := by rw [ha]; exact putSel_on (e := (3, 18, m3_)) 3 rfl rfl (hon 3 (by kernel_rfl)) rfl
       rw [Q_X3_ (hon 3 (by kernel_rfl))] at e18
       replace ha := Aside0.mk ha
       have BK359 := Aside0.mk Q_BK359
       have BK360 := Aside0.mk Q_BK360
       have HB := Aside0.mk Q_HB
       have HO366 := Aside0.mk (Q_HO366 (hon 1 (by kernel_rfl)))
       have HO371 := Aside0.mk (Q_HO371 (hon 3 (by kernel_rfl)))
       refine value_ (w1 := w') (v := .tuple #[.agg #[.int .i64 t367, .int .i64 t368, v370], .int .i64 t372]) (by rfl) rfl ?_ ?_
       ·go_simp
        (try simp only [i64_w])
        try rfl
       refine hK.out _ _ ⟨v365, v370, gb373, m1_, m3_, (.tuple #[.agg #[.int .i64 t367, .int .i64 t368, v370], .int .i64 t372]), m5_, m7_, (by rw [ha.out]; exact putSel_upk 4 hb_ rfl rfl rfl), Q_BK359, Q_BK360, Q_HB, Q_HO366, Q_HO371, Q_BK373, Q_GW373, Q_GE373, Q_NB359_373, Q_NB373_359, Q_NB360_373, Q_NB373_360, fun h0_ => absurd ((hoff 8 (by kernel_rfl)).symm.trans h0_) (by decide), Q_X1_, Q_X3_, fun _ => rfl, fun h0_ => absurd ((hoff 5 (by kernel_rfl)).symm.trans h0_) (by decide), Q_X7_⟩
      refine steps_cons ?_ ?_
      ·rintro b a w' ⟨v365, v370, gb373, m1_, m3_, m4_, m5_, m7_, ha, Q_BK359, Q_BK360, Q_HB, Q_HO366, Q_HO371, Q_BK373, Q_GW373, Q_GE373, Q_NB359_373, Q_NB373_359, Q_NB360_373, Q_NB373_360, Q_BK373_e8, Q_X1_, Q_X3_, Q_X4_, Q_X5_, Q_X7_⟩ hb_ hon hoff
       refine ⟨_, rfl, fun K hK => ?_⟩
       have e14 : a.tmps[14]? = some (m4_) := by rw [ha]; exact putSel_on (e := (4, 14, m4_)) 4 rfl rfl (hon 4 (by kernel_rfl)) rfl
       rw [Q_X4_ (hon 4 (by kernel_rfl))] at e14
       replace ha := Aside0.mk ha
       have BK359 := Aside0.mk Q_BK359
       have BK360 := Aside0.mk Q_BK360
       have HB := Aside0.mk Q_HB
       have HO366 := Aside0.mk (Q_HO366 (hon 1 (by kernel_rfl)))
       have HO371 := Aside0.mk (Q_HO371 (hon 3 (by kernel_rfl)))
       refine value_ (w1 := w') (v := .agg #[.int .i64 t367, .int .i64 t368, v370]) (by rfl) rfl ?_ ?_
       ·go_simp
        (try simp only [i64_w])
        try rfl
       refine hK.out _ _ ⟨v365, v370, gb373, m1_, m3_, m4_, (.agg #[.int .i64 t367, .int .i64 t368, v370]), m7_, (by rw [ha.out]; exact putSel_upk 5 hb_ rfl rfl rfl), Q_BK359, Q_BK360, Q_HB, Q_HO366, Q_HO371, Q_BK373, Q_GW373, Q_GE373, Q_NB359_373, Q_NB373_359, Q_NB360_373, Q_NB373_360, fun h0_ => absurd ((hoff 8 (by kernel_rfl)).symm.trans h0_) (by decide), Q_X1_, Q_X3_, Q_X4_, fun _ => rfl, Q_X7_⟩
      refine steps_cons ?_ ?_
      ·rintro b a w' ⟨v365, v370, gb373, m1_, m3_, m4_, m5_, m7_, ha, Q_BK359, Q_BK360, Q_HB, Q_HO366, Q_HO371, Q_BK373, Q_GW373, Q_GE373, Q_NB359_373, Q_NB373_359, Q_NB360_373, Q_NB373_360, Q_BK373_e8, Q_X1_, Q_X3_, Q_X4_, Q_X5_, Q_X7_⟩ hb_ hon hoff
       refine ⟨_, rfl, fun K hK => ?_⟩
       have e14 : a.tmps[14]? = some (m4_) := by rw [ha]; exact putSel_on (e := (4, 14, m4_)) 4 rfl rfl (hon 4 (by kernel_rfl)) rfl
       rw [Q_X4_ (hon 4 (by kernel_rfl))] at e14
       replace ha := Aside0.mk ha
       have BK359 := Aside0.mk Q_BK359
       have BK360 := Aside0.mk Q_BK360
       have HB := Aside0.mk Q_HB
       have HO366 := Aside0.mk (Q_HO366 (hon 1 (by kernel_rfl)))
       have HO371 := Aside0.mk (Q_HO371 (hon 3 (by kernel_rfl)))
       refine value_ (w1 := w') (v := .int .i64 t372) (by rfl) rfl ?_ ?_
       ·go_simp
        (try simp only [i64_w])
        try rfl
       refine hK.out _ _ ⟨v365, v370, gb373, m1_, m3_, m4_, m5_, m7_, (by rw [ha.out]; exact putSel_upk 6 hb_ rfl rfl rfl), Q_BK359, Q_BK360, Q_HB, Q_HO366, Q_HO371, Q_BK373, Q_GW373, Q_GE373, Q_NB359_373, Q_NB373_359, Q_NB360_373, Q_NB373_360, Q_BK373_e8, Q_X1_, Q_X3_, Q_X4_, Q_X5_, Q_X7_⟩
      refine steps_cons ?_ ?_
      ·rintro b a w' ⟨v365, v370, gb373, m1_, m3_, m4_, m5_, m7_, ha, Q_BK359, Q_BK360, Q_HB, Q_HO366, Q_HO371, Q_BK373, Q_GW373, Q_GE373, Q_NB359_373, Q_NB373_359, Q_NB360_373, Q_NB373_360, Q_BK373_e8, Q_X1_, Q_X3_, Q_X4_, Q_X5_, Q_X7_⟩ hb_ hon hoff
       refine ⟨_, rfl, fun K hK => ?_⟩
       replace ha := Aside0.mk ha
       have BK359 := Aside0.mk Q_BK359
       have BK360 := Aside0.mk Q_BK360
       have HB := Aside0.mk Q_HB
       refine box_step ?hg (N := 5) ?hd (cs := #[.int .i64 0, .int .i64 0, .slice none 0 0]) (t := 24) ?hr ?_; (case hd => rfl); (case hg => rfl); (case hr => first | (go_simp; done) | (go_simp; rfl))
       intro gb373 hg w52 hbox hb
       have n0_ := Aside0.mk (bqB (g := gb359) (o := .cells #[.int .i64 a0_0, .int .i64 a0_1, .slice A0_2 l0_2.length c0_2] 24 (0, 0)) (by (with_reducible repeat (first | refine bqN ?_ _ | refine bqD ?_ | refine bqA ?_ _)); exact BK359.out) hb)
       have n1_ := Aside0.mk (bqB (g := gb360) (o := .cells #[.int .i64 a1_0, .int .i64 a1_1] 44 (0, 0)) (by (with_reducible repeat (first | refine bqN ?_ _ | refine bqD ?_ | refine bqA ?_ _)); exact BK360.out) hb)
       have n2_ := Aside0.mk (lqT (by repeat (first | (with_reducible first | exact HB.out | apply lqA | apply lqN | apply lqD | refine lqS ?_ GE359.out | refine lqS ?_ GE360.out) | exact HB.out)) hb)
       have n3_ := Aside0.mk (hbox)
       have n4_ := Aside0.mk ((by rw [hg]; exact (lqZ (by repeat (first | (with_reducible first | exact HB.out | apply lqA | apply lqN | apply lqD | refine lqS ?_ GE359.out | refine lqS ?_ GE360.out) | exact HB.out))) : w.heap.size ≤ gb373))
       have n5_ := Aside0.mk ((by rw [hg]; exact (lqZ (by repeat (first | (with_reducible first | exact HB.out | apply lqA | apply lqN | apply lqD | refine lqS ?_ GE359.out | refine lqS ?_ GE360.out) | exact HB.out))) : w.heap.size ≤ gb373))
       have n6_ := Aside0.mk ((by rw [hg]; exact Nat.ne_of_lt (blk_lt (g := gb359) (o := .cells #[.int .i64 a0_0, .int .i64 a0_1, .slice A0_2 l0_2.length c0_2] 24 (0, 0)) (by (with_reducible repeat (first | refine bqN ?_ _ | refine bqD ?_ | refine bqA ?_ _)); exact BK359.out)) : gb359 ≠ gb373))
       have n7_ := Aside0.mk ((by rw [hg]; exact Nat.ne_of_gt (blk_lt (g := gb359) (o := .cells #[.int .i64 a0_0, .int .i64 a0_1, .slice A0_2 l0_2.length c0_2] 24 (0, 0)) (by (with_reducible repeat (first | refine bqN ?_ _ | refine bqD ?_ | refine bqA ?_ _)); exact BK359.out)) : gb373 ≠ gb359))
       have n8_ := Aside0.mk ((by rw [hg]; exact Nat.ne_of_lt (blk_lt (g := gb360) (o := .cells #[.int .i64 a1_0, .int .i64 a1_1] 44 (0, 0)) (by (with_reducible repeat (first | refine bqN ?_ _ | refine bqD ?_ | refine bqA ?_ _)); exact BK360.out)) : gb360 ≠ gb373))
       have n9_ := Aside0.mk ((by rw [hg]; exact Nat.ne_of_gt (blk_lt (g := gb360) (o := .cells #[.int .i64 a1_0, .int .i64 a1_1] 44 (0, 0)) (by (with_reducible repeat (first | refine bqN ?_ _ | refine bqD ?_ | refine bqA ?_ _)); exact BK360.out)) : gb373 ≠ gb360))
       have z_HO366 := fun (h0_ : b 1 = true) => (show Kd.R k33 33 w52 w.heap.size (fun _ => True) v365 t364 from by first | exact (Kd.R_below (by (with_reducible repeat (first | apply Kd.R_alloc | apply Kd.R_drewN | apply Kd.R_drew)); exact (Q_HO366 h0_)) hb) | exact Kd.R_mono (Kd.R_below (by (with_reducible repeat (first | apply Kd.R_alloc | apply Kd.R_drewN | apply Kd.R_drew)); exact (Q_HO366 h0_)) hb) (fun _ hk => GS.cj hk))
       have z_HO371 := fun (h0_ : b 3 = true) => (show Kd.R k33 33 w52 w.heap.size (fun _ => True) v370 t369 from by first | exact (Kd.R_below (by (with_reducible repeat (first | apply Kd.R_alloc | apply Kd.R_drewN | apply Kd.R_drew)); exact (Q_HO371 h0_)) hb) | exact Kd.R_mono (Kd.R_below (by (with_reducible repeat (first | apply Kd.R_alloc | apply Kd.R_drewN | apply Kd.R_drew)); exact (Q_HO371 h0_)) hb) (fun _ hk => GS.cj hk))
       clear BK359
       clear BK360
       clear HB
       have BK359 := n0_
       have BK360 := n1_
       have HB := n2_
       have BK373 := n3_
       have GW373 := n4_
       have GE373 := n5_
       have NB359_373 := n6_
       have NB373_359 := n7_
       have NB360_373 := n8_
       have NB373_360 := n9_
       clear n0_ n1_ n2_ n3_ n4_ n5_ n6_ n7_ n8_ n9_
       clear hb hbox hg
       refine hK.out _ _ ⟨v365, v370, gb373, m1_, m3_, m4_, m5_, (.pointer (some ⟨gb373, 0, none⟩)), (by rw [ha.out]; exact putSel_upk 7 hb_ rfl rfl rfl), (by (with_reducible repeat (first | refine bqN ?_ _ | refine bqD ?_ | refine bqA ?_ _)); exact BK359.out), (by (with_reducible repeat (first | refine bqN ?_ _ | refine bqD ?_ | refine bqA ?_ _)); exact BK360.out), (by repeat (first | (with_reducible first | exact HB.out | apply lqA | apply lqN | apply lqD | refine lqS ?_ GE359.out | refine lqS ?_ GE360.out | refine lqS ?_ GE373.out) | exact HB.out)), z_HO366, z_HO371, fun _ _ => (by (with_reducible repeat (first | refine bqN ?_ _ | refine bqD ?_ | refine bqA ?_ _)); exact BK373.out), fun _ => GW373.out, fun _ => GE373.out, fun _ => NB359_373.out, fun _ => NB373_359.out, fun _ => NB360_373.out, fun _ => NB373_360.out, fun h0_ => absurd ((hoff 8 (by kernel_rfl)).symm.trans h0_) (by decide), Q_X1_, Q_X3_, Q_X4_, Q_X5_, fun _ => rfl⟩
      refine steps_cons ?_ ?_
      ·rintro b a w' ⟨v365, v370, gb373, m1_, m3_, m4_, m5_, m7_, ha, Q_BK359, Q_BK360, Q_HB, Q_HO366, Q_HO371, Q_BK373, Q_GW373, Q_GE373, Q_NB359_373, Q_NB373_359, Q_NB360_373, Q_NB373_360, Q_BK373_e8, Q_X1_, Q_X3_, Q_X4_, Q_X5_, Q_X7_⟩ hb_ hon hoff
       refine ⟨_, rfl, fun K hK => ?_⟩
       have e5 : a.tmps[5]? = some (m7_) := by rw [ha]; exact putSel_on (e := (7, 5, m7_)) 7 rfl rfl (hon 7 (by kernel_rfl)) rfl
       rw [Q_X7_ (hon 7 (by kernel_rfl))] at e5
       have e19 : a.tmps[19]? = some (m5_) := by rw [ha]; exact putSel_on (e := (5, 19, m5_)) 5 rfl rfl (hon 5 (by kernel_rfl)) rfl
       rw [Q_X5_ (hon 5 (by kernel_rfl))] at e19
       replace ha := Aside0.mk ha
       have BK359 := Aside0.mk Q_BK359
       have BK360 := Aside0.mk Q_BK360
       have HB := Aside0.mk Q_HB
       have HO366 := Aside0.mk (Q_HO366 (hon 1 (by kernel_rfl)))
       have HO371 := Aside0.mk (Q_HO371 (hon 3 (by kernel_rfl)))
       have BK373 := Aside0.mk (Q_BK373 (hon 7 (by kernel_rfl)) hb_)
       have GW373 := Aside0.mk (Q_GW373 (hon 7 (by kernel_rfl)))
       have GE373 := Aside0.mk (Q_GE373 (hon 7 (by kernel_rfl)))
       have NB359_373 := Aside0.mk (Q_NB359_373 (hon 7 (by kernel_rfl)))
       have NB373_359 := Aside0.mk (Q_NB373_359 (hon 7 (by kernel_rfl)))
       have NB360_373 := Aside0.mk (Q_NB360_373 (hon 7 (by kernel_rfl)))
       have NB373_360 := Aside0.mk (Q_NB373_360 (hon 7 (by kernel_rfl)))
       obtain ⟨Ao59, co59, eo59⟩ := Kd.R_slice HO371.out
       (first | subst eo59 | (injection eo59 with f1_ f2_ f3_; have f4_ := f1_.symm; have f5_ := f3_.symm; clear f1_ f2_ f3_; subst f4_; subst f5_))
       have hs57 : w'.cell? ⟨gb373, 0, none⟩ = some (.int .i64 0) := (bqC BK373.out 0).trans rfl
       have hfs57 := bqF BK373.out 0
       have hns57_0 := NB359_373.out
       have hns57_1 := NB360_373.out
       have hms57_0 := NB373_359.out
       have hms57_1 := NB373_360.out
       have hs58 : w'.cell? ⟨gb373, 1, none⟩ = some (.int .i64 0) := (bqC BK373.out 1).trans rfl
       have hfs58 := bqF BK373.out 1
       have hns58_0 := NB359_373.out
       have hns58_1 := NB360_373.out
       have hms58_0 := NB373_359.out
       have hms58_1 := NB373_360.out
       have hs60 : w'.cell? ⟨gb373, 2, none⟩ = some (.slice none 0 0) := (bqC BK373.out 2).trans rfl
       have hfs60 := bqF BK373.out 2
       have hns60_0 := NB359_373.out
       have hns60_1 := NB360_373.out
       have hms60_0 := NB373_359.out
       have hms60_1 := NB373_360.out
       refine skip_ (w1 := ?_) (by rfl) rfl ?_ ?_
       rotate_left
       ·go_simp
        rfl
       refine hK.out _ _ ⟨v365, .slice Ao59 t369.length co59, gb373, m1_, m3_, m4_, m5_, m7_, (by rw [ha.out]; exact putSel_none (v := undef) rfl), (by (with_reducible repeat (first | refine bqN ?_ _ | refine bqD ?_ | refine bqA ?_ _)); refine blk_far ?_ NB359_373.out _; (with_reducible repeat (first | refine bqN ?_ _ | refine bqD ?_ | refine bqA ?_ _)); refine blk_far ?_ NB359_373.out _; (with_reducible repeat (first | refine bqN ?_ _ | refine bqD ?_ | refine bqA ?_ _)); refine blk_far ?_ NB359_373.out _; (with_reducible repeat (first | refine bqN ?_ _ | refine bqD ?_ | refine bqA ?_ _)); exact BK359.out), (by (with_reducible repeat (first | refine bqN ?_ _ | refine bqD ?_ | refine bqA ?_ _)); refine blk_far ?_ NB360_373.out _; (with_reducible repeat (first | refine bqN ?_ _ | refine bqD ?_ | refine bqA ?_ _)); refine blk_far ?_ NB360_373.out _; (with_reducible repeat (first | refine bqN ?_ _ | refine bqD ?_ | refine bqA ?_ _)); refine blk_far ?_ NB360_373.out _; (with_reducible repeat (first | refine bqN ?_ _ | refine bqD ?_ | refine bqA ?_ _)); exact BK360.out), (by repeat (first | (with_reducible first | exact HB.out | apply lqA | apply lqN | apply lqD | refine lqS ?_ GE359.out | refine lqS ?_ GE360.out | refine lqS ?_ GE373.out) | exact HB.out)), fun _ => (by (with_reducible repeat (first | apply Kd.R_alloc | apply Kd.R_drewN | apply Kd.R_drew)); exact Kd.R_mono (Kd.R_far (p := ⟨gb373, 2, none⟩) (Kd.R_far (p := ⟨gb373, 1, none⟩) (Kd.R_far (p := ⟨gb373, 0, none⟩) (Kd.R_types HO366.out BK373.out (by decide)) (fun _ hk => hk.2) (.int .i64 t367)) (fun _ hk => hk.2) (.int .i64 t368)) (fun _ hk => hk.2) (.slice Ao59 t369.length co59)) (fun _ hk => GS.cj hk)), fun _ => (by (with_reducible repeat (first | apply Kd.R_alloc | apply Kd.R_drewN | apply Kd.R_drew)); exact Kd.R_mono (Kd.R_far (p := ⟨gb373, 2, none⟩) (Kd.R_far (p := ⟨gb373, 1, none⟩) (Kd.R_far (p := ⟨gb373, 0, none⟩) (Kd.R_types HO371.out BK373.out (by decide)) (fun _ hk => hk.2) (.int .i64 t367)) (fun _ hk => hk.2) (.int .i64 t368)) (fun _ hk => hk.2) (.slice Ao59 t369.length co59)) (fun _ hk => GS.cj hk)), fun _ h1_ => absurd ((up_self b 8).symm.trans h1_) (by decide), fun _ => GW373.out, fun _ => GE373.out, fun _ => NB359_373.out, fun _ => NB373_359.out, fun _ => NB360_373.out, fun _ => NB373_360.out, fun _ => (by (with_reducible repeat (first | refine bqN ?_ _ | refine bqD ?_ | refine bqA ?_ _)); refine bqP (cs := #[.int .i64 t367, .int .i64 t368, .slice none 0 0]) ?_ 2 _ rfl; (with_reducible repeat (first | refine bqN ?_ _ | refine bqD ?_ | refine bqA ?_ _)); refine bqP (cs := #[.int .i64 t367, .int .i64 0, .slice none 0 0]) ?_ 1 _ rfl; (with_reducible repeat (first | refine bqN ?_ _ | refine bqD ?_ | refine bqA ?_ _)); refine bqP (cs := #[.int .i64 0, .int .i64 0, .slice none 0 0]) ?_ 0 _ rfl; (with_reducible repeat (first | refine bqN ?_ _ | refine bqD ?_ | refine bqA ?_ _)); exact BK373.out), Q_X1_, Q_X3_, Q_X4_, Q_X5_, Q_X7_⟩
      refine steps_cons ?_ ?_
      ·rintro b a w' ⟨v365, v370, gb373, m1_, m3_, m4_, m5_, m7_, ha, Q_BK359, Q_BK360, Q_HB, Q_HO366, Q_HO371, Q_BK373, Q_GW373, Q_GE373, Q_NB359_373, Q_NB373_359, Q_NB360_373, Q_NB373_360, Q_BK373_e8, Q_X1_, Q_X3_, Q_X4_, Q_X5_, Q_X7_⟩ hb_ hon hoff
       refine ⟨_, rfl, fun K hK => ?_⟩
       have e20 : a.tmps[20]? = some (.int .i64 t372) := by rw [ha]; exact putSel_on (e := (6, 20, .int .i64 t372)) 6 rfl rfl (hon 6 (by kernel_rfl)) rfl
       replace ha := Aside0.mk ha
       have BK359 := Aside0.mk Q_BK359
       have BK360 := Aside0.mk Q_BK360
       have HB := Aside0.mk Q_HB
       have HO366 := Aside0.mk (Q_HO366 (hon 1 (by kernel_rfl)))
       have HO371 := Aside0.mk (Q_HO371 (hon 3 (by kernel_rfl)))
       have GW373 := Aside0.mk (Q_GW373 (hon 7 (by kernel_rfl)))
       have GE373 := Aside0.mk (Q_GE373 (hon 7 (by kernel_rfl)))
       have NB359_373 := Aside0.mk (Q_NB359_373 (hon 7 (by kernel_rfl)))
       have NB373_359 := Aside0.mk (Q_NB373_359 (hon 7 (by kernel_rfl)))
       have NB360_373 := Aside0.mk (Q_NB360_373 (hon 7 (by kernel_rfl)))
       have NB373_360 := Aside0.mk (Q_NB373_360 (hon 7 (by kernel_rfl)))
       have BK373 := Aside0.mk (Q_BK373_e8 (hon 8 (by kernel_rfl)))
       refine value_ (w1 := w') (v := .int .i64 t372) (by rfl) rfl ?_ ?_
       ·go_simp
        (try simp only [i64_w])
        try rfl
       refine hK.out _ _ ⟨v365, v370, gb373, m1_, m3_, m4_, m5_, m7_, (by rw [ha.out]; exact putSel_upk 8 hb_ rfl rfl rfl), Q_BK359, Q_BK360, Q_HB, Q_HO366, Q_HO371, fun _ h1_ => absurd ((hon 8 (by kernel_rfl)).symm.trans h1_) (by decide), Q_GW373, Q_GE373, Q_NB359_373, Q_NB373_359, Q_NB360_373, Q_NB373_360, Q_BK373_e8, Q_X1_, Q_X3_, Q_X4_, Q_X5_, Q_X7_⟩
      exact steps_nil
     rintro b a w60 hall ⟨v365, v370, gb373, m1_, m3_, m4_, m5_, m7_, ha, Q_BK359, Q_BK360, Q_HB, Q_HO366, Q_HO371, Q_BK373, Q_GW373, Q_GE373, Q_NB359_373, Q_NB373_359, Q_NB360_373, Q_NB373_360, Q_BK373_e8, Q_X1_, Q_X3_, Q_X4_, Q_X5_, Q_X7_⟩
     clear BK359 BK360 HB
     have hb0_ := hall 0 (by kernel_rfl)
     have hb1_ := hall 1 (by kernel_rfl)
     have hb2_ := hall 2 (by kernel_rfl)
     have hb3_ := hall 3 (by kernel_rfl)
     have hb4_ := hall 4 (by kernel_rfl)
     have hb5_ := hall 5 (by kernel_rfl)
     have hb6_ := hall 6 (by kernel_rfl)
     have hb7_ := hall 7 (by kernel_rfl)
     have hb8_ := hall 8 (by kernel_rfl)
     have hb9_ := hall 9 (by kernel_rfl)
     subst ha
     obtain rfl := Q_X1_ hb1_
     obtain rfl := Q_X3_ hb3_
     obtain rfl := Q_X4_ hb4_
     obtain rfl := Q_X5_ hb5_
     obtain rfl := Q_X7_ hb7_
     simp only [putSel, hb0_, hb1_, hb2_, hb3_, hb4_, hb5_, hb6_, hb7_, hb8_, hb9_, if_true, Act.put, List.setIfInBounds_toArray, List.set_cons_zero, List.set_cons_succ]
     have BK359 := Aside0.mk Q_BK359
     clear Q_BK359
     have BK360 := Aside0.mk Q_BK360
     clear Q_BK360
     have HB := Aside0.mk Q_HB
     clear Q_HB
     have HO366 := Aside0.mk (Q_HO366 hb1_)
     clear Q_HO366
     have HO371 := Aside0.mk (Q_HO371 hb3_)
     clear Q_HO371
     clear Q_BK373
     have GW373 := Aside0.mk (Q_GW373 hb7_)
     clear Q_GW373
     have GE373 := Aside0.mk (Q_GE373 hb7_)
     clear Q_GE373
     have NB359_373 := Aside0.mk (Q_NB359_373 hb7_)
     clear Q_NB359_373
     have NB373_359 := Aside0.mk (Q_NB373_359 hb7_)
     clear Q_NB373_359
     have NB360_373 := Aside0.mk (Q_NB360_373 hb7_)
     clear Q_NB360_373
     have NB373_360 := Aside0.mk (Q_NB373_360 hb7_)
     clear Q_NB373_360
     have BK373 := Aside0.mk (Q_BK373_e8 hb8_)
     clear Q_BK373_e8
     clear hall hb0_ hb1_ hb2_ hb3_ hb4_ hb5_ hb6_ hb7_ hb8_ hb9_
     have hnb61 := NB373_359.out
     have hnc61 := NB359_373.out
     have hnb62 := NB373_360.out
     have hnc62 := NB360_373.out
     have hcz63_0 : w60.cell? ⟨gb373, 0, none⟩ = some (.int .i64 t367) := (bqC BK373.out 0).trans rfl
     have hcz63_1 : w60.cell? ⟨gb373, 1, none⟩ = some (.int .i64 t368) := (bqC BK373.out 1).trans rfl
     have hcz63_2 : w60.cell? ⟨gb373, 2, none⟩ = some (v370) := (bqC BK373.out 2).trans rfl
     have hfz63_0 := bqF BK373.out 0
     have hfz63_1 := bqF BK373.out 1
     have hfz63_2 := bqF BK373.out 2
     obtain ⟨Ao64, co64, eo64⟩ := Kd.R_slice HO371.out
     subst eo64
     try go_wp2
     go_ret
     exact ⟨by first | rfl | (simp [errW_none, errW_some] <;> rfl) | (simp [*, errW_none, errW_some] <;> rfl), by repeat (first | (with_reducible first | exact HB.out | apply lqA | apply lqN | apply lqD | refine lqS ?_ GE359.out | refine lqS ?_ GE360.out | refine lqS ?_ GE373.out) | exact HB.out)⟩
    ·rw [if_neg c45] at H
     exact absurd H (by simp)
 ·replace c4 := Bool.eq_false_iff.mpr c4
  subst c4
  have H1 : (none) = some r := by rw [if_neg (show ¬ (false = true) by decide)] at H; exact H
  clear H
  have H := H1
  clear H1
  exact absurd H (by simp)

end Go.Proofs.Ytfafeeobjlkjnaa.K
