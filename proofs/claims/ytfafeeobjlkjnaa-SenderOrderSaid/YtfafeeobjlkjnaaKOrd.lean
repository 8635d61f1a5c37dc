-- PRINTED by print.py (a twelfth state) out of the translation. Not trusted: Lean checks it.
import Derived.Test.YtfafeeobjlkjnaaK0
import Derived.Test.YtfafeeobjlkjnaaGShort
import Derived.Test.YtfafeeobjlkjnaaK7
import Derived.Test.YtfafeeobjlkjnaaK8
import Derived.Test.YtfafeeobjlkjnaaKRev
import Derived.Test.YtfafeeobjlkjnaaKOrd1
import Derived.Test.YtfafeeobjlkjnaaGTwice
namespace Go.Proofs.Ytfafeeobjlkjnaa.K
open Go.RowKit Go.Proofs.YtfafeeobjlkjnaaW.PrintWords Go.Proofs.YtfafeeobjlkjnaaW.PrintLast Go.Proofs.YtfafeeobjlkjnaaW.PrintMore
attribute [local go_sem] max2_int min2_int max_two min_two max_three min_three max_four min_four   -- for this text's walks alone
set_option linter.unusedVariables false
set_option linter.unusedSimpArgs false

/-! ### spilelaw42_SenderOrder: function 7 -/
def spilelaw42_SenderOrder.j0 : Nat → List Int → Bool → Int → Int → List (S33) → Option (Bool)
 | 0, _, _, _, _, _ => none
 | k + 1, x1, x19, x443000, x443001, x443002 => if x19 = true then (some true) else ((twice27.f x1).bind fun t444 => ((slices_Reverse_int_int.f k t444).bind fun t447 => ((spilelaw42_SenderOrder_1.f k x1 x443000 x443001 x443002).bind fun bt448 => ((spilelaw42_SenderOrder_1.f k t447 x443000 x443001 x443002).bind fun bt453 => (if bt448.1 = bt453.1 then (if bt448.2.1 = bt453.2.1 then ((api_Envelope_20.f k bt448.2.2 bt453.2.2).bind fun t460 => (some t460)) else (none)) else (none))))))
def spilelaw42_SenderOrder.f (k : Nat) (a0_0 : Int) (a0_1 : Int) (l0_2 : List (S33)) (l1 : List Int) : Option (Bool) := (spilelaw42_awake.f k).bind fun t443 => (if t443 = true then (if (l0_2.length : Int) > 14 then (spilelaw42_SenderOrder.j0 k l1 true a0_0 a0_1 l0_2) else (spilelaw42_SenderOrder.j0 k l1 (decide ((l1.length : Int) > 10)) a0_0 a0_1 l0_2)) else (none))
theorem spilelaw42_SenderOrder.mono_l : ∀ k, (∀ y0 y1 y2 y3 y4, LeO (spilelaw42_SenderOrder.j0 k y0 y1 y2 y3 y4) (spilelaw42_SenderOrder.j0 (k + 1) y0 y1 y2 y3 y4))
 | 0 => fun _ _ _ _ _ r h => by simp [spilelaw42_SenderOrder.j0] at h
 | k + 1 => by
  have ih0 := spilelaw42_SenderOrder.mono_l k
  ·intro y0 y1 y2 y3 y4
   unfold spilelaw42_SenderOrder.j0
   repeat' first
   | (with_reducible exact ih0 _ _ _ _ _)
   | (with_reducible exact api_Envelope_20.mono _ _ _)
   | (with_reducible exact slices_Reverse_int_int.mono _ _)
   | (with_reducible exact spilelaw42_SenderOrder_1.mono _ _ _ _ _)
   | (with_reducible exact spilelaw42_awake.mono _)
   | (with_reducible exact LeO.refl _)
   | (with_reducible exact LeO.none _)
   | (with_reducible refine LeO.ite ?_ ?_)
   | (with_reducible refine LeO.bind ?_ (fun _ => ?_))
   | exact ih0 _ _ _ _ _
   | exact api_Envelope_20.mono _ _ _
   | exact slices_Reverse_int_int.mono _ _
   | exact spilelaw42_SenderOrder_1.mono _ _ _ _ _
   | exact spilelaw42_awake.mono _
   | exact LeO.none _
   | refine LeO.ite ?_ ?_
   | refine LeO.bind ?_ (fun _ => ?_)
theorem spilelaw42_SenderOrder.mono : ∀ a0 a1 a2 a3 k, LeO (spilelaw42_SenderOrder.f k a0 a1 a2 a3) (spilelaw42_SenderOrder.f (k + 1) a0 a1 a2 a3) := by
 intro a0 a1 a2 a3 k
 have ih0 := spilelaw42_SenderOrder.mono_l k
 unfold spilelaw42_SenderOrder.f
 repeat' first
   | (with_reducible exact ih0 _ _ _ _ _)
   | (with_reducible exact api_Envelope_20.mono _ _ _)
   | (with_reducible exact slices_Reverse_int_int.mono _ _)
   | (with_reducible exact spilelaw42_SenderOrder_1.mono _ _ _ _ _)
   | (with_reducible exact spilelaw42_awake.mono _)
   | (with_reducible exact LeO.refl _)
   | (with_reducible exact LeO.none _)
   | (with_reducible refine LeO.ite ?_ ?_)
   | (with_reducible refine LeO.bind ?_ (fun _ => ?_))
   | exact ih0 _ _ _ _ _
   | exact api_Envelope_20.mono _ _ _
   | exact slices_Reverse_int_int.mono _ _
   | exact spilelaw42_SenderOrder_1.mono _ _ _ _ _
   | exact spilelaw42_awake.mono _
   | exact LeO.none _
   | refine LeO.ite ?_ ?_
   | refine LeO.bind ?_ (fun _ => ?_)
set_option maxHeartbeats 8000000 in
set_option maxRecDepth 100000 in
theorem spilelaw42_SenderOrder.calls (k : Nat) (a0_0 : Int) (a0_1 : Int) (A0_2 : Option Addr) (c0_2 : Nat) (l0_2 : List (S33)) (A1 : Option Addr) (c1 : Nat) (l1 : List Int) (r : Bool) (w : World) (hr0_2 : Kd.C k33 w A0_2 l0_2.length l0_2) (hc0_2 : l0_2.length ≤ c0_2) (hr1 : Kd.C (Kd.int .i64) w A1 l1.length l1) (hc1 : l1.length ≤ c1) (h : spilelaw42_SenderOrder.f k a0_0 a0_1 l0_2 l1 = some r) :
  Calls Try.prog 7 #[.agg #[.int .i64 a0_0, .int .i64 a0_1, .slice A0_2 l0_2.length c0_2], .slice A1 l1.length c1] w fun e w' => e = .returned (.bool r) ∧ Below w.heap.size w w' := by
 have hu24 := Try.underlying24
 have HR0_2 := Aside0.mk hr0_2
 have HC0_2 := Aside0.mk hc0_2
 clear hr0_2 hc0_2
 have HR1 := Aside0.mk hr1
 have HC1 := Aside0.mk hc1
 clear hr1 hc1
 have HB := Aside0.mk (Below.refl w.heap.size w)
 have H : ((spilelaw42_awake.f k).bind fun t443 => (if t443 = true then (if (l0_2.length : Int) > 14 then (spilelaw42_SenderOrder.j0 k l1 true a0_0 a0_1 l0_2) else (spilelaw42_SenderOrder.j0 k l1 (decide ((l1.length : Int) > 10)) a0_0 a0_1 l0_2)) else (none))) = some r := h
 clear h
 replace H := Option.bind_eq_some_iff.mp H
 obtain ⟨t443, A30, H⟩ := H
 replace H : (if t443 = true then (if (l0_2.length : Int) > 14 then (spilelaw42_SenderOrder.j0 k l1 true a0_0 a0_1 l0_2) else (spilelaw42_SenderOrder.j0 k l1 (decide ((l1.length : Int) > 10)) a0_0 a0_1 l0_2)) else (none)) = some r := H
 have A3 := Aside0.mk A30
 clear A30
 by_cases c4 : t443 = true
 ·subst c4
  have H1 : (if (l0_2.length : Int) > 14 then (spilelaw42_SenderOrder.j0 k l1 true a0_0 a0_1 l0_2) else (spilelaw42_SenderOrder.j0 k l1 (decide ((l1.length : Int) > 10)) a0_0 a0_1 l0_2)) = some r := by rw [if_pos rfl] at H; exact H
  clear H
  have H := H1
  clear H1
  have HC5 := Aside0.mk H
  clear H
  go_enter Try.func7, Try.ntmps7
  go_upto_region 3 with (first | ((with_reducible refine gqD (N := 2) rfl ?_); (try (refine gate_guard (by rfl) ?_; dsimp only)); refine box_event ?hg (N := 2) ?hd (cs := #[.int .i64 a0_0, .int .i64 a0_1, .slice A0_2 l0_2.length c0_2]) (t := 24) ?hr ?_; (case hd => rfl); (case hg => rfl); (case hr => first | (go_simp; done) | (go_simp; rfl)); intro gb442 hg w6 hbox hb; have n0_ := Aside0.mk (lqT (by repeat (first | (with_reducible first | exact HB.out | apply lqA | apply lqN | apply lqD) | exact HB.out)) hb); have n1_ := Aside0.mk (hbox); have n2_ := Aside0.mk ((by rw [hg]; exact (lqZ (by repeat (first | (with_reducible first | exact HB.out | apply lqA | apply lqN | apply lqD) | exact HB.out))) : w.heap.size ≤ gb442)); have n3_ := Aside0.mk ((by rw [hg]; exact (lqZ (by repeat (first | (with_reducible first | exact HB.out | apply lqA | apply lqN | apply lqD) | exact HB.out))) : w.heap.size ≤ gb442)); clear HB; have HB := n0_; have BK442 := n1_; have GW442 := n2_; have GE442 := n3_; clear n0_ n1_ n2_ n3_; clear hb hbox hg) | ((with_reducible refine gqC (f := 10) rfl ?_); refine goesL_ (some 9) rfl rfl Try.func10 (by kernel_rfl) rfl #[] rfl (by (try simp only [List.map_toArray, List.map_cons, List.map_nil]); first | done | rfl | (simp only [List.length_drop, List.length_take]; rfl)) ?_; (with_reducible refine (spilelaw42_awake.calls k  true _ A3.out).mono ?_); rintro e w7 ⟨rfl, hb⟩; refine ⟨_, rfl, ?_⟩; have n0_ := Aside0.mk (bqB (GS.bqX BK442.out) hb); have n1_ := Aside0.mk (lqT (by repeat (first | (with_reducible first | exact HB.out | apply lqA | apply lqN | apply lqD | refine lqS ?_ GE442.out) | exact HB.out)) hb); clear BK442; clear HB; have BK442 := n0_; have HB := n1_; clear n0_ n1_; (try clear hb); (try clear hb2); (try clear hk); (try clear hi)))
  (try simp only [Act.put, List.setIfInBounds_toArray, List.set_cons_zero, List.set_cons_succ])
  go_cut [19] (fun v19 wc => ∃ (kq : Nat) (x19_4 : Bool), v19 = .bool x19_4 ∧ Aside0 (spilelaw42_SenderOrder.j0 kq l1 x19_4 a0_0 a0_1 l0_2 = some r) ∧ Aside0 (kq ≤ k) ∧ Aside0 (wc.heap[gb442]? = some (.cells #[.int .i64 a0_0, .int .i64 a0_1, (.slice A0_2 l0_2.length c0_2)] 24 (0, 0))) ∧ Aside0 (Below w.heap.size w wc))
  case first =>
   have H := HC5.out
   clear HC5
   by_cases c8 : (l0_2.length : Int) > 14
   ·rw [if_pos c8] at H
    have c8b0 : decide (14 < (l0_2.length : Int)) = true := decide_eq_true c8
    have c8b1 : decide (14 < l0_2.length) = true := decide_eq_true (by omega)
    clear c8
    (first | rw [c8b0] | (simp only [i64_w, i32_w]; rw [c8b0]) | skip)
    have H' := Aside0.mk H
    clear H
    have hcz9_0 : w7.cell? ⟨gb442, 0, none⟩ = some (.int .i64 a0_0) := (bqC BK442.out 0).trans rfl
    have hcz9_1 : w7.cell? ⟨gb442, 1, none⟩ = some (.int .i64 a0_1) := (bqC BK442.out 1).trans rfl
    have hcz9_2 : w7.cell? ⟨gb442, 2, none⟩ = some (.slice A0_2 l0_2.length c0_2) := (bqC BK442.out 2).trans rfl
    have hfz9_0 := bqF BK442.out 0
    have hfz9_1 := bqF BK442.out 1
    have hfz9_2 := bqF BK442.out 2
    go_wp2
    go_meet
    case rel => exact ⟨_, (true), (by first | rfl | (simp; done) | (simp [*]; done)), H', ⟨by first | omega | exact Nat.le_refl _⟩, ⟨GS.bqX BK442.out⟩, ⟨by repeat (first | (with_reducible first | exact HB.out | apply lqA | apply lqN | apply lqD | refine lqS ?_ GE442.out) | exact HB.out)⟩⟩
   ·rw [if_neg c8] at H
    have c8b0 : decide (14 < (l0_2.length : Int)) = false := decide_eq_false c8
    have c8b1 : decide (14 < l0_2.length) = false := decide_eq_false (by omega)
    clear c8
    (first | rw [c8b0] | (simp only [i64_w, i32_w]; rw [c8b0]) | skip)
    have H' := Aside0.mk H
    clear H
    have hcz10_0 : w7.cell? ⟨gb442, 0, none⟩ = some (.int .i64 a0_0) := (bqC BK442.out 0).trans rfl
    have hcz10_1 : w7.cell? ⟨gb442, 1, none⟩ = some (.int .i64 a0_1) := (bqC BK442.out 1).trans rfl
    have hcz10_2 : w7.cell? ⟨gb442, 2, none⟩ = some (.slice A0_2 l0_2.length c0_2) := (bqC BK442.out 2).trans rfl
    have hfz10_0 := bqF BK442.out 0
    have hfz10_1 := bqF BK442.out 1
    have hfz10_2 := bqF BK442.out 2
    go_wp2
    go_meet
    case rel => exact ⟨_, (decide ((l1.length : Int) > 10)), (by first | rfl | (simp; done) | (simp [*]; done)), H', ⟨by first | omega | exact Nat.le_refl _⟩, ⟨GS.bqX BK442.out⟩, ⟨by repeat (first | (with_reducible first | exact HB.out | apply lqA | apply lqN | apply lqD | refine lqS ?_ GE442.out) | exact HB.out)⟩⟩
  case rest =>
   clear HC5
   try clear c1
   try clear p2
   try clear c4
   try clear c7
   try clear c8
   try clear c8b0
   try clear c8b1
   try clear c10
   try clear hcz10_0
   try clear hcz10_1
   try clear hcz10_2
   try clear hcz9_0
   try clear hcz9_1
   try clear hcz9_2
   try clear hfz10_0
   try clear hfz10_1
   try clear hfz10_2
   try clear hfz9_0
   try clear hfz9_1
   try clear hfz9_2
   obtain ⟨kq, x19_4, rfl, HA, HJ4, BK442, HB⟩ := hcut
   cases kq with
   | zero => exact absurd HA.out (by simp [spilelaw42_SenderOrder.j0])
   | succ kj4 =>
    have H := HA.out
    clear HA
    simp only [spilelaw42_SenderOrder.j0] at H
    by_cases c11 : x19_4 = true
    ·subst c11
     have H1 : (some true) = some r := by rw [if_pos rfl] at H; exact H
     clear H
     have H := H1
     clear H1
     obtain rfl := Option.some.inj H
     go_wp2
     go_ret
     exact ⟨by first | rfl | (simp [errW_none, errW_some] <;> rfl) | (simp [*, errW_none, errW_some] <;> rfl), by repeat (first | (with_reducible first | exact HB.out | apply lqA | apply lqN | apply lqD | refine lqS ?_ GE442.out) | exact HB.out)⟩
    ·replace c11 := Bool.eq_false_iff.mpr c11
     subst c11
     have H1 : ((twice27.f l1).bind fun t444 => ((slices_Reverse_int_int.f kj4 t444).bind fun t447 => ((spilelaw42_SenderOrder_1.f kj4 l1 a0_0 a0_1 l0_2).bind fun bt448 => ((spilelaw42_SenderOrder_1.f kj4 t447 a0_0 a0_1 l0_2).bind fun bt453 => (if bt448.1 = bt453.1 then (if bt448.2.1 = bt453.2.1 then ((api_Envelope_20.f kj4 bt448.2.2 bt453.2.2).bind fun t460 => (some t460)) else (none)) else (none)))))) = some r := by rw [if_neg (show ¬ (false = true) by decide)] at H; exact H
     clear H
     have H := H1
     clear H1
     replace H := Option.bind_eq_some_iff.mp H
     obtain ⟨t444, A120, H⟩ := H
     replace H : ((slices_Reverse_int_int.f kj4 t444).bind fun t447 => ((spilelaw42_SenderOrder_1.f kj4 l1 a0_0 a0_1 l0_2).bind fun bt448 => ((spilelaw42_SenderOrder_1.f kj4 t447 a0_0 a0_1 l0_2).bind fun bt453 => (if bt448.1 = bt453.1 then (if bt448.2.1 = bt453.2.1 then ((api_Envelope_20.f kj4 bt448.2.2 bt453.2.2).bind fun t460 => (some t460)) else (none)) else (none))))) = some r := H
     have A12 := Aside0.mk A120
     clear A120
     replace H := Option.bind_eq_some_iff.mp H
     obtain ⟨t447, A130, H⟩ := H
     replace H : ((spilelaw42_SenderOrder_1.f kj4 l1 a0_0 a0_1 l0_2).bind fun bt448 => ((spilelaw42_SenderOrder_1.f kj4 t447 a0_0 a0_1 l0_2).bind fun bt453 => (if bt448.1 = bt453.1 then (if bt448.2.1 = bt453.2.1 then ((api_Envelope_20.f kj4 bt448.2.2 bt453.2.2).bind fun t460 => (some t460)) else (none)) else (none)))) = some r := H
     have A13 := Aside0.mk A130
     clear A130
     replace H := Option.bind_eq_some_iff.mp H
     obtain ⟨⟨t448, t449, t450⟩, A140, H⟩ := H
     replace H : ((spilelaw42_SenderOrder_1.f kj4 t447 a0_0 a0_1 l0_2).bind fun bt453 => (if t448 = bt453.1 then (if t449 = bt453.2.1 then ((api_Envelope_20.f kj4 t450 bt453.2.2).bind fun t460 => (some t460)) else (none)) else (none))) = some r := H
     have A14 := Aside0.mk A140
     clear A140
     replace H := Option.bind_eq_some_iff.mp H
     obtain ⟨⟨t453, t454, t455⟩, A150, H⟩ := H
     replace H : (if t448 = t453 then (if t449 = t454 then ((api_Envelope_20.f kj4 t450 t455).bind fun t460 => (some t460)) else (none)) else (none)) = some r := H
     have A15 := Aside0.mk A150
     clear A150
     by_cases c16 : t448 = t453
     ·rw [if_pos c16] at H
      have c16b0 : (t448 == t453) = true := beq_iff_eq.mpr c16
      try simp only [beq_self_eq_true, Bool.not_true, Bool.false_or, Bool.true_and] at c16b0
      have c16b1 : (t448 != t453) = false := bne_eq_false_iff_eq.mpr c16
      clear c16
      by_cases c17 : t449 = t454
      ·rw [if_pos c17] at H
       have c17b0 : (t449 == t454) = true := beq_iff_eq.mpr c17
       try simp only [beq_self_eq_true, Bool.not_true, Bool.false_or, Bool.true_and] at c17b0
       have c17b1 : (t449 != t454) = false := bne_eq_false_iff_eq.mpr c17
       clear c17
       replace H := Option.bind_eq_some_iff.mp H
       obtain ⟨t460, A180, H⟩ := H
       replace H : (some t460) = some r := H
       have A18 := Aside0.mk A180
       clear A180
       obtain rfl := Option.some.inj H
       have hcz19_0 : wc.cell? ⟨gb442, 0, none⟩ = some (.int .i64 a0_0) := (bqC BK442.out 0).trans rfl
       have hcz19_1 : wc.cell? ⟨gb442, 1, none⟩ = some (.int .i64 a0_1) := (bqC BK442.out 1).trans rfl
       have hcz19_2 : wc.cell? ⟨gb442, 2, none⟩ = some (.slice A0_2 l0_2.length c0_2) := (bqC BK442.out 2).trans rfl
       have hfz19_0 := bqF BK442.out 0
       have hfz19_1 := bqF BK442.out 1
       have hfz19_2 := bqF BK442.out 2
       go_wp2_with (first | ((with_reducible refine gqD (N := 23) rfl ?_); refine lit_event ?hg (N := 23) ?hd (cs := #[.slice A1 l1.length c1, .slice A1 l1.length c1]) (t := 51) (n := 2) ?hr ?_; (case hd => rfl); (case hg => rfl); (case hr => first | (go_simp; done) | (go_simp; rfl)); intro gl_ hgl_ wl_ hbl_ hbe_) | ((with_reducible refine gqC (f := 27) rfl ?_); refine goesL_ (some 24) rfl rfl Try.func27 (by kernel_rfl) rfl #[.slice (some ⟨gl_, 0, none⟩) 2 2] rfl (by (try simp only [List.map_toArray, List.map_cons, List.map_nil]); first | done | rfl | (simp only [List.length_drop, List.length_take]; rfl)) ?_; refine (twice27.calls gl_ A1 c1 l1 t444 _ _ A12.out (by repeat (first | exact (Kd.C_below HR1.out HB.out) | (with_reducible refine Kd.C_alloc ?_ _) | (with_reducible refine Kd.C_drewN ?_ _) | (with_reducible refine Kd.C_drew ?_))) HC1.out hbe_ hbl_).mono ?_; rintro e w20 ⟨v445, rfl, ho0, hb⟩; refine ⟨_, rfl, ?_⟩; have n0_ := Aside0.mk (Kd.R_lower ho0 (lqZ (by repeat (first | (with_reducible first | exact HB.out | apply lqA | apply lqN | apply lqD | refine lqS ?_ GE442.out) | exact HB.out)))); have n1_ := Aside0.mk (bqB (GS.bqX BK442.out) hb); have n2_ := Aside0.mk (lqT (by repeat (first | (with_reducible first | exact HB.out | apply lqA | apply lqN | apply lqD | refine lqS ?_ GE442.out) | exact HB.out)) hb); clear BK442; clear HB; have HO446 := n0_; have BK442 := n1_; have HB := n2_; clear n0_ n1_ n2_; (try clear hb); (try clear hb2); (try clear hk); (try clear hi); (try clear ho0); obtain ⟨Ao21, co21, eo21⟩ := Kd.R_slice HO446.out; subst eo21) | ((with_reducible refine gqC (f := 28) rfl ?_); refine goesL_ (some 26) rfl rfl Try.func28 (by kernel_rfl) rfl #[.slice Ao21 t444.length co21] rfl (by (try simp only [List.map_toArray, List.map_cons, List.map_nil]); first | done | rfl | (simp only [List.length_drop, List.length_take]; rfl)) ?_; (with_reducible refine (slices_Reverse_int_int.calls kj4 (fun k_ => some k_ = (.slice Ao21 t444.length co21 : Value).ownBlock) (.slice Ao21 t444.length co21) t444 t447 w _ ?side1 ?side2 A13.out).mono ?_); (case side1 => repeat (first | (with_reducible first | exact HB.out | apply lqA | apply lqN | apply lqD | refine lqS ?_ GE442.out) | exact HB.out)); (case side2 => exact Kd.R_tight rfl HO446.out); rintro e w22 ⟨rfl, hy0, hb, hkp⟩; refine ⟨_, rfl, ?_⟩; have n0_ := Aside0.mk (blk_kept (GS.bqX BK442.out) hkp (fun hs_ => (fun e_ => (Kd.R_ne HO446.out BK442.out (by decide)) e_) hs_)); have n1_ := Aside0.mk (Kd.R_reok rfl hy0 (fun k_ e_ => HO446.out.1 k_ e_)); have n2_ := Aside0.mk (hb); clear BK442; clear HO446; clear HB; have BK442 := n0_; have HO446 := n1_; have HB := n2_; clear n0_ n1_ n2_; (try clear hb); (try clear hkp); (try clear hy0)))
       (with_reducible refine (spilelaw42_SenderOrder_1.calls kj4 gb442 _ _ l1 a0_0 a0_1 A0_2 c0_2 l0_2 t448 t449 t450 _ ?side1 ?side2 ?side3 ?side4 ?side5 A14.out).mono ?_)
       (case side5 => exact (GS.bqX BK442.out))
       (case side1 => repeat (first | exact (Kd.C_below HR1.out HB.out) | (with_reducible refine Kd.C_alloc ?_ _) | (with_reducible refine Kd.C_drewN ?_ _) | (with_reducible refine Kd.C_drew ?_)))
       (case side2 => exact HC1.out)
       (case side3 => repeat (first | exact (Kd.C_below HR0_2.out HB.out) | (with_reducible refine Kd.C_alloc ?_ _) | (with_reducible refine Kd.C_drewN ?_ _) | (with_reducible refine Kd.C_drew ?_)))
       (case side4 => exact HC0_2.out)
       rintro e w23 ⟨v451, rfl, ho0, hb⟩
       have n0_ := Aside0.mk (Kd.R_below (by (with_reducible repeat (first | apply Kd.R_alloc | apply Kd.R_drewN | apply Kd.R_drew)); exact HO446.out) hb)
       have n1_ := Aside0.mk (Kd.R_lower ho0 (lqZ (by repeat (first | (with_reducible first | exact HB.out | apply lqA | apply lqN | apply lqD | refine lqS ?_ GE442.out) | exact HB.out))))
       have n2_ := Aside0.mk (bqB (GS.bqX BK442.out) hb)
       have n3_ := Aside0.mk (lqT (by repeat (first | (with_reducible first | exact HB.out | apply lqA | apply lqN | apply lqD | refine lqS ?_ GE442.out) | exact HB.out)) hb)
       clear HO446
       clear BK442
       clear HB
       have HO446 := n0_
       have HO452 := n1_
       have BK442 := n2_
       have HB := n3_
       clear n0_ n1_ n2_ n3_
       (try clear hb)
       (try clear hb2)
       (try clear hk)
       (try clear hi)
       (try clear ho0)
       go_wp2_with (first | fail)
       refine calls_of_args (args' := #[.slice Ao21 t447.length co21, .pointer (some ⟨gb442, 0, none⟩)]) (by rw [show t447.length = t444.length from (Kd.R_reads' HO446.out).1.symm]) ?_
       (with_reducible refine (spilelaw42_SenderOrder_1.calls kj4 gb442 _ _ t447 a0_0 a0_1 A0_2 c0_2 l0_2 t453 t454 t455 _ ?side1 ?side2 ?side3 ?side4 ?side5 A15.out).mono ?_)
       (case side5 => exact (GS.bqX BK442.out))
       (case side1 => repeat (first | exact (Kd.R_reads' HO446.out).2.2 | (with_reducible refine Kd.C_alloc ?_ _) | (with_reducible refine Kd.C_drewN ?_ _) | (with_reducible refine Kd.C_drew ?_)))
       (case side2 => rw [show t447.length = t444.length from (Kd.R_reads' HO446.out).1.symm]; exact (Kd.R_reads' HO446.out).2.1)
       (case side3 => repeat (first | exact (Kd.C_below HR0_2.out HB.out) | (with_reducible refine Kd.C_alloc ?_ _) | (with_reducible refine Kd.C_drewN ?_ _) | (with_reducible refine Kd.C_drew ?_)))
       (case side4 => exact HC0_2.out)
       rintro e w24 ⟨v456, rfl, ho0, hb⟩
       have n0_ := Aside0.mk (Kd.R_below (by (with_reducible repeat (first | apply Kd.R_alloc | apply Kd.R_drewN | apply Kd.R_drew)); exact HO446.out) hb)
       have n1_ := Aside0.mk (Kd.R_elder' (by (with_reducible repeat (first | apply Kd.R_alloc | apply Kd.R_drewN | apply Kd.R_drew)); exact HO452.out) (Kd.R_base ho0) hb)
       have n2_ := Aside0.mk (Kd.R_lower (Kd.R_new' ho0 (Kd.R_lt (by (with_reducible repeat (first | apply Kd.R_alloc | apply Kd.R_drewN | apply Kd.R_drew)); exact HO452.out))) (lqZ (by repeat (first | (with_reducible first | exact HB.out | apply lqA | apply lqN | apply lqD | refine lqS ?_ GE442.out) | exact HB.out))))
       have n3_ := Aside0.mk (bqB (GS.bqX BK442.out) hb)
       have n4_ := Aside0.mk (lqT (by repeat (first | (with_reducible first | exact HB.out | apply lqA | apply lqN | apply lqD | refine lqS ?_ GE442.out) | exact HB.out)) hb)
       clear HO446
       clear HO452
       clear BK442
       clear HB
       have HO446 := n0_
       have HO452 := n1_
       have HO457 := n2_
       have BK442 := n3_
       have HB := n4_
       clear n0_ n1_ n2_ n3_ n4_
       (try clear hb)
       (try clear hb2)
       (try clear hk)
       (try clear hi)
       (try clear ho0)
       go_wp2_with (first | ((with_reducible refine gqD (N := 7) rfl ?_); (try (refine gate_guard (by rfl) ?_; dsimp only)); refine box_event ?hg (N := 7) ?hd (cs := #[.int .i64 0, .int .i64 0, .slice none 0 0]) (t := 24) ?hr ?_; (case hd => rfl); (case hg => rfl); (case hr => first | (go_simp; done) | (go_simp; rfl)); intro gb458 hg w25 hbox hb; have n0_ := Aside0.mk (Kd.R_below (by (with_reducible repeat (first | apply Kd.R_alloc | apply Kd.R_drewN | apply Kd.R_drew)); exact HO446.out) hb); have n1_ := Aside0.mk (Kd.R_below (by (with_reducible repeat (first | apply Kd.R_alloc | apply Kd.R_drewN | apply Kd.R_drew)); exact HO452.out) hb); have n2_ := Aside0.mk (Kd.R_below (by (with_reducible repeat (first | apply Kd.R_alloc | apply Kd.R_drewN | apply Kd.R_drew)); exact HO457.out) hb); have n3_ := Aside0.mk (bqB (GS.bqX BK442.out) hb); have n4_ := Aside0.mk (lqT (by repeat (first | (with_reducible first | exact HB.out | apply lqA | apply lqN | apply lqD | refine lqS ?_ GE442.out) | exact HB.out)) hb); have n5_ := Aside0.mk (hbox); have n6_ := Aside0.mk ((by rw [hg]; exact (lqZ (by repeat (first | (with_reducible first | exact HB.out | apply lqA | apply lqN | apply lqD | refine lqS ?_ GE442.out) | exact HB.out))) : w.heap.size ≤ gb458)); have n7_ := Aside0.mk ((by rw [hg]; exact (lqZ (by repeat (first | (with_reducible first | exact HB.out | apply lqA | apply lqN | apply lqD | refine lqS ?_ GE442.out) | exact HB.out))) : w.heap.size ≤ gb458)); have n8_ := Aside0.mk ((by rw [hg]; exact Nat.ne_of_lt (blk_lt (GS.bqX BK442.out)) : gb442 ≠ gb458)); have n9_ := Aside0.mk ((by rw [hg]; exact Nat.ne_of_gt (blk_lt (GS.bqX BK442.out)) : gb458 ≠ gb442)); clear HO446; clear HO452; clear HO457; clear BK442; clear HB; have HO446 := n0_; have HO452 := n1_; have HO457 := n2_; have BK442 := n3_; have HB := n4_; have BK458 := n5_; have GW458 := n6_; have GE458 := n7_; have NB442_458 := n8_; have NB458_442 := n9_; clear n0_ n1_ n2_ n3_ n4_ n5_ n6_ n7_ n8_ n9_; clear hb hbox hg) | ((with_reducible refine gqD (N := 8) rfl ?_); (try (refine gate_guard (by rfl) ?_; dsimp only)); refine box_event ?hg (N := 8) ?hd (cs := #[.int .i64 0, .int .i64 0, .slice none 0 0]) (t := 24) ?hr ?_; (case hd => rfl); (case hg => rfl); (case hr => first | (go_simp; done) | (go_simp; rfl)); intro gb459 hg w26 hbox hb; have n0_ := Aside0.mk (Kd.R_below (by (with_reducible repeat (first | apply Kd.R_alloc | apply Kd.R_drewN | apply Kd.R_drew)); exact HO446.out) hb); have n1_ := Aside0.mk (Kd.R_below (by (with_reducible repeat (first | apply Kd.R_alloc | apply Kd.R_drewN | apply Kd.R_drew)); exact HO452.out) hb); have n2_ := Aside0.mk (Kd.R_below (by (with_reducible repeat (first | apply Kd.R_alloc | apply Kd.R_drewN | apply Kd.R_drew)); exact HO457.out) hb); have n3_ := Aside0.mk (bqB (GS.bqX BK442.out) hb); have n4_ := Aside0.mk (bqB (GS.bqX BK458.out) hb); have n5_ := Aside0.mk (lqT (by repeat (first | (with_reducible first | exact HB.out | apply lqA | apply lqN | apply lqD | refine lqS ?_ GE442.out | refine lqS ?_ GE458.out) | exact HB.out)) hb); have n6_ := Aside0.mk (hbox); have n7_ := Aside0.mk ((by rw [hg]; exact (lqZ (by repeat (first | (with_reducible first | exact HB.out | apply lqA | apply lqN | apply lqD | refine lqS ?_ GE442.out | refine lqS ?_ GE458.out) | exact HB.out))) : w.heap.size ≤ gb459)); have n8_ := Aside0.mk ((by rw [hg]; exact (lqZ (by repeat (first | (with_reducible first | exact HB.out | apply lqA | apply lqN | apply lqD | refine lqS ?_ GE442.out | refine lqS ?_ GE458.out) | exact HB.out))) : w.heap.size ≤ gb459)); have n9_ := Aside0.mk ((by rw [hg]; exact Nat.ne_of_lt (blk_lt (GS.bqX BK442.out)) : gb442 ≠ gb459)); have n10_ := Aside0.mk ((by rw [hg]; exact Nat.ne_of_gt (blk_lt (GS.bqX BK442.out)) : gb459 ≠ gb442)); have n11_ := Aside0.mk ((by rw [hg]; exact Nat.ne_of_lt (blk_lt (GS.bqX BK458.out)) : gb458 ≠ gb459)); have n12_ := Aside0.mk ((by rw [hg]; exact Nat.ne_of_gt (blk_lt (GS.bqX BK458.out)) : gb459 ≠ gb458)); clear HO446; clear HO452; clear HO457; clear BK442; clear BK458; clear HB; have HO446 := n0_; have HO452 := n1_; have HO457 := n2_; have BK442 := n3_; have BK458 := n4_; have HB := n5_; have BK459 := n6_; have GW459 := n7_; have GE459 := n8_; have NB442_459 := n9_; have NB459_442 := n10_; have NB458_459 := n11_; have NB459_458 := n12_; clear n0_ n1_ n2_ n3_ n4_ n5_ n6_ n7_ n8_ n9_ n10_ n11_ n12_; clear hb hbox hg; have hnb27 := NB458_442.out; have hnc27 := NB442_458.out; have hnb28 := NB458_459.out; have hnc28 := NB459_458.out; have hcz29_0 : w26.cell? ⟨gb458, 0, none⟩ = some (.int .i64 0) := (bqC BK458.out 0).trans rfl; have hcz29_1 : w26.cell? ⟨gb458, 1, none⟩ = some (.int .i64 0) := (bqC BK458.out 1).trans rfl; have hcz29_2 : w26.cell? ⟨gb458, 2, none⟩ = some (.slice none 0 0) := (bqC BK458.out 2).trans rfl; have hfz29_0 := bqF BK458.out 0; have hfz29_1 := bqF BK458.out 1; have hfz29_2 := bqF BK458.out 2; obtain ⟨Ao30, co30, eo30⟩ := Kd.R_slice HO452.out; subst eo30; have hnb31 := NB459_442.out; have hnc31 := NB442_459.out; have hcz32_0 : w26.cell? ⟨gb459, 0, none⟩ = some (.int .i64 0) := (bqC BK459.out 0).trans rfl; have hcz32_1 : w26.cell? ⟨gb459, 1, none⟩ = some (.int .i64 0) := (bqC BK459.out 1).trans rfl; have hcz32_2 : w26.cell? ⟨gb459, 2, none⟩ = some (.slice none 0 0) := (bqC BK459.out 2).trans rfl; have hfz32_0 := bqF BK459.out 0; have hfz32_1 := bqF BK459.out 1; have hfz32_2 := bqF BK459.out 2; obtain ⟨Ao33, co33, eo33⟩ := Kd.R_slice HO457.out; subst eo33) | (go_at_call 20; (with_reducible refine (api_Envelope_20.calls kj4 _ _ t450 _ _ t455 t460 _ ?side1 ?side2 ?side3 ?side4 A18.out).mono ?_); (case side1 => refine (Kd.R_reads' (e := 33) (base := w.heap.size) (ok := fun k_ => (True ∧ some k_ ≠ (.slice Ao33 t455.length co33 : Value).ownBlock)) (n := t450.length) (c := co30) ?_).2.2; exact (by (with_reducible repeat (first | apply Kd.R_alloc | apply Kd.R_drewN | apply Kd.R_drew)); exact (Kd.R_mono (Kd.R_mono (Kd.R_far (p := ⟨gb459, 2, none⟩) (Kd.R_far (p := ⟨gb459, 1, none⟩) (Kd.R_far (p := ⟨gb459, 0, none⟩) (Kd.R_far (p := ⟨gb458, 2, none⟩) (Kd.R_far (p := ⟨gb458, 1, none⟩) (Kd.R_far (p := ⟨gb458, 0, none⟩) (Kd.R_types (Kd.R_types HO452.out BK458.out (by decide)) BK459.out (by decide)) (fun _ hk => hk.1.2) (.int .i64 t448)) (fun _ hk => hk.1.2) (.int .i64 t449)) (fun _ hk => hk.1.2) (.slice Ao30 t450.length co30)) (fun _ hk => hk.2) (.int .i64 t453)) (fun _ hk => hk.2) (.int .i64 t454)) (fun _ hk => hk.2) (.slice Ao33 t455.length co33)) (fun _ h_ => h_.1)) (fun _ h_ => h_.1)))); (case side2 => exact (Kd.R_reads' HO452.out).2.1); (case side3 => refine (Kd.R_reads' (e := 33) (base := w.heap.size) (ok := fun k_ => (True ∧ some k_ ≠ (.slice Ao30 t450.length co30 : Value).ownBlock)) (n := t455.length) (c := co33) ?_).2.2; exact (by (with_reducible repeat (first | apply Kd.R_alloc | apply Kd.R_drewN | apply Kd.R_drew)); exact (Kd.R_mono (Kd.R_mono (Kd.R_far (p := ⟨gb459, 2, none⟩) (Kd.R_far (p := ⟨gb459, 1, none⟩) (Kd.R_far (p := ⟨gb459, 0, none⟩) (Kd.R_far (p := ⟨gb458, 2, none⟩) (Kd.R_far (p := ⟨gb458, 1, none⟩) (Kd.R_far (p := ⟨gb458, 0, none⟩) (Kd.R_types (Kd.R_types HO457.out BK458.out (by decide)) BK459.out (by decide)) (fun _ hk => hk.1.2) (.int .i64 t448)) (fun _ hk => hk.1.2) (.int .i64 t449)) (fun _ hk => hk.1.2) (.slice Ao30 t450.length co30)) (fun _ hk => hk.2) (.int .i64 t453)) (fun _ hk => hk.2) (.int .i64 t454)) (fun _ hk => hk.2) (.slice Ao33 t455.length co33)) (fun _ h_ => h_.1)) (fun _ h_ => h_.1)))); (case side4 => exact (Kd.R_reads' HO457.out).2.1); rintro e w' ⟨rfl, ⟨nd, rfl⟩⟩))
       go_ret
       exact ⟨by first | rfl | (simp [errW_none, errW_some] <;> rfl) | (simp [*, errW_none, errW_some] <;> rfl), by repeat (first | (with_reducible first | exact HB.out | apply lqA | apply lqN | apply lqD | refine lqS ?_ GE442.out | refine lqS ?_ GE458.out | refine lqS ?_ GE459.out) | exact HB.out)⟩
      ·rw [if_neg c17] at H
       exact absurd H (by simp)
     ·rw [if_neg c16] at H
      exact absurd H (by simp)
 ·replace c4 := Bool.eq_false_iff.mpr c4
  subst c4
  have H1 : (none) = some r := by rw [if_neg (show ¬ (false = true) by decide)] at H; exact H
  clear H
  have H := H1
  clear H1
  exact absurd H (by simp)

end Go.Proofs.Ytfafeeobjlkjnaa.K
