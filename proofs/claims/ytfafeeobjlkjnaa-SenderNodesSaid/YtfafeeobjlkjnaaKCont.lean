-- PRINTED by print.py (a twelfth state) out of the translation. Not trusted: Lean checks it.
import Derived.Test.YtfafeeobjlkjnaaK0
import Derived.Test.YtfafeeobjlkjnaaGShort
import Derived.Test.YtfafeeobjlkjnaaK2
namespace Go.Proofs.Ytfafeeobjlkjnaa.K
open Go.RowKit Go.Proofs.YtfafeeobjlkjnaaW.PrintWords Go.Proofs.YtfafeeobjlkjnaaW.PrintLast Go.Proofs.YtfafeeobjlkjnaaW.PrintMore
attribute [local go_sem] max2_int min2_int max_two min_two max_three min_three max_four min_four   -- for this text's walks alone
set_option linter.unusedVariables false
set_option linter.unusedSimpArgs false

attribute [local go_sem high] eqA33
/-! ### slices_Index_int_int: function 56 -/
def slices_Index_int_int.l0 : Nat → List Int → Int → Int → Int → Option (Int)
 | 0, _, _, _, _ => none
 | k + 1, x0, x1, x7, x8 => if x8 < x7 then (if 0 ≤ x8 then (if x8 < (x0.length : Int) then (if x1 = (rd x0 x8) then (some x8) else (slices_Index_int_int.l0 k x0 x1 x7 (wrap64 (x8 + 1)))) else (none)) else (none)) else (some (-1))
def slices_Index_int_int.f (k : Nat) (l0 : List Int) (a1 : Int) : Option (Int) := slices_Index_int_int.l0 k l0 a1 (l0.length : Int) 0
theorem slices_Index_int_int.mono_l : ∀ k, (∀ y0 y1 y2 y3, LeO (slices_Index_int_int.l0 k y0 y1 y2 y3) (slices_Index_int_int.l0 (k + 1) y0 y1 y2 y3))
 | 0 => fun _ _ _ _ r h => by simp [slices_Index_int_int.l0] at h
 | k + 1 => by
  have ih0 := slices_Index_int_int.mono_l k
  ·intro y0 y1 y2 y3
   unfold slices_Index_int_int.l0
   repeat' first
   | (with_reducible exact ih0 _ _ _ _)
   | (with_reducible exact LeO.refl _)
   | (with_reducible exact LeO.none _)
   | (with_reducible refine LeO.ite ?_ ?_)
   | (with_reducible refine LeO.bind ?_ (fun _ => ?_))
   | exact ih0 _ _ _ _
   | exact LeO.none _
   | refine LeO.ite ?_ ?_
   | refine LeO.bind ?_ (fun _ => ?_)
theorem slices_Index_int_int.mono : ∀ a0 a1 k, LeO (slices_Index_int_int.f k a0 a1) (slices_Index_int_int.f (k + 1) a0 a1) := by
 intro a0 a1 k
 have ih0 := slices_Index_int_int.mono_l k
 unfold slices_Index_int_int.f
 repeat' first
   | (with_reducible exact ih0 _ _ _ _)
   | (with_reducible exact LeO.refl _)
   | (with_reducible exact LeO.none _)
   | (with_reducible refine LeO.ite ?_ ?_)
   | (with_reducible refine LeO.bind ?_ (fun _ => ?_))
   | exact ih0 _ _ _ _
   | exact LeO.none _
   | refine LeO.ite ?_ ?_
   | refine LeO.bind ?_ (fun _ => ?_)
set_option maxHeartbeats 8000000 in
set_option maxRecDepth 100000 in
theorem slices_Index_int_int.calls (k : Nat) (A0 : Option Addr) (c0 : Nat) (l0 : List Int) (a1 : Int) (r : Int) (w : World) (hr0 : Kd.C (Kd.int .i64) w A0 l0.length l0) (hc0 : l0.length ≤ c0) (h : slices_Index_int_int.f k l0 a1 = some r) :
  Calls Try.prog 56 #[.slice A0 l0.length c0, .int .i64 a1] w fun e w' => e = .returned (.int .i64 r) ∧ Drawn0 w w' := by
 have HR0 := Aside0.mk hr0
 have HC0 := Aside0.mk hc0
 clear hr0 hc0
 have H : (slices_Index_int_int.l0 k l0 a1 (l0.length : Int) 0) = some r := h
 clear h
 have H' := Aside0.mk H
 clear H
 go_enter Try.func56, Try.ntmps56
 go_wp2
 go_loopg [8] k (fun kq v8 w' => ∃ (x8_1 : Int), v8 = .int .i64 x8_1 ∧ Aside0 (slices_Index_int_int.l0 kq l0 a1 (l0.length : Int) x8_1 = some r) ∧ Aside0 (kq ≤ k) ∧ Drawn0 w w')
 case atStart => exact ⟨(0), (by first | rfl | (simp; done) | (simp [*]; done)), H', ⟨Nat.le_refl _⟩, by repeat (first | exact Drawn0.refl _ | apply Drawn0.step)⟩
 case round =>
  clear H'
  try clear p2
  obtain ⟨x8_1, rfl, HA, HK1, ⟨m1, rfl⟩⟩ := hrel
  cases gk with
  | zero => exact absurd HA.out (by simp [slices_Index_int_int.l0])
  | succ k1 =>
   have H := HA.out
   clear HA
   simp only [slices_Index_int_int.l0] at H
   by_cases c3 : x8_1 < (l0.length : Int)
   ·rw [if_pos c3] at H
    have c3b0 : decide (x8_1 < (l0.length : Int)) = true := decide_eq_true c3
    clear c3
    by_cases c4 : 0 ≤ x8_1
    ·rw [if_pos c4] at H
     have c4b0 : decide (0 ≤ x8_1) = true := decide_eq_true c4
     clear c4
     by_cases c5 : x8_1 < (l0.length : Int)
     ·rw [if_pos c5] at H
      have c5b0 : decide (x8_1 < (l0.length : Int)) = true := decide_eq_true c5
      clear c5
      by_cases c6 : a1 = (rd l0 x8_1)
      ·rw [if_pos c6] at H
       have c6b0 : (a1 == (rd l0 x8_1)) = true := beq_iff_eq.mpr c6
       try simp only [beq_self_eq_true, Bool.not_true, Bool.false_or, Bool.true_and] at c6b0
       have c6b1 : (a1 != (rd l0 x8_1)) = false := bne_eq_false_iff_eq.mpr c6
       clear c6
       obtain rfl := Option.some.inj H
       have p611 : 0 ≤ (x8_1 : Int) := of_decide_eq_true (by first | (with_reducible assumption) | assumption)
       have q611 : x8_1 < (l0.length : Int) := of_decide_eq_true (by first | (with_reducible assumption) | assumption)
       obtain ⟨ad611, e611, hx611_0⟩ := Kd.at_int HR0.out x8_1 p611 q611
       cases e611
       replace p611 := eq_true p611
       replace q611 := eq_true q611
       go_wp2
       go_ret
       exact ⟨by first | rfl | (simp; done) | (simp [*]; done), by repeat (first | exact Drawn0.refl _ | apply Drawn0.step)⟩
      ·rw [if_neg c6] at H
       have c6b0 : (a1 == (rd l0 x8_1)) = false := beq_eq_false_iff_ne.mpr c6
       try simp only [beq_self_eq_true, Bool.not_true, Bool.false_or, Bool.true_and] at c6b0
       have c6b1 : (a1 != (rd l0 x8_1)) = true := bne_iff_ne.mpr c6
       have H' := Aside0.mk H
       clear H
       have p611 : 0 ≤ (x8_1 : Int) := of_decide_eq_true (by first | (with_reducible assumption) | assumption)
       have q611 : x8_1 < (l0.length : Int) := of_decide_eq_true (by first | (with_reducible assumption) | assumption)
       obtain ⟨ad611, e611, hx611_0⟩ := Kd.at_int HR0.out x8_1 p611 q611
       cases e611
       replace p611 := eq_true p611
       replace q611 := eq_true q611
       go_wp2
       go_roundg k1
       case measure => have := HK1.out; omega
       case rel => exact ⟨(wrap64 (x8_1 + 1)), (by first | rfl | (simp; done) | (simp [*]; done)), H', ⟨by have := HK1.out; omega⟩, by repeat (first | exact Drawn0.refl _ | apply Drawn0.step)⟩
     ·rw [if_neg c5] at H
      exact absurd H (by simp)
    ·rw [if_neg c4] at H
     exact absurd H (by simp)
   ·rw [if_neg c3] at H
    have c3b0 : decide (x8_1 < (l0.length : Int)) = false := decide_eq_false c3
    clear c3
    obtain rfl := Option.some.inj H
    go_wp2
    go_ret
    exact ⟨by first | rfl | (simp; done) | (simp [*]; done), by repeat (first | exact Drawn0.refl _ | apply Drawn0.step)⟩

/-! ### slices_Contains_int_int: function 39 -/
def slices_Contains_int_int.f (k : Nat) (l0 : List Int) (a1 : Int) : Option (Bool) := (slices_Index_int_int.f k l0 a1).bind fun t612 => (some (decide (t612 ≥ 0)))
theorem slices_Contains_int_int.mono : ∀ a0 a1 k, LeO (slices_Contains_int_int.f k a0 a1) (slices_Contains_int_int.f (k + 1) a0 a1) := by
 intro a0 a1 k
 unfold slices_Contains_int_int.f
 repeat' first
   | (with_reducible exact slices_Index_int_int.mono _ _ _)
   | (with_reducible exact LeO.refl _)
   | (with_reducible exact LeO.none _)
   | (with_reducible refine LeO.ite ?_ ?_)
   | (with_reducible refine LeO.bind ?_ (fun _ => ?_))
   | exact slices_Index_int_int.mono _ _ _
   | exact LeO.none _
   | refine LeO.ite ?_ ?_
   | refine LeO.bind ?_ (fun _ => ?_)
set_option maxHeartbeats 8000000 in
set_option maxRecDepth 100000 in
theorem slices_Contains_int_int.calls (k : Nat) (A0 : Option Addr) (c0 : Nat) (l0 : List Int) (a1 : Int) (r : Bool) (w : World) (hr0 : Kd.C (Kd.int .i64) w A0 l0.length l0) (hc0 : l0.length ≤ c0) (h : slices_Contains_int_int.f k l0 a1 = some r) :
  Calls Try.prog 39 #[.slice A0 l0.length c0, .int .i64 a1] w fun e w' => e = .returned (.bool r) ∧ Drawn0 w w' := by
 have HR0 := Aside0.mk hr0
 have HC0 := Aside0.mk hc0
 clear hr0 hc0
 have H : ((slices_Index_int_int.f k l0 a1).bind fun t612 => (some (decide (t612 ≥ 0)))) = some r := h
 clear h
 replace H := Option.bind_eq_some_iff.mp H
 obtain ⟨t612, A30, H⟩ := H
 replace H : (some (decide (t612 ≥ 0))) = some r := H
 have A3 := Aside0.mk A30
 clear A30
 obtain rfl := Option.some.inj H
 go_enter Try.func39, Try.ntmps39
 go_wp2_with (first | ((with_reducible refine gqC (f := 56) rfl ?_); refine GS.gL (some 7) Try.func56 #[.slice A0 l0.length c0, .int .i64 a1] ?_; (with_reducible refine (slices_Index_int_int.calls k _ _ l0 a1 t612 _ ?side1 ?side2 A3.out).mono ?_); (case side1 => exact GS.rC HR0.out); (case side2 => exact HC0.out); rintro e w' ⟨rfl, ⟨nd, rfl⟩⟩; refine ⟨_, rfl, ?_⟩))
 go_ret
 exact ⟨by first | rfl | (simp; done) | (simp [*]; done), by repeat (first | exact Drawn0.refl _ | apply Drawn0.step)⟩

/-! ### api_Envelope_55: function 55 -/
def api_Envelope_55.l0 : Nat → List (S33) → Int → Int → Int → Int → Int → Int → Int → Int → Int → Int → Int → Int → Option (Int)
 | 0, _, _, _, _, _, _, _, _, _, _, _, _, _ => none
 | k + 1, x0, x7, x8, x614000, x614001, x614002, x614003, x614004, x614005, x614006, x614007, x614008, x614009 => if x8 < x7 then (if 0 ≤ x8 then (if x8 < (x0.length : Int) then (if (x614000 == ((rd_T33 x0 x8).f0) && (x614001 == ((rd_T33 x0 x8).f1) && (x614002 == ((rd_T33 x0 x8).f2) && ((x614003 == ((rd_T33 x0 x8).f3.f0) && (x614004 == ((rd_T33 x0 x8).f3.f1) && (x614005 == ((rd_T33 x0 x8).f3.f2) && (x614006 == ((rd_T33 x0 x8).f3.f3) && (x614007 == ((rd_T33 x0 x8).f3.f4) && (x614008 == ((rd_T33 x0 x8).f3.f5) && (x614009 == ((rd_T33 x0 x8).f3.f6)))))))))))) = true then (some x8) else (api_Envelope_55.l0 k x0 x7 (wrap64 (x8 + 1)) x614000 x614001 x614002 x614003 x614004 x614005 x614006 x614007 x614008 x614009)) else (none)) else (none)) else (some (-1))
def api_Envelope_55.f (k : Nat) (l0 : List (S33)) (a1_0 : Int) (a1_1 : Int) (a1_2 : Int) (a1_3 : Int) (a1_4 : Int) (a1_5 : Int) (a1_6 : Int) (a1_7 : Int) (a1_8 : Int) (a1_9 : Int) : Option (Int) := api_Envelope_55.l0 k l0 (l0.length : Int) 0 a1_0 a1_1 a1_2 a1_3 a1_4 a1_5 a1_6 a1_7 a1_8 a1_9
theorem api_Envelope_55.mono_l : ∀ k, (∀ y0 y1 y2 y3 y4 y5 y6 y7 y8 y9 y10 y11 y12, LeO (api_Envelope_55.l0 k y0 y1 y2 y3 y4 y5 y6 y7 y8 y9 y10 y11 y12) (api_Envelope_55.l0 (k + 1) y0 y1 y2 y3 y4 y5 y6 y7 y8 y9 y10 y11 y12))
 | 0 => fun _ _ _ _ _ _ _ _ _ _ _ _ _ r h => by simp [api_Envelope_55.l0] at h
 | k + 1 => by
  have ih0 := api_Envelope_55.mono_l k
  ·intro y0 y1 y2 y3 y4 y5 y6 y7 y8 y9 y10 y11 y12
   unfold api_Envelope_55.l0
   repeat' first
   | (with_reducible exact ih0 _ _ _ _ _ _ _ _ _ _ _ _ _)
   | (with_reducible exact LeO.refl _)
   | (with_reducible exact LeO.none _)
   | (with_reducible refine LeO.ite ?_ ?_)
   | (with_reducible refine LeO.bind ?_ (fun _ => ?_))
   | exact ih0 _ _ _ _ _ _ _ _ _ _ _ _ _
   | exact LeO.none _
   | refine LeO.ite ?_ ?_
   | refine LeO.bind ?_ (fun _ => ?_)
theorem api_Envelope_55.mono : ∀ a0 a1 a2 a3 a4 a5 a6 a7 a8 a9 a10 k, LeO (api_Envelope_55.f k a0 a1 a2 a3 a4 a5 a6 a7 a8 a9 a10) (api_Envelope_55.f (k + 1) a0 a1 a2 a3 a4 a5 a6 a7 a8 a9 a10) := by
 intro a0 a1 a2 a3 a4 a5 a6 a7 a8 a9 a10 k
 have ih0 := api_Envelope_55.mono_l k
 unfold api_Envelope_55.f
 repeat' first
   | (with_reducible exact ih0 _ _ _ _ _ _ _ _ _ _ _ _ _)
   | (with_reducible exact LeO.refl _)
   | (with_reducible exact LeO.none _)
   | (with_reducible refine LeO.ite ?_ ?_)
   | (with_reducible refine LeO.bind ?_ (fun _ => ?_))
   | exact ih0 _ _ _ _ _ _ _ _ _ _ _ _ _
   | exact LeO.none _
   | refine LeO.ite ?_ ?_
   | refine LeO.bind ?_ (fun _ => ?_)
set_option maxHeartbeats 8000000 in
set_option maxRecDepth 100000 in
theorem api_Envelope_55.calls (k : Nat) (A0 : Option Addr) (c0 : Nat) (l0 : List (S33)) (a1_0 : Int) (a1_1 : Int) (a1_2 : Int) (a1_3 : Int) (a1_4 : Int) (a1_5 : Int) (a1_6 : Int) (a1_7 : Int) (a1_8 : Int) (a1_9 : Int) (r : Int) (w : World) (hr0 : Kd.C k33 w A0 l0.length l0) (hc0 : l0.length ≤ c0) (h : api_Envelope_55.f k l0 a1_0 a1_1 a1_2 a1_3 a1_4 a1_5 a1_6 a1_7 a1_8 a1_9 = some r) :
  Calls Try.prog 55 #[.slice A0 l0.length c0, .agg #[.int .i64 a1_0, .int .i64 a1_1, .int .i64 a1_2, .int .i64 a1_3, .int .i64 a1_4, .int .i64 a1_5, .int .i64 a1_6, .int .i64 a1_7, .int .i64 a1_8, .int .i64 a1_9]] w fun e w' => e = .returned (.int .i64 r) ∧ Below w.heap.size w w' := by
 have hu33 := Try.underlying33
 have HR0 := Aside0.mk hr0
 have HC0 := Aside0.mk hc0
 clear hr0 hc0
 have HB := Aside0.mk (Below.refl w.heap.size w)
 have H : (api_Envelope_55.l0 k l0 (l0.length : Int) 0 a1_0 a1_1 a1_2 a1_3 a1_4 a1_5 a1_6 a1_7 a1_8 a1_9) = some r := h
 clear h
 have H' := Aside0.mk H
 clear H
 go_enter Try.func55, Try.ntmps55
 go_wp2_with (first | ((with_reducible refine gqD (N := 3) rfl ?_); refine GS.bx (N := 3) (cs := #[.int .i64 a1_0, .int .i64 a1_1, .int .i64 a1_2, .int .i64 a1_3, .int .i64 a1_4, .int .i64 a1_5, .int .i64 a1_6, .int .i64 a1_7, .int .i64 a1_8, .int .i64 a1_9]) (t := 33) ?_; intro gb613 hg w3 hbox hb; have n0_ := Aside0.mk (lqT (GS.lB HB.out) hb); have n1_ := Aside0.mk (hbox); have n2_ := Aside0.mk ((by rw [hg]; exact (lqZ (GS.lB HB.out)) : w.heap.size ≤ gb613)); have n3_ := Aside0.mk ((by rw [hg]; exact (lqZ (GS.lB HB.out)) : w.heap.size ≤ gb613)); clear HB; have HB := n0_; have BK613 := n1_; have GW613 := n2_; have GE613 := n3_; clear n0_ n1_ n2_ n3_; clear hb hbox hg))
 repeat (go_quiet (first | ((with_reducible refine gqD (N := 3) rfl ?_); refine GS.bx (N := 3) (cs := #[.int .i64 a1_0, .int .i64 a1_1, .int .i64 a1_2, .int .i64 a1_3, .int .i64 a1_4, .int .i64 a1_5, .int .i64 a1_6, .int .i64 a1_7, .int .i64 a1_8, .int .i64 a1_9]) (t := 33) ?_; intro gb613 hg w3 hbox hb; have n0_ := Aside0.mk (lqT (GS.lB HB.out) hb); have n1_ := Aside0.mk (hbox); have n2_ := Aside0.mk ((by rw [hg]; exact (lqZ (GS.lB HB.out)) : w.heap.size ≤ gb613)); have n3_ := Aside0.mk ((by rw [hg]; exact (lqZ (GS.lB HB.out)) : w.heap.size ≤ gb613)); clear HB; have HB := n0_; have BK613 := n1_; have GW613 := n2_; have GE613 := n3_; clear n0_ n1_ n2_ n3_; clear hb hbox hg)); try go_wp2_with (first | ((with_reducible refine gqD (N := 3) rfl ?_); refine GS.bx (N := 3) (cs := #[.int .i64 a1_0, .int .i64 a1_1, .int .i64 a1_2, .int .i64 a1_3, .int .i64 a1_4, .int .i64 a1_5, .int .i64 a1_6, .int .i64 a1_7, .int .i64 a1_8, .int .i64 a1_9]) (t := 33) ?_; intro gb613 hg w3 hbox hb; have n0_ := Aside0.mk (lqT (GS.lB HB.out) hb); have n1_ := Aside0.mk (hbox); have n2_ := Aside0.mk ((by rw [hg]; exact (lqZ (GS.lB HB.out)) : w.heap.size ≤ gb613)); have n3_ := Aside0.mk ((by rw [hg]; exact (lqZ (GS.lB HB.out)) : w.heap.size ≤ gb613)); clear HB; have HB := n0_; have BK613 := n1_; have GW613 := n2_; have GE613 := n3_; clear n0_ n1_ n2_ n3_; clear hb hbox hg)))
 go_loopg [8] k (fun kq v8 w' => ∃ (x8_1 : Int), v8 = .int .i64 x8_1 ∧ Aside0 (api_Envelope_55.l0 kq l0 (l0.length : Int) x8_1 a1_0 a1_1 a1_2 a1_3 a1_4 a1_5 a1_6 a1_7 a1_8 a1_9 = some r) ∧ Aside0 (kq ≤ k) ∧ Aside0 (w'.heap[gb613]? = some (.cells #[.int .i64 a1_0, .int .i64 a1_1, .int .i64 a1_2, .int .i64 a1_3, .int .i64 a1_4, .int .i64 a1_5, .int .i64 a1_6, .int .i64 a1_7, .int .i64 a1_8, .int .i64 a1_9] 33 (0, 0))) ∧ Aside0 (Below w.heap.size w w'))
 case atStart => exact ⟨(0), (by first | rfl | (simp; done) | (simp [*]; done)), H', ⟨Nat.le_refl _⟩, ⟨GS.bqX BK613.out⟩, ⟨GS.lB HB.out⟩⟩
 case round =>
  clear H'
  try clear p2
  obtain ⟨x8_1, rfl, HA, HK1, BK613, HB⟩ := hrel
  cases gk with
  | zero => exact absurd HA.out (by simp [api_Envelope_55.l0])
  | succ k1 =>
   have H := HA.out
   clear HA
   simp only [api_Envelope_55.l0] at H
   by_cases c4 : x8_1 < (l0.length : Int)
   ·rw [if_pos c4] at H
    have c4b0 : decide (x8_1 < (l0.length : Int)) = true := decide_eq_true c4
    clear c4
    by_cases c5 : 0 ≤ x8_1
    ·rw [if_pos c5] at H
     have c5b0 : decide (0 ≤ x8_1) = true := decide_eq_true c5
     clear c5
     by_cases c6 : x8_1 < (l0.length : Int)
     ·rw [if_pos c6] at H
      have c6b0 : decide (x8_1 < (l0.length : Int)) = true := decide_eq_true c6
      clear c6
      by_cases c7 : (a1_0 == ((rd_T33 l0 x8_1).f0) && (a1_1 == ((rd_T33 l0 x8_1).f1) && (a1_2 == ((rd_T33 l0 x8_1).f2) && ((a1_3 == ((rd_T33 l0 x8_1).f3.f0) && (a1_4 == ((rd_T33 l0 x8_1).f3.f1) && (a1_5 == ((rd_T33 l0 x8_1).f3.f2) && (a1_6 == ((rd_T33 l0 x8_1).f3.f3) && (a1_7 == ((rd_T33 l0 x8_1).f3.f4) && (a1_8 == ((rd_T33 l0 x8_1).f3.f5) && (a1_9 == ((rd_T33 l0 x8_1).f3.f6)))))))))))) = true
      ·rw [if_pos c7] at H
       have c7b0 : (a1_0 == ((rd_T33 l0 x8_1).f0) && (a1_1 == ((rd_T33 l0 x8_1).f1) && (a1_2 == ((rd_T33 l0 x8_1).f2) && ((a1_3 == ((rd_T33 l0 x8_1).f3.f0) && (a1_4 == ((rd_T33 l0 x8_1).f3.f1) && (a1_5 == ((rd_T33 l0 x8_1).f3.f2) && (a1_6 == ((rd_T33 l0 x8_1).f3.f3) && (a1_7 == ((rd_T33 l0 x8_1).f3.f4) && (a1_8 == ((rd_T33 l0 x8_1).f3.f5) && (a1_9 == ((rd_T33 l0 x8_1).f3.f6)))))))))))) = true := c7
       try simp only [beq_self_eq_true, Bool.not_true, Bool.false_or, Bool.true_and] at c7b0
       (try (have c7b1 : decide (a1_0 = ((rd_T33 l0 x8_1).f0) && (a1_1 == ((rd_T33 l0 x8_1).f1) && (a1_2 == ((rd_T33 l0 x8_1).f2) && ((a1_3 == ((rd_T33 l0 x8_1).f3.f0) && (a1_4 == ((rd_T33 l0 x8_1).f3.f1) && (a1_5 == ((rd_T33 l0 x8_1).f3.f2) && (a1_6 == ((rd_T33 l0 x8_1).f3.f3) && (a1_7 == ((rd_T33 l0 x8_1).f3.f4) && (a1_8 == ((rd_T33 l0 x8_1).f3.f5) && (a1_9 == ((rd_T33 l0 x8_1).f3.f6)))))))))))) = true := by simpa using c7))
       (try (have c7b2 : (a1_0 == ((rd_T33 l0 x8_1).f0) && (a1_1 == ((rd_T33 l0 x8_1).f1) && (a1_2 == ((rd_T33 l0 x8_1).f2) && ((a1_3 == ((rd_T33 l0 x8_1).f3.f0) && (a1_4 == ((rd_T33 l0 x8_1).f3.f1) && (a1_5 == ((rd_T33 l0 x8_1).f3.f2) && (a1_6 == ((rd_T33 l0 x8_1).f3.f3) && (a1_7 == ((rd_T33 l0 x8_1).f3.f4) && (a1_8 == ((rd_T33 l0 x8_1).f3.f5) && (a1_9 == ((rd_T33 l0 x8_1).f3.f6)))))))))))) = true := by simpa using c7))
       clear c7
       obtain rfl := Option.some.inj H
       obtain ⟨hcz8_0, hcz8_1, hcz8_2, hcz8_3, hcz8_4, hcz8_5, hcz8_6, hcz8_7, hcz8_8, hcz8_9, hfz8_0, hfz8_1, hfz8_2, hfz8_3, hfz8_4, hfz8_5, hfz8_6, hfz8_7, hfz8_8, hfz8_9⟩ := GS.c10 BK613.out
       have p614 : 0 ≤ (x8_1 : Int) := of_decide_eq_true (by first | (with_reducible assumption) | assumption)
       have q614 : x8_1 < (l0.length : Int) := of_decide_eq_true (by first | (with_reducible assumption) | assumption)
       obtain ⟨ad614, e614, hx614_0, hx614_1, hx614_2, hx614_3, hx614_4, hx614_5, hx614_6, hx614_7, hx614_8, hx614_9⟩ := at_T33 HR0.out x8_1 p614 q614
       cases e614
       replace hx614_0 := (HB.out.cell (World.block_lt_of_cell? w _ hx614_0)).trans hx614_0
       replace hx614_1 := (HB.out.cell (World.block_lt_of_cell? w _ hx614_1)).trans hx614_1
       replace hx614_2 := (HB.out.cell (World.block_lt_of_cell? w _ hx614_2)).trans hx614_2
       replace hx614_3 := (HB.out.cell (World.block_lt_of_cell? w _ hx614_3)).trans hx614_3
       replace hx614_4 := (HB.out.cell (World.block_lt_of_cell? w _ hx614_4)).trans hx614_4
       replace hx614_5 := (HB.out.cell (World.block_lt_of_cell? w _ hx614_5)).trans hx614_5
       replace hx614_6 := (HB.out.cell (World.block_lt_of_cell? w _ hx614_6)).trans hx614_6
       replace hx614_7 := (HB.out.cell (World.block_lt_of_cell? w _ hx614_7)).trans hx614_7
       replace hx614_8 := (HB.out.cell (World.block_lt_of_cell? w _ hx614_8)).trans hx614_8
       replace hx614_9 := (HB.out.cell (World.block_lt_of_cell? w _ hx614_9)).trans hx614_9
       replace p614 := eq_true p614
       replace q614 := eq_true q614
       go_wp2
       repeat (go_quiet (fail); try go_wp2)
       go_ret
       exact ⟨by first | rfl | (simp [errW_none, errW_some] <;> rfl) | (simp [*, errW_none, errW_some] <;> rfl), GS.lB HB.out⟩
      ·rw [if_neg c7] at H
       have c7b0 : (a1_0 == ((rd_T33 l0 x8_1).f0) && (a1_1 == ((rd_T33 l0 x8_1).f1) && (a1_2 == ((rd_T33 l0 x8_1).f2) && ((a1_3 == ((rd_T33 l0 x8_1).f3.f0) && (a1_4 == ((rd_T33 l0 x8_1).f3.f1) && (a1_5 == ((rd_T33 l0 x8_1).f3.f2) && (a1_6 == ((rd_T33 l0 x8_1).f3.f3) && (a1_7 == ((rd_T33 l0 x8_1).f3.f4) && (a1_8 == ((rd_T33 l0 x8_1).f3.f5) && (a1_9 == ((rd_T33 l0 x8_1).f3.f6)))))))))))) = false := by simpa using c7
       try simp only [beq_self_eq_true, Bool.not_true, Bool.false_or, Bool.true_and] at c7b0
       (try (have c7b1 : decide (a1_0 = ((rd_T33 l0 x8_1).f0) && (a1_1 == ((rd_T33 l0 x8_1).f1) && (a1_2 == ((rd_T33 l0 x8_1).f2) && ((a1_3 == ((rd_T33 l0 x8_1).f3.f0) && (a1_4 == ((rd_T33 l0 x8_1).f3.f1) && (a1_5 == ((rd_T33 l0 x8_1).f3.f2) && (a1_6 == ((rd_T33 l0 x8_1).f3.f3) && (a1_7 == ((rd_T33 l0 x8_1).f3.f4) && (a1_8 == ((rd_T33 l0 x8_1).f3.f5) && (a1_9 == ((rd_T33 l0 x8_1).f3.f6)))))))))))) = false := by simpa using c7))
       (try (have c7b2 : (a1_0 == ((rd_T33 l0 x8_1).f0) && (a1_1 == ((rd_T33 l0 x8_1).f1) && (a1_2 == ((rd_T33 l0 x8_1).f2) && ((a1_3 == ((rd_T33 l0 x8_1).f3.f0) && (a1_4 == ((rd_T33 l0 x8_1).f3.f1) && (a1_5 == ((rd_T33 l0 x8_1).f3.f2) && (a1_6 == ((rd_T33 l0 x8_1).f3.f3) && (a1_7 == ((rd_T33 l0 x8_1).f3.f4) && (a1_8 == ((rd_T33 l0 x8_1).f3.f5) && (a1_9 == ((rd_T33 l0 x8_1).f3.f6)))))))))))) = false := by simpa using c7))
       (try (have c7b3 : ¬ (a1_0 = ((rd_T33 l0 x8_1).f0) && (a1_1 == ((rd_T33 l0 x8_1).f1) && (a1_2 == ((rd_T33 l0 x8_1).f2) && ((a1_3 == ((rd_T33 l0 x8_1).f3.f0) && (a1_4 == ((rd_T33 l0 x8_1).f3.f1) && (a1_5 == ((rd_T33 l0 x8_1).f3.f2) && (a1_6 == ((rd_T33 l0 x8_1).f3.f3) && (a1_7 == ((rd_T33 l0 x8_1).f3.f4) && (a1_8 == ((rd_T33 l0 x8_1).f3.f5) && (a1_9 == ((rd_T33 l0 x8_1).f3.f6)))))))))))) := by simpa using c7))
       clear c7
       have H' := Aside0.mk H
       clear H
       obtain ⟨hcz9_0, hcz9_1, hcz9_2, hcz9_3, hcz9_4, hcz9_5, hcz9_6, hcz9_7, hcz9_8, hcz9_9, hfz9_0, hfz9_1, hfz9_2, hfz9_3, hfz9_4, hfz9_5, hfz9_6, hfz9_7, hfz9_8, hfz9_9⟩ := GS.c10 BK613.out
       have p614 : 0 ≤ (x8_1 : Int) := of_decide_eq_true (by first | (with_reducible assumption) | assumption)
       have q614 : x8_1 < (l0.length : Int) := of_decide_eq_true (by first | (with_reducible assumption) | assumption)
       obtain ⟨ad614, e614, hx614_0, hx614_1, hx614_2, hx614_3, hx614_4, hx614_5, hx614_6, hx614_7, hx614_8, hx614_9⟩ := at_T33 HR0.out x8_1 p614 q614
       cases e614
       replace hx614_0 := (HB.out.cell (World.block_lt_of_cell? w _ hx614_0)).trans hx614_0
       replace hx614_1 := (HB.out.cell (World.block_lt_of_cell? w _ hx614_1)).trans hx614_1
       replace hx614_2 := (HB.out.cell (World.block_lt_of_cell? w _ hx614_2)).trans hx614_2
       replace hx614_3 := (HB.out.cell (World.block_lt_of_cell? w _ hx614_3)).trans hx614_3
       replace hx614_4 := (HB.out.cell (World.block_lt_of_cell? w _ hx614_4)).trans hx614_4
       replace hx614_5 := (HB.out.cell (World.block_lt_of_cell? w _ hx614_5)).trans hx614_5
       replace hx614_6 := (HB.out.cell (World.block_lt_of_cell? w _ hx614_6)).trans hx614_6
       replace hx614_7 := (HB.out.cell (World.block_lt_of_cell? w _ hx614_7)).trans hx614_7
       replace hx614_8 := (HB.out.cell (World.block_lt_of_cell? w _ hx614_8)).trans hx614_8
       replace hx614_9 := (HB.out.cell (World.block_lt_of_cell? w _ hx614_9)).trans hx614_9
       replace p614 := eq_true p614
       replace q614 := eq_true q614
       go_wp2
       repeat (go_quiet (fail); try go_wp2)
       go_roundg k1
       case measure => have := HK1.out; omega
       case rel => exact ⟨(wrap64 (x8_1 + 1)), (by first | rfl | (simp; done) | (simp [*]; done)), H', ⟨by have := HK1.out; omega⟩, ⟨GS.bqX BK613.out⟩, ⟨GS.lB HB.out⟩⟩
     ·rw [if_neg c6] at H
      exact absurd H (by simp)
    ·rw [if_neg c5] at H
     exact absurd H (by simp)
   ·rw [if_neg c4] at H
    have c4b0 : decide (x8_1 < (l0.length : Int)) = false := decide_eq_false c4
    clear c4
    obtain rfl := Option.some.inj H
    go_wp2
    repeat (go_quiet (fail); try go_wp2)
    go_ret
    exact ⟨by first | rfl | (simp [errW_none, errW_some] <;> rfl) | (simp [*, errW_none, errW_some] <;> rfl), GS.lB HB.out⟩

/-! ### api_Envelope_38: function 38 -/
def api_Envelope_38.f (k : Nat) (l0 : List (S33)) (a1_0 : Int) (a1_1 : Int) (a1_2 : Int) (a1_3 : Int) (a1_4 : Int) (a1_5 : Int) (a1_6 : Int) (a1_7 : Int) (a1_8 : Int) (a1_9 : Int) : Option (Bool) := (api_Envelope_55.f k l0 a1_0 a1_1 a1_2 a1_3 a1_4 a1_5 a1_6 a1_7 a1_8 a1_9).bind fun t616 => (some (decide (t616 ≥ 0)))
theorem api_Envelope_38.mono : ∀ a0 a1 a2 a3 a4 a5 a6 a7 a8 a9 a10 k, LeO (api_Envelope_38.f k a0 a1 a2 a3 a4 a5 a6 a7 a8 a9 a10) (api_Envelope_38.f (k + 1) a0 a1 a2 a3 a4 a5 a6 a7 a8 a9 a10) := by
 intro a0 a1 a2 a3 a4 a5 a6 a7 a8 a9 a10 k
 unfold api_Envelope_38.f
 repeat' first
   | (with_reducible exact api_Envelope_55.mono _ _ _ _ _ _ _ _ _ _ _ _)
   | (with_reducible exact LeO.refl _)
   | (with_reducible exact LeO.none _)
   | (with_reducible refine LeO.ite ?_ ?_)
   | (with_reducible refine LeO.bind ?_ (fun _ => ?_))
   | exact api_Envelope_55.mono _ _ _ _ _ _ _ _ _ _ _ _
   | exact LeO.none _
   | refine LeO.ite ?_ ?_
   | refine LeO.bind ?_ (fun _ => ?_)
set_option maxHeartbeats 8000000 in
set_option maxRecDepth 100000 in
theorem api_Envelope_38.calls (k : Nat) (A0 : Option Addr) (c0 : Nat) (l0 : List (S33)) (a1_0 : Int) (a1_1 : Int) (a1_2 : Int) (a1_3 : Int) (a1_4 : Int) (a1_5 : Int) (a1_6 : Int) (a1_7 : Int) (a1_8 : Int) (a1_9 : Int) (r : Bool) (w : World) (hr0 : Kd.C k33 w A0 l0.length l0) (hc0 : l0.length ≤ c0) (h : api_Envelope_38.f k l0 a1_0 a1_1 a1_2 a1_3 a1_4 a1_5 a1_6 a1_7 a1_8 a1_9 = some r) :
  Calls Try.prog 38 #[.slice A0 l0.length c0, .agg #[.int .i64 a1_0, .int .i64 a1_1, .int .i64 a1_2, .int .i64 a1_3, .int .i64 a1_4, .int .i64 a1_5, .int .i64 a1_6, .int .i64 a1_7, .int .i64 a1_8, .int .i64 a1_9]] w fun e w' => e = .returned (.bool r) ∧ Below w.heap.size w w' := by
 have hu33 := Try.underlying33
 have HR0 := Aside0.mk hr0
 have HC0 := Aside0.mk hc0
 clear hr0 hc0
 have HB := Aside0.mk (Below.refl w.heap.size w)
 have H : ((api_Envelope_55.f k l0 a1_0 a1_1 a1_2 a1_3 a1_4 a1_5 a1_6 a1_7 a1_8 a1_9).bind fun t616 => (some (decide (t616 ≥ 0)))) = some r := h
 clear h
 replace H := Option.bind_eq_some_iff.mp H
 obtain ⟨t616, A30, H⟩ := H
 replace H : (some (decide (t616 ≥ 0))) = some r := H
 have A3 := Aside0.mk A30
 clear A30
 obtain rfl := Option.some.inj H
 go_enter Try.func38, Try.ntmps38
 go_wp2_with (first | ((with_reducible refine gqD (N := 3) rfl ?_); refine GS.bx (N := 3) (cs := #[.int .i64 a1_0, .int .i64 a1_1, .int .i64 a1_2, .int .i64 a1_3, .int .i64 a1_4, .int .i64 a1_5, .int .i64 a1_6, .int .i64 a1_7, .int .i64 a1_8, .int .i64 a1_9]) (t := 33) ?_; intro gb615 hg w4 hbox hb; have n0_ := Aside0.mk (lqT (GS.lB HB.out) hb); have n1_ := Aside0.mk (hbox); have n2_ := Aside0.mk ((by rw [hg]; exact (lqZ (GS.lB HB.out)) : w.heap.size ≤ gb615)); have n3_ := Aside0.mk ((by rw [hg]; exact (lqZ (GS.lB HB.out)) : w.heap.size ≤ gb615)); clear HB; have HB := n0_; have BK615 := n1_; have GW615 := n2_; have GE615 := n3_; clear n0_ n1_ n2_ n3_; clear hb hbox hg; obtain ⟨hcz5_0, hcz5_1, hcz5_2, hcz5_3, hcz5_4, hcz5_5, hcz5_6, hcz5_7, hcz5_8, hcz5_9, hfz5_0, hfz5_1, hfz5_2, hfz5_3, hfz5_4, hfz5_5, hfz5_6, hfz5_7, hfz5_8, hfz5_9⟩ := GS.c10 BK615.out) | ((with_reducible refine gqC (f := 55) rfl ?_); refine GS.gL (some 7) Try.func55 #[.slice A0 l0.length c0, .agg #[.int .i64 a1_0, .int .i64 a1_1, .int .i64 a1_2, .int .i64 a1_3, .int .i64 a1_4, .int .i64 a1_5, .int .i64 a1_6, .int .i64 a1_7, .int .i64 a1_8, .int .i64 a1_9]] ?_; (with_reducible refine (api_Envelope_55.calls k _ _ l0 a1_0 a1_1 a1_2 a1_3 a1_4 a1_5 a1_6 a1_7 a1_8 a1_9 t616 _ ?side1 ?side2 A3.out).mono ?_); (case side1 => exact GS.rC (Kd.C_below HR0.out HB.out)); (case side2 => exact HC0.out); rintro e w6 ⟨rfl, hb⟩; refine ⟨_, rfl, ?_⟩; have n0_ := Aside0.mk (bqB (GS.bqX BK615.out) hb); have n1_ := Aside0.mk (lqT (GS.lB HB.out) hb); clear BK615; clear HB; have BK615 := n0_; have HB := n1_; clear n0_ n1_; (try clear hb); (try clear hb2); (try clear hk); (try clear hi)))
 go_ret
 exact ⟨by first | rfl | (simp [errW_none, errW_some] <;> rfl) | (simp [*, errW_none, errW_some] <;> rfl), GS.lB HB.out⟩

/-! ### spilelaw42_SenderNodes_1: function 37 -/
def spilelaw42_SenderNodes_1.f (k : Nat) (a0_0 : Int) (a0_1 : Int) (a0_2 : Int) (a0_3 : Int) (a0_4 : Int) (a0_5 : Int) (a0_6 : Int) (a0_7 : Int) (a0_8 : Int) (a0_9 : Int) (a1 : Int) (a2_0 : Int) (a2_1 : Int) (l2_2 : List (S33)) : Option (Bool) := if a0_1 = a1 then ((api_Envelope_38.f k l2_2 a0_0 a0_1 a0_2 a0_3 a0_4 a0_5 a0_6 a0_7 a0_8 a0_9).bind fun t619 => (some (!t619))) else (some true)
theorem spilelaw42_SenderNodes_1.mono : ∀ a0 a1 a2 a3 a4 a5 a6 a7 a8 a9 a10 a11 a12 a13 k, LeO (spilelaw42_SenderNodes_1.f k a0 a1 a2 a3 a4 a5 a6 a7 a8 a9 a10 a11 a12 a13) (spilelaw42_SenderNodes_1.f (k + 1) a0 a1 a2 a3 a4 a5 a6 a7 a8 a9 a10 a11 a12 a13) := by
 intro a0 a1 a2 a3 a4 a5 a6 a7 a8 a9 a10 a11 a12 a13 k
 unfold spilelaw42_SenderNodes_1.f
 repeat' first
   | (with_reducible exact api_Envelope_38.mono _ _ _ _ _ _ _ _ _ _ _ _)
   | (with_reducible exact LeO.refl _)
   | (with_reducible exact LeO.none _)
   | (with_reducible refine LeO.ite ?_ ?_)
   | (with_reducible refine LeO.bind ?_ (fun _ => ?_))
   | exact api_Envelope_38.mono _ _ _ _ _ _ _ _ _ _ _ _
   | exact LeO.none _
   | refine LeO.ite ?_ ?_
   | refine LeO.bind ?_ (fun _ => ?_)
set_option maxHeartbeats 8000000 in
set_option maxRecDepth 100000 in
theorem spilelaw42_SenderNodes_1.calls (k : Nat) (gN gb617 : Nat) (a0_0 : Int) (a0_1 : Int) (a0_2 : Int) (a0_3 : Int) (a0_4 : Int) (a0_5 : Int) (a0_6 : Int) (a0_7 : Int) (a0_8 : Int) (a0_9 : Int) (a1 : Int) (a2_0 : Int) (a2_1 : Int) (A2_2 : Option Addr) (c2_2 : Nat) (l2_2 : List (S33)) (r : Bool) (w : World) (hr2_2 : Kd.C k33 w A2_2 l2_2.length l2_2) (hc2_2 : l2_2.length ≤ c2_2) (hbN : w.heap[gN]? = some (.cells #[.int .i64 a1] 3 (0, 0))) (hbk : w.heap[gb617]? = some (.cells #[.int .i64 a2_0, .int .i64 a2_1, .slice A2_2 l2_2.length c2_2] 24 (0, 0))) (h : spilelaw42_SenderNodes_1.f k a0_0 a0_1 a0_2 a0_3 a0_4 a0_5 a0_6 a0_7 a0_8 a0_9 a1 a2_0 a2_1 l2_2 = some r) :
  Calls Try.prog 37 #[.agg #[.int .i64 a0_0, .int .i64 a0_1, .int .i64 a0_2, .int .i64 a0_3, .int .i64 a0_4, .int .i64 a0_5, .int .i64 a0_6, .int .i64 a0_7, .int .i64 a0_8, .int .i64 a0_9], .pointer (some ⟨gN, 0, none⟩), .pointer (some ⟨gb617, 0, none⟩)] w fun e w' => e = .returned (.bool r) ∧ Below w.heap.size w w' := by
 have hu24 := Try.underlying24
 have hu33 := Try.underlying33
 have HR2_2 := Aside0.mk hr2_2
 have HC2_2 := Aside0.mk hc2_2
 clear hr2_2 hc2_2
 have HB := Aside0.mk (Below.refl w.heap.size w)
 have BK617 := Aside0.mk hbk
 have BKN := Aside0.mk hbN
 clear hbk hbN
 have H : (if a0_1 = a1 then ((api_Envelope_38.f k l2_2 a0_0 a0_1 a0_2 a0_3 a0_4 a0_5 a0_6 a0_7 a0_8 a0_9).bind fun t619 => (some (!t619))) else (some true)) = some r := h
 clear h
 by_cases c4 : a0_1 = a1
 ·rw [if_pos c4] at H
  have c4b0 : (a0_1 == a1) = true := beq_iff_eq.mpr c4
  try simp only [beq_self_eq_true, Bool.not_true, Bool.false_or, Bool.true_and] at c4b0
  have c4b1 : (a0_1 != a1) = false := bne_eq_false_iff_eq.mpr c4
  clear c4
  replace H := Option.bind_eq_some_iff.mp H
  obtain ⟨t619, A50, H⟩ := H
  replace H : (some (!t619)) = some r := H
  have A5 := Aside0.mk A50
  clear A50
  obtain rfl := Option.some.inj H
  go_enter Try.func37, Try.ntmps37
  go_wp2_with (first | ((with_reducible refine gqD (N := 3) rfl ?_); refine GS.bx (N := 3) (cs := #[.int .i64 a0_0, .int .i64 a0_1, .int .i64 a0_2, .int .i64 a0_3, .int .i64 a0_4, .int .i64 a0_5, .int .i64 a0_6, .int .i64 a0_7, .int .i64 a0_8, .int .i64 a0_9]) (t := 33) ?_; intro gb618 hg w7 hbox hb; have nN_ := Aside0.mk (blk_below (w := w) BKN.out hb); clear BKN; have BKN := nN_; clear nN_; have hzN := (bqC BKN.out 0).trans rfl; have n0_ := Aside0.mk (bqB (GS.bqX BK617.out) hb); have n1_ := Aside0.mk (lqT (GS.lB HB.out) hb); have n2_ := Aside0.mk (hbox); have n3_ := Aside0.mk ((by rw [hg]; exact (lqZ (GS.lB HB.out)) : w.heap.size ≤ gb618)); have n4_ := Aside0.mk ((by rw [hg]; exact (lqZ (GS.lB HB.out)) : w.heap.size ≤ gb618)); have n5_ := Aside0.mk ((by rw [hg]; exact Nat.ne_of_lt (blk_lt (GS.bqX BK617.out)) : gb617 ≠ gb618)); have n6_ := Aside0.mk ((by rw [hg]; exact Nat.ne_of_gt (blk_lt (GS.bqX BK617.out)) : gb618 ≠ gb617)); clear BK617; clear HB; have BK617 := n0_; have HB := n1_; have BK618 := n2_; have GW618 := n3_; have GE618 := n4_; have NB617_618 := n5_; have NB618_617 := n6_; clear n0_ n1_ n2_ n3_ n4_ n5_ n6_; clear hb hbox hg; have hnb8 := NB618_617.out; have hnc8 := NB617_618.out; obtain ⟨hcz9_0, hcz9_1, hcz9_2, hcz9_3, hcz9_4, hcz9_5, hcz9_6, hcz9_7, hcz9_8, hcz9_9, hfz9_0, hfz9_1, hfz9_2, hfz9_3, hfz9_4, hfz9_5, hfz9_6, hfz9_7, hfz9_8, hfz9_9⟩ := GS.c10 BK618.out; obtain ⟨hcz10_0, hcz10_1, hcz10_2, hfz10_0, hfz10_1, hfz10_2⟩ := GS.c3 BK617.out) | (go_at_call 38; (with_reducible refine (api_Envelope_38.calls k _ _ l2_2 a0_0 a0_1 a0_2 a0_3 a0_4 a0_5 a0_6 a0_7 a0_8 a0_9 t619 _ ?side1 ?side2 A5.out).mono ?_); (case side1 => exact GS.rC (Kd.C_below HR2_2.out HB.out)); (case side2 => exact HC2_2.out); rintro e w11 ⟨rfl, hb⟩; have n0_ := Aside0.mk (bqB (GS.bqX BK617.out) hb); have n1_ := Aside0.mk (bqB (GS.bqX BK618.out) hb); have n2_ := Aside0.mk (lqT (GS.lB HB.out) hb); clear BK617; clear BK618; clear HB; have BK617 := n0_; have BK618 := n1_; have HB := n2_; clear n0_ n1_ n2_; (try clear hb); (try clear hb2); (try clear hk); (try clear hi)))
  go_ret
  exact ⟨by first | rfl | (simp [errW_none, errW_some] <;> rfl) | (simp [*, errW_none, errW_some] <;> rfl), GS.lB HB.out⟩
 ·rw [if_neg c4] at H
  have c4b0 : (a0_1 == a1) = false := beq_eq_false_iff_ne.mpr c4
  try simp only [beq_self_eq_true, Bool.not_true, Bool.false_or, Bool.true_and] at c4b0
  have c4b1 : (a0_1 != a1) = true := bne_iff_ne.mpr c4
  obtain rfl := Option.some.inj H
  go_enter Try.func37, Try.ntmps37
  go_wp2_with (first | ((with_reducible refine gqD (N := 3) rfl ?_); refine GS.bx (N := 3) (cs := #[.int .i64 a0_0, .int .i64 a0_1, .int .i64 a0_2, .int .i64 a0_3, .int .i64 a0_4, .int .i64 a0_5, .int .i64 a0_6, .int .i64 a0_7, .int .i64 a0_8, .int .i64 a0_9]) (t := 33) ?_; intro gb618 hg w13 hbox hb; have nN_ := Aside0.mk (blk_below (w := w) BKN.out hb); clear BKN; have BKN := nN_; clear nN_; have hzN := (bqC BKN.out 0).trans rfl; have n0_ := Aside0.mk (bqB (GS.bqX BK617.out) hb); have n1_ := Aside0.mk (lqT (GS.lB HB.out) hb); have n2_ := Aside0.mk (hbox); have n3_ := Aside0.mk ((by rw [hg]; exact (lqZ (GS.lB HB.out)) : w.heap.size ≤ gb618)); have n4_ := Aside0.mk ((by rw [hg]; exact (lqZ (GS.lB HB.out)) : w.heap.size ≤ gb618)); have n5_ := Aside0.mk ((by rw [hg]; exact Nat.ne_of_lt (blk_lt (GS.bqX BK617.out)) : gb617 ≠ gb618)); have n6_ := Aside0.mk ((by rw [hg]; exact Nat.ne_of_gt (blk_lt (GS.bqX BK617.out)) : gb618 ≠ gb617)); clear BK617; clear HB; have BK617 := n0_; have HB := n1_; have BK618 := n2_; have GW618 := n3_; have GE618 := n4_; have NB617_618 := n5_; have NB618_617 := n6_; clear n0_ n1_ n2_ n3_ n4_ n5_ n6_; clear hb hbox hg; have hnb14 := NB618_617.out; have hnc14 := NB617_618.out; obtain ⟨hcz15_0, hcz15_1, hcz15_2, hcz15_3, hcz15_4, hcz15_5, hcz15_6, hcz15_7, hcz15_8, hcz15_9, hfz15_0, hfz15_1, hfz15_2, hfz15_3, hfz15_4, hfz15_5, hfz15_6, hfz15_7, hfz15_8, hfz15_9⟩ := GS.c10 BK618.out))
  go_ret
  exact ⟨by first | rfl | (simp [errW_none, errW_some] <;> rfl) | (simp [*, errW_none, errW_some] <;> rfl), GS.lB HB.out⟩

end Go.Proofs.Ytfafeeobjlkjnaa.K
