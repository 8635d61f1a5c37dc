-- PRINTED by print.py (a twelfth state) out of the translation. Not trusted: Lean checks it.
import Derived.Test.YtfafeeobjlkjnaaK0
import Derived.Test.YtfafeeobjlkjnaaGShort
import Derived.Test.YtfafeeobjlkjnaaK2
namespace Go.Proofs.Ytfafeeobjlkjnaa.K
open Go.RowKit Go.Proofs.YtfafeeobjlkjnaaW.PrintWords Go.Proofs.YtfafeeobjlkjnaaW.PrintLast Go.Proofs.YtfafeeobjlkjnaaW.PrintMore
attribute [local go_sem] max2_int min2_int max_two min_two max_three min_three max_four min_four   -- for this text's walks alone
set_option linter.unusedVariables false
set_option linter.unusedSimpArgs false

attribute [local go_sem high] eqA33
/-! ### api_Envelope_20: function 20 -/
def api_Envelope_20.l0 : Nat → List (S33) → List (S33) → Int → Int → Option (Bool)
 | 0, _, _, _, _ => none
 | k + 1, x0, x1, x12, x13 => if x13 < x12 then (if 0 ≤ x13 then (if x13 < (x0.length : Int) then (if x13 < (x1.length : Int) then (if (!(((rd_T33 x0 x13).f0) == ((rd_T33 x1 x13).f0)) || (!(((rd_T33 x0 x13).f1) == ((rd_T33 x1 x13).f1)) || (!(((rd_T33 x0 x13).f2) == ((rd_T33 x1 x13).f2)) || ((!(((rd_T33 x0 x13).f3.f0) == ((rd_T33 x1 x13).f3.f0)) || (!(((rd_T33 x0 x13).f3.f1) == ((rd_T33 x1 x13).f3.f1)) || (!(((rd_T33 x0 x13).f3.f2) == ((rd_T33 x1 x13).f3.f2)) || (!(((rd_T33 x0 x13).f3.f3) == ((rd_T33 x1 x13).f3.f3)) || (!(((rd_T33 x0 x13).f3.f4) == ((rd_T33 x1 x13).f3.f4)) || (!(((rd_T33 x0 x13).f3.f5) == ((rd_T33 x1 x13).f3.f5)) || (!(((rd_T33 x0 x13).f3.f6) == ((rd_T33 x1 x13).f3.f6))))))))))))) = true then (some false) else (api_Envelope_20.l0 k x0 x1 x12 (wrap64 (x13 + 1)))) else (none)) else (none)) else (none)) else (some true)
def api_Envelope_20.f (k : Nat) (l0 : List (S33)) (l1 : List (S33)) : Option (Bool) := if (l0.length : Int) = (l1.length : Int) then (api_Envelope_20.l0 k l0 l1 (l0.length : Int) 0) else (some false)
theorem api_Envelope_20.mono_l : ∀ k, (∀ y0 y1 y2 y3, LeO (api_Envelope_20.l0 k y0 y1 y2 y3) (api_Envelope_20.l0 (k + 1) y0 y1 y2 y3))
 | 0 => fun _ _ _ _ r h => by simp [api_Envelope_20.l0] at h
 | k + 1 => by
  have ih0 := api_Envelope_20.mono_l k
  ·intro y0 y1 y2 y3
   unfold api_Envelope_20.l0
   repeat' first
   | (with_reducible exact ih0 _ _ _ _)
   | (with_reducible exact LeO.refl _)
   | (with_reducible exact LeO.none _)
   | (with_reducible refine LeO.ite ?_ ?_)
   | (with_reducible refine LeO.bind ?_ (fun _ => ?_))
   | exact ih0 _ _ _ _
   | exact LeO.none _
   | refine LeO.ite ?_ ?_
   | refine LeO.bind ?_ (fun _ => ?_)
theorem api_Envelope_20.mono : ∀ a0 a1 k, LeO (api_Envelope_20.f k a0 a1) (api_Envelope_20.f (k + 1) a0 a1) := by
 intro a0 a1 k
 have ih0 := api_Envelope_20.mono_l k
 unfold api_Envelope_20.f
 repeat' first
   | (with_reducible exact ih0 _ _ _ _)
   | (with_reducible exact LeO.refl _)
   | (with_reducible exact LeO.none _)
   | (with_reducible refine LeO.ite ?_ ?_)
   | (with_reducible refine LeO.bind ?_ (fun _ => ?_))
   | exact ih0 _ _ _ _
   | exact LeO.none _
   | refine LeO.ite ?_ ?_
   | refine LeO.bind ?_ (fun _ => ?_)
set_option maxHeartbeats 8000000 in
set_option maxRecDepth 100000 in
theorem api_Envelope_20.calls (k : Nat) (A0 : Option Addr) (c0 : Nat) (l0 : List (S33)) (A1 : Option Addr) (c1 : Nat) (l1 : List (S33)) (r : Bool) (w : World) (hr0 : Kd.C k33 w A0 l0.length l0) (hc0 : l0.length ≤ c0) (hr1 : Kd.C k33 w A1 l1.length l1) (hc1 : l1.length ≤ c1) (h : api_Envelope_20.f k l0 l1 = some r) :
  Calls Try.prog 20 #[.slice A0 l0.length c0, .slice A1 l1.length c1] w fun e w' => e = .returned (.bool r) ∧ Drawn0 w w' := by
 have hu33 := Try.underlying33
 have HR0 := Aside0.mk hr0
 have HC0 := Aside0.mk hc0
 clear hr0 hc0
 have HR1 := Aside0.mk hr1
 have HC1 := Aside0.mk hc1
 clear hr1 hc1
 have H : (if (l0.length : Int) = (l1.length : Int) then (api_Envelope_20.l0 k l0 l1 (l0.length : Int) 0) else (some false)) = some r := h
 clear h
 by_cases c3 : (l0.length : Int) = (l1.length : Int)
 ·rw [if_pos c3] at H
  have c3b0 : ((l0.length : Int) == (l1.length : Int)) = true := beq_iff_eq.mpr c3
  try simp only [beq_self_eq_true, Bool.not_true, Bool.false_or, Bool.true_and] at c3b0
  have c3b1 : ((l0.length : Int) != (l1.length : Int)) = false := bne_eq_false_iff_eq.mpr c3
  have c3b2 : (l0.length == l1.length) = true := by first | simpa using c3 | (simp at c3 ⊢; omega)
  clear c3
  have H' := Aside0.mk H
  clear H
  go_enter Try.func20, Try.ntmps20
  go_wp2
  repeat (go_quiet (fail); try go_wp2)
  go_loopg [13] k (fun kq v13 w' => ∃ (x13_1 : Int), v13 = .int .i64 x13_1 ∧ Aside0 (api_Envelope_20.l0 kq l0 l1 (l0.length : Int) x13_1 = some r) ∧ Aside0 (kq ≤ k) ∧ Drawn0 w w')
  case atStart => exact ⟨(0), (by first | rfl | (simp; done) | (simp [*]; done)), H', ⟨Nat.le_refl _⟩, by repeat (first | exact Drawn0.refl _ | apply Drawn0.step)⟩
  case round =>
   clear H'
   try clear c1
   try clear c2
   try clear p2
   try clear c3
   try clear c3b0
   try clear c3b1
   try clear c3b2
   obtain ⟨x13_1, rfl, HA, HK1, ⟨m1, rfl⟩⟩ := hrel
   cases gk with
   | zero => exact absurd HA.out (by simp [api_Envelope_20.l0])
   | succ k1 =>
    have H := HA.out
    clear HA
    simp only [api_Envelope_20.l0] at H
    by_cases c4 : x13_1 < (l0.length : Int)
    ·rw [if_pos c4] at H
     have c4b0 : decide (x13_1 < (l0.length : Int)) = true := decide_eq_true c4
     clear c4
     by_cases c5 : 0 ≤ x13_1
     ·rw [if_pos c5] at H
      have c5b0 : decide (0 ≤ x13_1) = true := decide_eq_true c5
      clear c5
      by_cases c6 : x13_1 < (l0.length : Int)
      ·rw [if_pos c6] at H
       have c6b0 : decide (x13_1 < (l0.length : Int)) = true := decide_eq_true c6
       clear c6
       by_cases c7 : x13_1 < (l1.length : Int)
       ·rw [if_pos c7] at H
        have c7b0 : decide (x13_1 < (l1.length : Int)) = true := decide_eq_true c7
        clear c7
        by_cases c8 : (!(((rd_T33 l0 x13_1).f0) == ((rd_T33 l1 x13_1).f0)) || (!(((rd_T33 l0 x13_1).f1) == ((rd_T33 l1 x13_1).f1)) || (!(((rd_T33 l0 x13_1).f2) == ((rd_T33 l1 x13_1).f2)) || ((!(((rd_T33 l0 x13_1).f3.f0) == ((rd_T33 l1 x13_1).f3.f0)) || (!(((rd_T33 l0 x13_1).f3.f1) == ((rd_T33 l1 x13_1).f3.f1)) || (!(((rd_T33 l0 x13_1).f3.f2) == ((rd_T33 l1 x13_1).f3.f2)) || (!(((rd_T33 l0 x13_1).f3.f3) == ((rd_T33 l1 x13_1).f3.f3)) || (!(((rd_T33 l0 x13_1).f3.f4) == ((rd_T33 l1 x13_1).f3.f4)) || (!(((rd_T33 l0 x13_1).f3.f5) == ((rd_T33 l1 x13_1).f3.f5)) || (!(((rd_T33 l0 x13_1).f3.f6) == ((rd_T33 l1 x13_1).f3.f6))))))))))))) = true
        ·rw [if_pos c8] at H
         have c8b0 : (!(((rd_T33 l0 x13_1).f0) == ((rd_T33 l1 x13_1).f0)) || (!(((rd_T33 l0 x13_1).f1) == ((rd_T33 l1 x13_1).f1)) || (!(((rd_T33 l0 x13_1).f2) == ((rd_T33 l1 x13_1).f2)) || ((!(((rd_T33 l0 x13_1).f3.f0) == ((rd_T33 l1 x13_1).f3.f0)) || (!(((rd_T33 l0 x13_1).f3.f1) == ((rd_T33 l1 x13_1).f3.f1)) || (!(((rd_T33 l0 x13_1).f3.f2) == ((rd_T33 l1 x13_1).f3.f2)) || (!(((rd_T33 l0 x13_1).f3.f3) == ((rd_T33 l1 x13_1).f3.f3)) || (!(((rd_T33 l0 x13_1).f3.f4) == ((rd_T33 l1 x13_1).f3.f4)) || (!(((rd_T33 l0 x13_1).f3.f5) == ((rd_T33 l1 x13_1).f3.f5)) || (!(((rd_T33 l0 x13_1).f3.f6) == ((rd_T33 l1 x13_1).f3.f6))))))))))))) = true := c8
         try simp only [beq_self_eq_true, Bool.not_true, Bool.false_or, Bool.true_and] at c8b0
         clear c8
         obtain rfl := Option.some.inj H
         have p140 : 0 ≤ (x13_1 : Int) := of_decide_eq_true (by first | (with_reducible assumption) | assumption)
         have q140 : x13_1 < (l0.length : Int) := of_decide_eq_true (by first | (with_reducible assumption) | assumption)
         obtain ⟨ad140, e140, hx140_0, hx140_1, hx140_2, hx140_3, hx140_4, hx140_5, hx140_6, hx140_7, hx140_8, hx140_9⟩ := at_T33 HR0.out x13_1 p140 q140
         cases e140
         replace p140 := eq_true p140
         replace q140 := eq_true q140
         have p141 : 0 ≤ (x13_1 : Int) := of_decide_eq_true (by first | (with_reducible assumption) | assumption)
         have q141 : x13_1 < (l1.length : Int) := of_decide_eq_true (by first | (with_reducible assumption) | assumption)
         obtain ⟨ad141, e141, hx141_0, hx141_1, hx141_2, hx141_3, hx141_4, hx141_5, hx141_6, hx141_7, hx141_8, hx141_9⟩ := at_T33 HR1.out x13_1 p141 q141
         cases e141
         replace p141 := eq_true p141
         replace q141 := eq_true q141
         go_wp2
         repeat (go_quiet (fail); try go_wp2)
         go_ret
         exact ⟨by first | rfl | (simp; done) | (simp [*]; done), by repeat (first | exact Drawn0.refl _ | apply Drawn0.step)⟩
        ·rw [if_neg c8] at H
         have c8b0 : (!(((rd_T33 l0 x13_1).f0) == ((rd_T33 l1 x13_1).f0)) || (!(((rd_T33 l0 x13_1).f1) == ((rd_T33 l1 x13_1).f1)) || (!(((rd_T33 l0 x13_1).f2) == ((rd_T33 l1 x13_1).f2)) || ((!(((rd_T33 l0 x13_1).f3.f0) == ((rd_T33 l1 x13_1).f3.f0)) || (!(((rd_T33 l0 x13_1).f3.f1) == ((rd_T33 l1 x13_1).f3.f1)) || (!(((rd_T33 l0 x13_1).f3.f2) == ((rd_T33 l1 x13_1).f3.f2)) || (!(((rd_T33 l0 x13_1).f3.f3) == ((rd_T33 l1 x13_1).f3.f3)) || (!(((rd_T33 l0 x13_1).f3.f4) == ((rd_T33 l1 x13_1).f3.f4)) || (!(((rd_T33 l0 x13_1).f3.f5) == ((rd_T33 l1 x13_1).f3.f5)) || (!(((rd_T33 l0 x13_1).f3.f6) == ((rd_T33 l1 x13_1).f3.f6))))))))))))) = false := by simpa using c8
         try simp only [beq_self_eq_true, Bool.not_true, Bool.false_or, Bool.true_and] at c8b0
         clear c8
         have H' := Aside0.mk H
         clear H
         have p140 : 0 ≤ (x13_1 : Int) := of_decide_eq_true (by first | (with_reducible assumption) | assumption)
         have q140 : x13_1 < (l0.length : Int) := of_decide_eq_true (by first | (with_reducible assumption) | assumption)
         obtain ⟨ad140, e140, hx140_0, hx140_1, hx140_2, hx140_3, hx140_4, hx140_5, hx140_6, hx140_7, hx140_8, hx140_9⟩ := at_T33 HR0.out x13_1 p140 q140
         cases e140
         replace p140 := eq_true p140
         replace q140 := eq_true q140
         have p141 : 0 ≤ (x13_1 : Int) := of_decide_eq_true (by first | (with_reducible assumption) | assumption)
         have q141 : x13_1 < (l1.length : Int) := of_decide_eq_true (by first | (with_reducible assumption) | assumption)
         obtain ⟨ad141, e141, hx141_0, hx141_1, hx141_2, hx141_3, hx141_4, hx141_5, hx141_6, hx141_7, hx141_8, hx141_9⟩ := at_T33 HR1.out x13_1 p141 q141
         cases e141
         replace p141 := eq_true p141
         replace q141 := eq_true q141
         go_wp2
         repeat (go_quiet (fail); try go_wp2)
         go_roundg k1
         case measure => have := HK1.out; omega
         case rel => exact ⟨(wrap64 (x13_1 + 1)), (by first | rfl | (simp; done) | (simp [*]; done)), H', ⟨by have := HK1.out; omega⟩, by repeat (first | exact Drawn0.refl _ | apply Drawn0.step)⟩
       ·rw [if_neg c7] at H
        exact absurd H (by simp)
      ·rw [if_neg c6] at H
       exact absurd H (by simp)
     ·rw [if_neg c5] at H
      exact absurd H (by simp)
    ·rw [if_neg c4] at H
     have c4b0 : decide (x13_1 < (l0.length : Int)) = false := decide_eq_false c4
     clear c4
     obtain rfl := Option.some.inj H
     go_wp2
     repeat (go_quiet (fail); try go_wp2)
     go_ret
     exact ⟨by first | rfl | (simp; done) | (simp [*]; done), by repeat (first | exact Drawn0.refl _ | apply Drawn0.step)⟩
 ·rw [if_neg c3] at H
  have c3b0 : ((l0.length : Int) == (l1.length : Int)) = false := beq_eq_false_iff_ne.mpr c3
  try simp only [beq_self_eq_true, Bool.not_true, Bool.false_or, Bool.true_and] at c3b0
  have c3b1 : ((l0.length : Int) != (l1.length : Int)) = true := bne_iff_ne.mpr c3
  have c3b2 : (l0.length == l1.length) = false := by first | simpa using c3 | (simp at c3 ⊢; omega)
  obtain rfl := Option.some.inj H
  go_enter Try.func20, Try.ntmps20
  go_wp2
  repeat (go_quiet (fail); try go_wp2)
  go_ret
  exact ⟨by first | rfl | (simp; done) | (simp [*]; done), by repeat (first | exact Drawn0.refl _ | apply Drawn0.step)⟩

-- NOT PRINTED: function 47 (sort_Search)

-- NOT PRINTED: function 49 (api_Envelope_49)

-- GIVEN: function 22 (sender_Heard)

/-! ### spilelaw42_message: function 25 -/
def spilelaw42_message.f (a0 : Int) : Option (Int × Int × Int × Int × Int × Int × Int) := some (a0, 1, 0, 0, 1, 2, 10)
set_option maxHeartbeats 8000000 in
set_option maxRecDepth 100000 in
theorem spilelaw42_message.calls (a0 : Int) (r1 : Int) (r2 : Int) (r3 : Int) (r4 : Int) (r5 : Int) (r6 : Int) (r7 : Int) (w : World) (h : spilelaw42_message.f a0 = some (r1, r2, r3, r4, r5, r6, r7)) :
  Calls Try.prog 25 #[.int .i64 a0] w fun e w' => e = .returned (.agg #[.int .i64 r1, .int .i64 r2, .int .i64 r3, .int .i64 r4, .int .i64 r5, .int .i64 r6, .int .i64 r7]) ∧ Below w.heap.size w w' := by
 have hu26 := Try.underlying26
 have HB := Aside0.mk (Below.refl w.heap.size w)
 have H : (some (a0, 1, 0, 0, 1, 2, 10)) = some (r1, r2, r3, r4, r5, r6, r7) := h
 clear h
 simp only [Option.some.injEq, Prod.mk.injEq] at H
 obtain ⟨rfl, rfl, rfl, rfl, rfl, rfl, rfl⟩ := H
 go_enter Try.func25, Try.ntmps25
 go_wp2_with (first | ((with_reducible refine gqD (N := 2) rfl ?_); refine GS.bx (N := 2) (cs := #[.int .i64 0, .int .i64 0, .int .i64 0, .int .i64 0, .int .i64 0, .int .i64 0, .int .i64 0]) (t := 26) ?_; intro gb142 hg w2 hbox hb; have n0_ := Aside0.mk (lqT (GS.lB HB.out) hb); have n1_ := Aside0.mk (hbox); have n2_ := Aside0.mk ((by rw [hg]; exact (lqZ (GS.lB HB.out)) : w.heap.size ≤ gb142)); have n3_ := Aside0.mk ((by rw [hg]; exact (lqZ (GS.lB HB.out)) : w.heap.size ≤ gb142)); clear HB; have HB := n0_; have BK142 := n1_; have GW142 := n2_; have GE142 := n3_; clear n0_ n1_ n2_ n3_; clear hb hbox hg; obtain ⟨hcz3_0, hcz3_1, hcz3_2, hcz3_3, hcz3_4, hcz3_5, hcz3_6, hfz3_0, hfz3_1, hfz3_2, hfz3_3, hfz3_4, hfz3_5, hfz3_6⟩ := GS.c7 BK142.out))
 refine bodyPost_ret (results_cell_row rfl _ _ gb142 26 #[.int .i64 a0, .int .i64 1, .int .i64 0, .int .i64 0, .int .i64 1, .int .i64 2, .int .i64 10] (0, 0) _ rfl (by (with_reducible repeat (first | refine bqN ?_ _ | refine bqD ?_ | refine bqA ?_ _)); refine bqP (cs := #[.int .i64 a0, .int .i64 1, .int .i64 0, .int .i64 0, .int .i64 1, .int .i64 2, .int .i64 0]) ?_ 6 _ rfl; (with_reducible repeat (first | refine bqN ?_ _ | refine bqD ?_ | refine bqA ?_ _)); refine bqP (cs := #[.int .i64 a0, .int .i64 1, .int .i64 0, .int .i64 0, .int .i64 1, .int .i64 0, .int .i64 0]) ?_ 5 _ rfl; (with_reducible repeat (first | refine bqN ?_ _ | refine bqD ?_ | refine bqA ?_ _)); refine bqP (cs := #[.int .i64 a0, .int .i64 1, .int .i64 0, .int .i64 0, .int .i64 0, .int .i64 0, .int .i64 0]) ?_ 4 _ rfl; (with_reducible repeat (first | refine bqN ?_ _ | refine bqD ?_ | refine bqA ?_ _)); refine bqP (cs := #[.int .i64 a0, .int .i64 1, .int .i64 0, .int .i64 0, .int .i64 0, .int .i64 0, .int .i64 0]) ?_ 3 _ rfl; (with_reducible repeat (first | refine bqN ?_ _ | refine bqD ?_ | refine bqA ?_ _)); refine bqP (cs := #[.int .i64 a0, .int .i64 1, .int .i64 0, .int .i64 0, .int .i64 0, .int .i64 0, .int .i64 0]) ?_ 2 _ rfl; (with_reducible repeat (first | refine bqN ?_ _ | refine bqD ?_ | refine bqA ?_ _)); refine bqP (cs := #[.int .i64 a0, .int .i64 0, .int .i64 0, .int .i64 0, .int .i64 0, .int .i64 0, .int .i64 0]) ?_ 1 _ rfl; (with_reducible repeat (first | refine bqN ?_ _ | refine bqD ?_ | refine bqA ?_ _)); refine bqP (cs := #[.int .i64 0, .int .i64 0, .int .i64 0, .int .i64 0, .int .i64 0, .int .i64 0, .int .i64 0]) ?_ 0 _ rfl; (with_reducible repeat (first | refine bqN ?_ _ | refine bqD ?_ | refine bqA ?_ _)); exact BK142.out) Try.underlying26 rfl (by kernel_rfl)) rfl ?_
 exact ⟨by first | rfl | (simp [errW_none, errW_some] <;> rfl) | (simp [*, errW_none, errW_some] <;> rfl), GS.lB HB.out⟩

-- NOT PRINTED: function 50 (api_Envelope_50)

-- NOT PRINTED: function 23 (api_Envelope_23)

-- GIVEN: function 30 (sender_Again)

end Go.Proofs.Ytfafeeobjlkjnaa.K
