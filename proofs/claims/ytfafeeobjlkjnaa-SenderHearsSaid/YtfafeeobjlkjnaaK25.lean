import Derived.Test.YtfafeeobjlkjnaaK0
import Derived.Test.YtfafeeobjlkjnaaGShort
import Derived.Test.YtfafeeobjlkjnaaK2
import Derived.Test.YtfafeeobjlkjnaaK12
import Derived.Test.YtfafeeobjlkjnaaK9
import Derived.Test.YtfafeeobjlkjnaaGSym
import Derived.Test.YtfafeeobjlkjnaaK8
import Derived.Test.YtfafeeobjlkjnaaGAgain
import Derived.Test.YtfafeeobjlkjnaaGHeard
import Derived.Test.YtfafeeobjlkjnaaGWaits
-- PRINTED by print.py (a twelfth state) out of the translation. Not trusted: Lean checks it.
namespace Go.Proofs.Ytfafeeobjlkjnaa.K
open Go.RowKit Go.Proofs.YtfafeeobjlkjnaaW.PrintWords Go.Proofs.YtfafeeobjlkjnaaW.PrintLast Go.Proofs.YtfafeeobjlkjnaaW.PrintMore
attribute [local go_sem] max2_int min2_int max_two min_two max_three min_three max_four min_four   -- for this text's walks alone
set_option linter.unusedVariables false
set_option linter.unusedSimpArgs false

attribute [local go_sem high] eqA33
/-! ### spileref41_Same: function 34 -/
def spileref41_Same.l0 : Nat → List (S33) → List (S33) → Int → Option (Bool)
 | 0, _, _, _ => none
 | k + 1, x0, x1, x5 => if x5 < (x0.length : Int) then (if 0 ≤ x5 then (if x5 < (x1.length : Int) then (if (!(((rd_T33 x0 x5).f0) == ((rd_T33 x1 x5).f0)) || (!(((rd_T33 x0 x5).f1) == ((rd_T33 x1 x5).f1)) || (!(((rd_T33 x0 x5).f2) == ((rd_T33 x1 x5).f2)) || ((!(((rd_T33 x0 x5).f3.f0) == ((rd_T33 x1 x5).f3.f0)) || (!(((rd_T33 x0 x5).f3.f1) == ((rd_T33 x1 x5).f3.f1)) || (!(((rd_T33 x0 x5).f3.f2) == ((rd_T33 x1 x5).f3.f2)) || (!(((rd_T33 x0 x5).f3.f3) == ((rd_T33 x1 x5).f3.f3)) || (!(((rd_T33 x0 x5).f3.f4) == ((rd_T33 x1 x5).f3.f4)) || (!(((rd_T33 x0 x5).f3.f5) == ((rd_T33 x1 x5).f3.f5)) || (!(((rd_T33 x0 x5).f3.f6) == ((rd_T33 x1 x5).f3.f6))))))))))))) = true then (some false) else (spileref41_Same.l0 k x0 x1 (wrap64 (x5 + 1)))) else (none)) else (none)) else (some true)
def spileref41_Same.f (k : Nat) (l0 : List (S33)) (l1 : List (S33)) : Option (Bool) := if (l0.length : Int) = (l1.length : Int) then (spileref41_Same.l0 k l0 l1 0) else (some false)
theorem spileref41_Same.mono_l : ∀ k, (∀ y0 y1 y2, LeO (spileref41_Same.l0 k y0 y1 y2) (spileref41_Same.l0 (k + 1) y0 y1 y2))
 | 0 => fun _ _ _ r h => by simp [spileref41_Same.l0] at h
 | k + 1 => by
  have ih0 := spileref41_Same.mono_l k
  ·intro y0 y1 y2
   unfold spileref41_Same.l0
   repeat' first
   | (with_reducible exact ih0 _ _ _)
   | (with_reducible exact LeO.refl _)
   | (with_reducible exact LeO.none _)
   | (with_reducible refine LeO.ite ?_ ?_)
   | (with_reducible refine LeO.bind ?_ (fun _ => ?_))
   | exact ih0 _ _ _
   | exact LeO.none _
   | refine LeO.ite ?_ ?_
   | refine LeO.bind ?_ (fun _ => ?_)
theorem spileref41_Same.mono : ∀ a0 a1 k, LeO (spileref41_Same.f k a0 a1) (spileref41_Same.f (k + 1) a0 a1) := by
 intro a0 a1 k
 have ih0 := spileref41_Same.mono_l k
 unfold spileref41_Same.f
 repeat' first
   | (with_reducible exact ih0 _ _ _)
   | (with_reducible exact LeO.refl _)
   | (with_reducible exact LeO.none _)
   | (with_reducible refine LeO.ite ?_ ?_)
   | (with_reducible refine LeO.bind ?_ (fun _ => ?_))
   | exact ih0 _ _ _
   | exact LeO.none _
   | refine LeO.ite ?_ ?_
   | refine LeO.bind ?_ (fun _ => ?_)
set_option maxHeartbeats 8000000 in
set_option maxRecDepth 100000 in
theorem spileref41_Same.calls (k : Nat) (A0 : Option Addr) (c0 : Nat) (l0 : List (S33)) (A1 : Option Addr) (c1 : Nat) (l1 : List (S33)) (r : Bool) (w : World) (hr0 : Kd.C k33 w A0 l0.length l0) (hc0 : l0.length ≤ c0) (hr1 : Kd.C k33 w A1 l1.length l1) (hc1 : l1.length ≤ c1) (h : spileref41_Same.f k l0 l1 = some r) :
  Calls Try.prog 34 #[.slice A0 l0.length c0, .slice A1 l1.length c1] w fun e w' => e = .returned (.bool r) ∧ Drawn0 w w' := by
 have hu33 := Try.underlying33
 have HR0 := Aside0.mk hr0
 have HC0 := Aside0.mk hc0
 clear hr0 hc0
 have HR1 := Aside0.mk hr1
 have HC1 := Aside0.mk hc1
 clear hr1 hc1
 have H : (if (l0.length : Int) = (l1.length : Int) then (spileref41_Same.l0 k l0 l1 0) else (some false)) = some r := h
 clear h
 by_cases c3 : (l0.length : Int) = (l1.length : Int)
 ·rw [if_pos c3] at H
  have c3b0 : ((l0.length : Int) == (l1.length : Int)) = true := beq_iff_eq.mpr c3
  try simp only [beq_self_eq_true, Bool.not_true, Bool.false_or, Bool.true_and] at c3b0
  have c3b1 : ((l0.length : Int) != (l1.length : Int)) = false := bne_eq_false_iff_eq.mpr c3
  have c3b2 : (l0.length == l1.length) = true := by first | simpa using c3 | (simp at c3 ⊢; omega)
  clear c3
  have H' := Aside0.mk H
  clear H
  go_enter Try.func34, Try.ntmps34
  go_wp2
  repeat (go_quiet (fail); try go_wp2)
  go_loopg [5] k (fun kq v5 w' => ∃ (x5_1 : Int), v5 = .int .i64 x5_1 ∧ Aside0 (spileref41_Same.l0 kq l0 l1 x5_1 = some r) ∧ Aside0 (kq ≤ k) ∧ Drawn0 w w')
  case atStart => exact ⟨(0), (by first | rfl | (simp; done) | (simp [*]; done)), H', ⟨Nat.le_refl _⟩, by repeat (first | exact Drawn0.refl _ | apply Drawn0.step)⟩
  case round =>
   clear H'
   try clear c1
   try clear p2
   try clear c3
   try clear c3b0
   try clear c3b1
   try clear c3b2
   obtain ⟨x5_1, rfl, HA, HK1, ⟨m1, rfl⟩⟩ := hrel
   cases gk with
   | zero => exact absurd HA.out (by simp [spileref41_Same.l0])
   | succ k1 =>
    have H := HA.out
    clear HA
    simp only [spileref41_Same.l0] at H
    by_cases c4 : x5_1 < (l0.length : Int)
    ·rw [if_pos c4] at H
     have c4b0 : decide (x5_1 < (l0.length : Int)) = true := decide_eq_true c4
     clear c4
     by_cases c5 : 0 ≤ x5_1
     ·rw [if_pos c5] at H
      have c5b0 : decide (0 ≤ x5_1) = true := decide_eq_true c5
      clear c5
      by_cases c6 : x5_1 < (l1.length : Int)
      ·rw [if_pos c6] at H
       have c6b0 : decide (x5_1 < (l1.length : Int)) = true := decide_eq_true c6
       clear c6
       by_cases c7 : (!(((rd_T33 l0 x5_1).f0) == ((rd_T33 l1 x5_1).f0)) || (!(((rd_T33 l0 x5_1).f1) == ((rd_T33 l1 x5_1).f1)) || (!(((rd_T33 l0 x5_1).f2) == ((rd_T33 l1 x5_1).f2)) || ((!(((rd_T33 l0 x5_1).f3.f0) == ((rd_T33 l1 x5_1).f3.f0)) || (!(((rd_T33 l0 x5_1).f3.f1) == ((rd_T33 l1 x5_1).f3.f1)) || (!(((rd_T33 l0 x5_1).f3.f2) == ((rd_T33 l1 x5_1).f3.f2)) || (!(((rd_T33 l0 x5_1).f3.f3) == ((rd_T33 l1 x5_1).f3.f3)) || (!(((rd_T33 l0 x5_1).f3.f4) == ((rd_T33 l1 x5_1).f3.f4)) || (!(((rd_T33 l0 x5_1).f3.f5) == ((rd_T33 l1 x5_1).f3.f5)) || (!(((rd_T33 l0 x5_1).f3.f6) == ((rd_T33 l1 x5_1).f3.f6))))))))))))) = true
       ·rw [if_pos c7] at H
        have c7b0 : (!(((rd_T33 l0 x5_1).f0) == ((rd_T33 l1 x5_1).f0)) || (!(((rd_T33 l0 x5_1).f1) == ((rd_T33 l1 x5_1).f1)) || (!(((rd_T33 l0 x5_1).f2) == ((rd_T33 l1 x5_1).f2)) || ((!(((rd_T33 l0 x5_1).f3.f0) == ((rd_T33 l1 x5_1).f3.f0)) || (!(((rd_T33 l0 x5_1).f3.f1) == ((rd_T33 l1 x5_1).f3.f1)) || (!(((rd_T33 l0 x5_1).f3.f2) == ((rd_T33 l1 x5_1).f3.f2)) || (!(((rd_T33 l0 x5_1).f3.f3) == ((rd_T33 l1 x5_1).f3.f3)) || (!(((rd_T33 l0 x5_1).f3.f4) == ((rd_T33 l1 x5_1).f3.f4)) || (!(((rd_T33 l0 x5_1).f3.f5) == ((rd_T33 l1 x5_1).f3.f5)) || (!(((rd_T33 l0 x5_1).f3.f6) == ((rd_T33 l1 x5_1).f3.f6))))))))))))) = true := c7
        try simp only [beq_self_eq_true, Bool.not_true, Bool.false_or, Bool.true_and] at c7b0
        clear c7
        obtain rfl := Option.some.inj H
        have p263 : 0 ≤ (x5_1 : Int) := of_decide_eq_true (by first | (with_reducible assumption) | assumption)
        have q263 : x5_1 < (l0.length : Int) := of_decide_eq_true (by first | (with_reducible assumption) | assumption)
        obtain ⟨ad263, e263, hx263_0, hx263_1, hx263_2, hx263_3, hx263_4, hx263_5, hx263_6, hx263_7, hx263_8, hx263_9⟩ := at_T33 HR0.out x5_1 p263 q263
        cases e263
        replace p263 := eq_true p263
        replace q263 := eq_true q263
        have p264 : 0 ≤ (x5_1 : Int) := of_decide_eq_true (by first | (with_reducible assumption) | assumption)
        have q264 : x5_1 < (l1.length : Int) := of_decide_eq_true (by first | (with_reducible assumption) | assumption)
        obtain ⟨ad264, e264, hx264_0, hx264_1, hx264_2, hx264_3, hx264_4, hx264_5, hx264_6, hx264_7, hx264_8, hx264_9⟩ := at_T33 HR1.out x5_1 p264 q264
        cases e264
        replace p264 := eq_true p264
        replace q264 := eq_true q264
        go_wp2
        repeat (go_quiet (fail); try go_wp2)
        go_ret
        exact ⟨by first | rfl | (simp; done) | (simp [*]; done), by repeat (first | exact Drawn0.refl _ | apply Drawn0.step)⟩
       ·rw [if_neg c7] at H
        have c7b0 : (!(((rd_T33 l0 x5_1).f0) == ((rd_T33 l1 x5_1).f0)) || (!(((rd_T33 l0 x5_1).f1) == ((rd_T33 l1 x5_1).f1)) || (!(((rd_T33 l0 x5_1).f2) == ((rd_T33 l1 x5_1).f2)) || ((!(((rd_T33 l0 x5_1).f3.f0) == ((rd_T33 l1 x5_1).f3.f0)) || (!(((rd_T33 l0 x5_1).f3.f1) == ((rd_T33 l1 x5_1).f3.f1)) || (!(((rd_T33 l0 x5_1).f3.f2) == ((rd_T33 l1 x5_1).f3.f2)) || (!(((rd_T33 l0 x5_1).f3.f3) == ((rd_T33 l1 x5_1).f3.f3)) || (!(((rd_T33 l0 x5_1).f3.f4) == ((rd_T33 l1 x5_1).f3.f4)) || (!(((rd_T33 l0 x5_1).f3.f5) == ((rd_T33 l1 x5_1).f3.f5)) || (!(((rd_T33 l0 x5_1).f3.f6) == ((rd_T33 l1 x5_1).f3.f6))))))))))))) = false := by simpa using c7
        try simp only [beq_self_eq_true, Bool.not_true, Bool.false_or, Bool.true_and] at c7b0
        clear c7
        have H' := Aside0.mk H
        clear H
        have p263 : 0 ≤ (x5_1 : Int) := of_decide_eq_true (by first | (with_reducible assumption) | assumption)
        have q263 : x5_1 < (l0.length : Int) := of_decide_eq_true (by first | (with_reducible assumption) | assumption)
        obtain ⟨ad263, e263, hx263_0, hx263_1, hx263_2, hx263_3, hx263_4, hx263_5, hx263_6, hx263_7, hx263_8, hx263_9⟩ := at_T33 HR0.out x5_1 p263 q263
        cases e263
        replace p263 := eq_true p263
        replace q263 := eq_true q263
        have p264 : 0 ≤ (x5_1 : Int) := of_decide_eq_true (by first | (with_reducible assumption) | assumption)
        have q264 : x5_1 < (l1.length : Int) := of_decide_eq_true (by first | (with_reducible assumption) | assumption)
        obtain ⟨ad264, e264, hx264_0, hx264_1, hx264_2, hx264_3, hx264_4, hx264_5, hx264_6, hx264_7, hx264_8, hx264_9⟩ := at_T33 HR1.out x5_1 p264 q264
        cases e264
        replace p264 := eq_true p264
        replace q264 := eq_true q264
        go_wp2
        repeat (go_quiet (fail); try go_wp2)
        go_roundg k1
        case measure => have := HK1.out; omega
        case rel => exact ⟨(wrap64 (x5_1 + 1)), (by first | rfl | (simp; done) | (simp [*]; done)), H', ⟨by have := HK1.out; omega⟩, by repeat (first | exact Drawn0.refl _ | apply Drawn0.step)⟩
      ·rw [if_neg c6] at H
       exact absurd H (by simp)
     ·rw [if_neg c5] at H
      exact absurd H (by simp)
    ·rw [if_neg c4] at H
     have c4b0 : decide (x5_1 < (l0.length : Int)) = false := decide_eq_false c4
     clear c4
     obtain rfl := Option.some.inj H
     go_wp2
     repeat (go_quiet (fail); try go_wp2)
     go_ret
     exact ⟨by first | rfl | (simp; done) | (simp [*]; done), by repeat (first | exact Drawn0.refl _ | apply Drawn0.step)⟩
 ·rw [if_neg c3] at H
  have c3b0 : ((l0.length : Int) == (l1.length : Int)) = false := beq_eq_false_iff_ne.mpr c3
  try simp only [beq_self_eq_true, Bool.not_true, Bool.false_or, Bool.true_and] at c3b0
  have c3b1 : ((l0.length : Int) != (l1.length : Int)) = true := bne_iff_ne.mpr c3
  have c3b2 : (l0.length == l1.length) = false := by first | simpa using c3 | (simp at c3 ⊢; omega)
  obtain rfl := Option.some.inj H
  go_enter Try.func34, Try.ntmps34
  go_wp2
  repeat (go_quiet (fail); try go_wp2)
  go_ret
  exact ⟨by first | rfl | (simp; done) | (simp [*]; done), by repeat (first | exact Drawn0.refl _ | apply Drawn0.step)⟩

/-! ### spileref42_Same: function 19 -/
def spileref42_Same.f (k : Nat) (a0_0 : Int) (a0_1 : Int) (l0_2 : List (S33)) (a1_0 : Int) (a1_1 : Int) (l1_2 : List (S33)) : Option (Bool) := if a0_0 = a1_0 then (if a0_1 = a1_1 then ((spileref41_Same.f k l0_2 l1_2).bind fun t267 => (some t267)) else (some false)) else (some false)
theorem spileref42_Same.mono : ∀ a0 a1 a2 a3 a4 a5 k, LeO (spileref42_Same.f k a0 a1 a2 a3 a4 a5) (spileref42_Same.f (k + 1) a0 a1 a2 a3 a4 a5) := by
 intro a0 a1 a2 a3 a4 a5 k
 unfold spileref42_Same.f
 repeat' first
   | (with_reducible exact spileref41_Same.mono _ _ _)
   | (with_reducible exact LeO.refl _)
   | (with_reducible exact LeO.none _)
   | (with_reducible refine LeO.ite ?_ ?_)
   | (with_reducible refine LeO.bind ?_ (fun _ => ?_))
   | exact spileref41_Same.mono _ _ _
   | exact LeO.none _
   | refine LeO.ite ?_ ?_
   | refine LeO.bind ?_ (fun _ => ?_)
set_option maxHeartbeats 8000000 in
set_option maxRecDepth 100000 in
theorem spileref42_Same.calls (k : Nat) (a0_0 : Int) (a0_1 : Int) (A0_2 : Option Addr) (c0_2 : Nat) (l0_2 : List (S33)) (a1_0 : Int) (a1_1 : Int) (A1_2 : Option Addr) (c1_2 : Nat) (l1_2 : List (S33)) (r : Bool) (w : World) (hr0_2 : Kd.C k33 w A0_2 l0_2.length l0_2) (hc0_2 : l0_2.length ≤ c0_2) (hr1_2 : Kd.C k33 w A1_2 l1_2.length l1_2) (hc1_2 : l1_2.length ≤ c1_2) (h : spileref42_Same.f k a0_0 a0_1 l0_2 a1_0 a1_1 l1_2 = some r) :
  Calls Try.prog 19 #[.agg #[.int .i64 a0_0, .int .i64 a0_1, .slice A0_2 l0_2.length c0_2], .agg #[.int .i64 a1_0, .int .i64 a1_1, .slice A1_2 l1_2.length c1_2]] w fun e w' => e = .returned (.bool r) ∧ Below w.heap.size w w' := by
 have hu24 := Try.underlying24
 have HR0_2 := Aside0.mk hr0_2
 have HC0_2 := Aside0.mk hc0_2
 clear hr0_2 hc0_2
 have HR1_2 := Aside0.mk hr1_2
 have HC1_2 := Aside0.mk hc1_2
 clear hr1_2 hc1_2
 have HB := Aside0.mk (Below.refl w.heap.size w)
 have H : (if a0_0 = a1_0 then (if a0_1 = a1_1 then ((spileref41_Same.f k l0_2 l1_2).bind fun t267 => (some t267)) else (some false)) else (some false)) = some r := h
 clear h
 by_cases c3 : a0_0 = a1_0
 ·rw [if_pos c3] at H
  have c3b0 : (a0_0 == a1_0) = true := beq_iff_eq.mpr c3
  try simp only [beq_self_eq_true, Bool.not_true, Bool.false_or, Bool.true_and] at c3b0
  have c3b1 : (a0_0 != a1_0) = false := bne_eq_false_iff_eq.mpr c3
  clear c3
  by_cases c4 : a0_1 = a1_1
  ·rw [if_pos c4] at H
   have c4b0 : (a0_1 == a1_1) = true := beq_iff_eq.mpr c4
   try simp only [beq_self_eq_true, Bool.not_true, Bool.false_or, Bool.true_and] at c4b0
   have c4b1 : (a0_1 != a1_1) = false := bne_eq_false_iff_eq.mpr c4
   clear c4
   replace H := Option.bind_eq_some_iff.mp H
   obtain ⟨t267, A50, H⟩ := H
   replace H : (some t267) = some r := H
   have A5 := Aside0.mk A50
   clear A50
   obtain rfl := Option.some.inj H
   go_enter Try.func19, Try.ntmps19
   go_wp2_with (first | ((with_reducible refine gqD (N := 2) rfl ?_); refine GS.bx (N := 2) (cs := #[.int .i64 a0_0, .int .i64 a0_1, .slice A0_2 l0_2.length c0_2]) (t := 24) ?_; intro gb265 hg w6 hbox hb; have n0_ := Aside0.mk (lqT (GS.lB HB.out) hb); have n1_ := Aside0.mk (hbox); have n2_ := Aside0.mk ((by rw [hg]; exact (lqZ (GS.lB HB.out)) : w.heap.size ≤ gb265)); have n3_ := Aside0.mk ((by rw [hg]; exact (lqZ (GS.lB HB.out)) : w.heap.size ≤ gb265)); clear HB; have HB := n0_; have BK265 := n1_; have GW265 := n2_; have GE265 := n3_; clear n0_ n1_ n2_ n3_; clear hb hbox hg) | ((with_reducible refine gqD (N := 3) rfl ?_); refine GS.bx (N := 3) (cs := #[.int .i64 a1_0, .int .i64 a1_1, .slice A1_2 l1_2.length c1_2]) (t := 24) ?_; intro gb266 hg w7 hbox hb; have n0_ := Aside0.mk (bqB (GS.bqX BK265.out) hb); have n1_ := Aside0.mk (lqT (GS.lB HB.out) hb); have n2_ := Aside0.mk (hbox); have n3_ := Aside0.mk ((by rw [hg]; exact (lqZ (GS.lB HB.out)) : w.heap.size ≤ gb266)); have n4_ := Aside0.mk ((by rw [hg]; exact (lqZ (GS.lB HB.out)) : w.heap.size ≤ gb266)); have n5_ := Aside0.mk ((by rw [hg]; exact Nat.ne_of_lt (blk_lt (GS.bqX BK265.out)) : gb265 ≠ gb266)); have n6_ := Aside0.mk ((by rw [hg]; exact Nat.ne_of_gt (blk_lt (GS.bqX BK265.out)) : gb266 ≠ gb265)); clear BK265; clear HB; have BK265 := n0_; have HB := n1_; have BK266 := n2_; have GW266 := n3_; have GE266 := n4_; have NB265_266 := n5_; have NB266_265 := n6_; clear n0_ n1_ n2_ n3_ n4_ n5_ n6_; clear hb hbox hg; have hnb8 := NB265_266.out; have hnc8 := NB266_265.out; obtain ⟨hcz9_0, hcz9_1, hcz9_2, hfz9_0, hfz9_1, hfz9_2⟩ := GS.c3 BK265.out; obtain ⟨hcz10_0, hcz10_1, hcz10_2, hfz10_0, hfz10_1, hfz10_2⟩ := GS.c3 BK266.out) | (go_at_call 34; (with_reducible refine (spileref41_Same.calls k _ _ l0_2 _ _ l1_2 t267 _ ?side1 ?side2 ?side3 ?side4 A5.out).mono ?_); (case side1 => exact GS.rC (Kd.C_below HR0_2.out HB.out)); (case side2 => exact HC0_2.out); (case side3 => exact GS.rC (Kd.C_below HR1_2.out HB.out)); (case side4 => exact HC1_2.out); rintro e w' ⟨rfl, ⟨nd, rfl⟩⟩))
   go_ret
   exact ⟨by first | rfl | (simp [errW_none, errW_some] <;> rfl) | (simp [*, errW_none, errW_some] <;> rfl), GS.lB HB.out⟩
  ·rw [if_neg c4] at H
   have c4b0 : (a0_1 == a1_1) = false := beq_eq_false_iff_ne.mpr c4
   try simp only [beq_self_eq_true, Bool.not_true, Bool.false_or, Bool.true_and] at c4b0
   have c4b1 : (a0_1 != a1_1) = true := bne_iff_ne.mpr c4
   obtain rfl := Option.some.inj H
   go_enter Try.func19, Try.ntmps19
   go_wp2_with (first | ((with_reducible refine gqD (N := 2) rfl ?_); refine GS.bx (N := 2) (cs := #[.int .i64 a0_0, .int .i64 a0_1, .slice A0_2 l0_2.length c0_2]) (t := 24) ?_; intro gb265 hg w11 hbox hb; have n0_ := Aside0.mk (lqT (GS.lB HB.out) hb); have n1_ := Aside0.mk (hbox); have n2_ := Aside0.mk ((by rw [hg]; exact (lqZ (GS.lB HB.out)) : w.heap.size ≤ gb265)); have n3_ := Aside0.mk ((by rw [hg]; exact (lqZ (GS.lB HB.out)) : w.heap.size ≤ gb265)); clear HB; have HB := n0_; have BK265 := n1_; have GW265 := n2_; have GE265 := n3_; clear n0_ n1_ n2_ n3_; clear hb hbox hg) | ((with_reducible refine gqD (N := 3) rfl ?_); refine GS.bx (N := 3) (cs := #[.int .i64 a1_0, .int .i64 a1_1, .slice A1_2 l1_2.length c1_2]) (t := 24) ?_; intro gb266 hg w12 hbox hb; have n0_ := Aside0.mk (bqB (GS.bqX BK265.out) hb); have n1_ := Aside0.mk (lqT (GS.lB HB.out) hb); have n2_ := Aside0.mk (hbox); have n3_ := Aside0.mk ((by rw [hg]; exact (lqZ (GS.lB HB.out)) : w.heap.size ≤ gb266)); have n4_ := Aside0.mk ((by rw [hg]; exact (lqZ (GS.lB HB.out)) : w.heap.size ≤ gb266)); have n5_ := Aside0.mk ((by rw [hg]; exact Nat.ne_of_lt (blk_lt (GS.bqX BK265.out)) : gb265 ≠ gb266)); have n6_ := Aside0.mk ((by rw [hg]; exact Nat.ne_of_gt (blk_lt (GS.bqX BK265.out)) : gb266 ≠ gb265)); clear BK265; clear HB; have BK265 := n0_; have HB := n1_; have BK266 := n2_; have GW266 := n3_; have GE266 := n4_; have NB265_266 := n5_; have NB266_265 := n6_; clear n0_ n1_ n2_ n3_ n4_ n5_ n6_; clear hb hbox hg; have hnb13 := NB265_266.out; have hnc13 := NB266_265.out; obtain ⟨hcz14_0, hcz14_1, hcz14_2, hfz14_0, hfz14_1, hfz14_2⟩ := GS.c3 BK265.out; obtain ⟨hcz15_0, hcz15_1, hcz15_2, hfz15_0, hfz15_1, hfz15_2⟩ := GS.c3 BK266.out))
   go_ret
   exact ⟨by first | rfl | (simp [errW_none, errW_some] <;> rfl) | (simp [*, errW_none, errW_some] <;> rfl), GS.lB HB.out⟩
 ·rw [if_neg c3] at H
  have c3b0 : (a0_0 == a1_0) = false := beq_eq_false_iff_ne.mpr c3
  try simp only [beq_self_eq_true, Bool.not_true, Bool.false_or, Bool.true_and] at c3b0
  have c3b1 : (a0_0 != a1_0) = true := bne_iff_ne.mpr c3
  obtain rfl := Option.some.inj H
  go_enter Try.func19, Try.ntmps19
  go_wp2_with (first | ((with_reducible refine gqD (N := 2) rfl ?_); refine GS.bx (N := 2) (cs := #[.int .i64 a0_0, .int .i64 a0_1, .slice A0_2 l0_2.length c0_2]) (t := 24) ?_; intro gb265 hg w16 hbox hb; have n0_ := Aside0.mk (lqT (GS.lB HB.out) hb); have n1_ := Aside0.mk (hbox); have n2_ := Aside0.mk ((by rw [hg]; exact (lqZ (GS.lB HB.out)) : w.heap.size ≤ gb265)); have n3_ := Aside0.mk ((by rw [hg]; exact (lqZ (GS.lB HB.out)) : w.heap.size ≤ gb265)); clear HB; have HB := n0_; have BK265 := n1_; have GW265 := n2_; have GE265 := n3_; clear n0_ n1_ n2_ n3_; clear hb hbox hg) | ((with_reducible refine gqD (N := 3) rfl ?_); refine GS.bx (N := 3) (cs := #[.int .i64 a1_0, .int .i64 a1_1, .slice A1_2 l1_2.length c1_2]) (t := 24) ?_; intro gb266 hg w17 hbox hb; have n0_ := Aside0.mk (bqB (GS.bqX BK265.out) hb); have n1_ := Aside0.mk (lqT (GS.lB HB.out) hb); have n2_ := Aside0.mk (hbox); have n3_ := Aside0.mk ((by rw [hg]; exact (lqZ (GS.lB HB.out)) : w.heap.size ≤ gb266)); have n4_ := Aside0.mk ((by rw [hg]; exact (lqZ (GS.lB HB.out)) : w.heap.size ≤ gb266)); have n5_ := Aside0.mk ((by rw [hg]; exact Nat.ne_of_lt (blk_lt (GS.bqX BK265.out)) : gb265 ≠ gb266)); have n6_ := Aside0.mk ((by rw [hg]; exact Nat.ne_of_gt (blk_lt (GS.bqX BK265.out)) : gb266 ≠ gb265)); clear BK265; clear HB; have BK265 := n0_; have HB := n1_; have BK266 := n2_; have GW266 := n3_; have GE266 := n4_; have NB265_266 := n5_; have NB266_265 := n6_; clear n0_ n1_ n2_ n3_ n4_ n5_ n6_; clear hb hbox hg; have hnb18 := NB265_266.out; have hnc18 := NB266_265.out; obtain ⟨hcz19_0, hcz19_1, hcz19_2, hfz19_0, hfz19_1, hfz19_2⟩ := GS.c3 BK265.out; obtain ⟨hcz20_0, hcz20_1, hcz20_2, hfz20_0, hfz20_1, hfz20_2⟩ := GS.c3 BK266.out))
  go_ret
  exact ⟨by first | rfl | (simp [errW_none, errW_some] <;> rfl) | (simp [*, errW_none, errW_some] <;> rfl), GS.lB HB.out⟩

-- NOT PRINTED: function 3 (spilelaw42_SenderSends)

-- NOT PRINTED: function 4 (spilelaw42_SenderPends)

-- NOT PRINTED: function 5 (spilelaw42_SenderTakes)

end Go.Proofs.Ytfafeeobjlkjnaa.K
-- PRINTED by print.py (a twelfth state) out of the translation. Not trusted: Lean checks it.
namespace Go.Proofs.Ytfafeeobjlkjnaa.K
open Go.RowKit Go.Proofs.YtfafeeobjlkjnaaW.PrintWords Go.Proofs.YtfafeeobjlkjnaaW.PrintLast Go.Proofs.YtfafeeobjlkjnaaW.PrintMore
attribute [local go_sem] max2_int min2_int max_two min_two max_three min_three max_four min_four   -- for this text's walks alone
set_option linter.unusedVariables false
set_option linter.unusedSimpArgs false

/-! ### spileref42_Heard: function 29 -/
mutual
def spileref42_Heard.j0 : Nat → Bool → Int → Int → List (S33) → Int → Int → Option (Int × Int × (List (S33)) × Int)
 | 0, _, _, _, _, _, _ => none
 | k + 1, x27, x424000, x424001, x424002, x425000, x425001 => if x27 = true then (some (0, 0, ([] : List (S33)), 2)) else (spileref42_Heard.l0 k 0 x424000 x424001 x424002 x425000 x425001 x424000 x424001 ([] : List (S33)))
def spileref42_Heard.l0 : Nat → Int → Int → Int → List (S33) → Int → Int → Int → Int → List (S33) → Option (Int × Int × (List (S33)) × Int)
 | 0, _, _, _, _, _, _, _, _, _ => none
 | k + 1, x7, x424000, x424001, x424002, x425000, x425001, x428000, x428001, x428002 => if x7 < (x424002.length : Int) then (if 0 ≤ x7 then (if ((rd_T33 x424002 x7).f2) = x425001 then (spileref42_Heard.l0 k (wrap64 (x7 + 1)) x424000 x424001 x424002 x425000 x425001 x428000 x428001 x428002) else (if x428002.length < 1759218604441 then (spileref42_Heard.l0 k (wrap64 (x7 + 1)) x424000 x424001 x424002 x425000 x425001 x428000 x428001 (x428002 ++ [(⟨(rd_T33 x424002 x7).f0, (rd_T33 x424002 x7).f1, (rd_T33 x424002 x7).f2, (⟨(rd_T33 x424002 x7).f3.f0, (rd_T33 x424002 x7).f3.f1, (rd_T33 x424002 x7).f3.f2, (rd_T33 x424002 x7).f3.f3, (rd_T33 x424002 x7).f3.f4, (rd_T33 x424002 x7).f3.f5, (rd_T33 x424002 x7).f3.f6⟩ : S26)⟩ : S33)])) else (none))) else (none)) else (some (x428000, x428001, x428002, 0))
end
def spileref42_Heard.f (k : Nat) (a0_0 : Int) (a0_1 : Int) (l0_2 : List (S33)) (a1_0 : Int) (a1_1 : Int) : Option (Int × Int × (List (S33)) × Int) := (spileref42_Check.f k a0_0 a0_1 l0_2).bind fun t426 => (if t426 = 0 then (if a1_0 = a0_0 then (if a1_1 < 1 then (spileref42_Heard.j0 k true a0_0 a0_1 l0_2 a1_0 a1_1) else (spileref42_Heard.j0 k (decide (a1_1 ≥ a0_1)) a0_0 a0_1 l0_2 a1_0 a1_1)) else (some (0, 0, ([] : List (S33)), 10))) else (some (0, 0, ([] : List (S33)), 1)))
theorem spileref42_Heard.mono_l : ∀ k, (∀ y0 y1 y2 y3 y4 y5, LeO (spileref42_Heard.j0 k y0 y1 y2 y3 y4 y5) (spileref42_Heard.j0 (k + 1) y0 y1 y2 y3 y4 y5)) ∧ (∀ y0 y1 y2 y3 y4 y5 y6 y7 y8, LeO (spileref42_Heard.l0 k y0 y1 y2 y3 y4 y5 y6 y7 y8) (spileref42_Heard.l0 (k + 1) y0 y1 y2 y3 y4 y5 y6 y7 y8))
 | 0 => ⟨fun _ _ _ _ _ _ r h => by simp [spileref42_Heard.j0] at h, fun _ _ _ _ _ _ _ _ _ r h => by simp [spileref42_Heard.l0] at h⟩
 | k + 1 => by
  obtain ⟨ih0, ih1⟩ := spileref42_Heard.mono_l k
  refine ⟨?_, ?_⟩
  ·intro y0 y1 y2 y3 y4 y5
   unfold spileref42_Heard.j0
   repeat' first
   | (with_reducible exact ih0 _ _ _ _ _ _)
   | (with_reducible exact ih1 _ _ _ _ _ _ _ _ _)
   | (with_reducible exact spileref42_Check.mono _ _ _ _)
   | (with_reducible exact LeO.refl _)
   | (with_reducible exact LeO.none _)
   | (with_reducible refine LeO.ite ?_ ?_)
   | (with_reducible refine LeO.bind ?_ (fun _ => ?_))
   | exact ih0 _ _ _ _ _ _
   | exact ih1 _ _ _ _ _ _ _ _ _
   | exact spileref42_Check.mono _ _ _ _
   | exact LeO.none _
   | refine LeO.ite ?_ ?_
   | refine LeO.bind ?_ (fun _ => ?_)
  ·intro y0 y1 y2 y3 y4 y5 y6 y7 y8
   unfold spileref42_Heard.l0
   repeat' first
   | (with_reducible exact ih0 _ _ _ _ _ _)
   | (with_reducible exact ih1 _ _ _ _ _ _ _ _ _)
   | (with_reducible exact spileref42_Check.mono _ _ _ _)
   | (with_reducible exact LeO.refl _)
   | (with_reducible exact LeO.none _)
   | (with_reducible refine LeO.ite ?_ ?_)
   | (with_reducible refine LeO.bind ?_ (fun _ => ?_))
   | exact ih0 _ _ _ _ _ _
   | exact ih1 _ _ _ _ _ _ _ _ _
   | exact spileref42_Check.mono _ _ _ _
   | exact LeO.none _
   | refine LeO.ite ?_ ?_
   | refine LeO.bind ?_ (fun _ => ?_)
theorem spileref42_Heard.mono : ∀ a0 a1 a2 a3 a4 k, LeO (spileref42_Heard.f k a0 a1 a2 a3 a4) (spileref42_Heard.f (k + 1) a0 a1 a2 a3 a4) := by
 intro a0 a1 a2 a3 a4 k
 obtain ⟨ih0, ih1⟩ := spileref42_Heard.mono_l k
 unfold spileref42_Heard.f
 repeat' first
   | (with_reducible exact ih0 _ _ _ _ _ _)
   | (with_reducible exact ih1 _ _ _ _ _ _ _ _ _)
   | (with_reducible exact spileref42_Check.mono _ _ _ _)
   | (with_reducible exact LeO.refl _)
   | (with_reducible exact LeO.none _)
   | (with_reducible refine LeO.ite ?_ ?_)
   | (with_reducible refine LeO.bind ?_ (fun _ => ?_))
   | exact ih0 _ _ _ _ _ _
   | exact ih1 _ _ _ _ _ _ _ _ _
   | exact spileref42_Check.mono _ _ _ _
   | exact LeO.none _
   | refine LeO.ite ?_ ?_
   | refine LeO.bind ?_ (fun _ => ?_)
def spileref42_Heard.T11 : Bool × List (List Nat × List Nat) := (true, [([], []), ([0], [0]), ([], []), ([1, 2], [1, 2]), ([3], [3]), ([4], [4]), ([], []), ([6], [6]), ([5, 7], [5, 7])])
def spileref42_Heard.B11 : List Nat := [0, 1, 0, 7, 15, 31, 0, 64, 255]
theorem spileref42_Heard.tab11 : rtab .any (opsOf Try.f29 11) = spileref42_Heard.T11 := by kernel_rfl
theorem spileref42_Heard.bits11 : waitsOk spileref42_Heard.T11.2 spileref42_Heard.B11 = true := by kernel_rfl
def spileref42_Heard.T12 : Bool × List (List Nat × List Nat) := (true, [([], []), ([0], [0]), ([], []), ([2], [2]), ([], []), ([3, 4], [3, 4]), ([5], [5]), ([6], [6]), ([1, 7], [1, 7]), ([0, 1, 2, 3, 4, 5, 6, 7, 8], []), ([9, 8, 8, 0, 1, 2, 3, 4, 5, 6, 7, 8], [8, 9])])
def spileref42_Heard.B12 : List Nat := [0, 1, 0, 4, 0, 28, 60, 124, 255, 511, 1023]
theorem spileref42_Heard.tab12 : rtab .any (opsOf Try.f29 12) = spileref42_Heard.T12 := by kernel_rfl
theorem spileref42_Heard.bits12 : waitsOk spileref42_Heard.T12.2 spileref42_Heard.B12 = true := by kernel_rfl
set_option maxHeartbeats 8000000 in
set_option maxRecDepth 100000 in
theorem spileref42_Heard.calls (k : Nat) (a0_0 : Int) (a0_1 : Int) (A0_2 : Option Addr) (c0_2 : Nat) (l0_2 : List (S33)) (a1_0 : Int) (a1_1 : Int) (r1 : Int) (r2 : Int) (r3 : List (S33)) (r4 : Int) (w : World) (hr0_2 : Kd.C k33 w A0_2 l0_2.length l0_2) (hc0_2 : l0_2.length ≤ c0_2) (h : spileref42_Heard.f k a0_0 a0_1 l0_2 a1_0 a1_1 = some (r1, r2, r3, r4)) :
  Calls Try.prog 29 #[.agg #[.int .i64 a0_0, .int .i64 a0_1, .slice A0_2 l0_2.length c0_2], .agg #[.int .i64 a1_0, .int .i64 a1_1]] w fun e w' => ∃ v2_ : Value, e = .returned (.tuple #[.agg #[.int .i64 r1, .int .i64 r2, v2_], .int .i64 r4]) ∧ Kd.R k33 33 w' w.heap.size (fun _ => True) v2_ r3 ∧ Below w.heap.size w w' := by
 have hu24 := Try.underlying24
 have hu44 := Try.underlying44
 have hu33 := Try.underlying33
 have HR0_2 := Aside0.mk hr0_2
 have HC0_2 := Aside0.mk hc0_2
 clear hr0_2 hc0_2
 have HB := Aside0.mk (Below.refl w.heap.size w)
 have H : ((spileref42_Check.f k a0_0 a0_1 l0_2).bind fun t426 => (if t426 = 0 then (if a1_0 = a0_0 then (if a1_1 < 1 then (spileref42_Heard.j0 k true a0_0 a0_1 l0_2 a1_0 a1_1) else (spileref42_Heard.j0 k (decide (a1_1 ≥ a0_1)) a0_0 a0_1 l0_2 a1_0 a1_1)) else (some (0, 0, ([] : List (S33)), 10))) else (some (0, 0, ([] : List (S33)), 1)))) = some (r1, r2, r3, r4) := h
 clear h
 replace H := Option.bind_eq_some_iff.mp H
 obtain ⟨t426, A30, H⟩ := H
 replace H : (if t426 = 0 then (if a1_0 = a0_0 then (if a1_1 < 1 then (spileref42_Heard.j0 k true a0_0 a0_1 l0_2 a1_0 a1_1) else (spileref42_Heard.j0 k (decide (a1_1 ≥ a0_1)) a0_0 a0_1 l0_2 a1_0 a1_1)) else (some (0, 0, ([] : List (S33)), 10))) else (some (0, 0, ([] : List (S33)), 1))) = some (r1, r2, r3, r4) := H
 have A3 := Aside0.mk A30
 clear A30
 by_cases c4 : t426 = 0
 ·rw [if_pos c4] at H
  have c4b0 : (t426 == 0) = true := beq_iff_eq.mpr c4
  try simp only [beq_self_eq_true, Bool.not_true, Bool.false_or, Bool.true_and] at c4b0
  have c4b1 : (t426 != 0) = false := bne_eq_false_iff_eq.mpr c4
  clear c4
  by_cases c5 : a1_0 = a0_0
  ·rw [if_pos c5] at H
   have c5b0 : (a1_0 == a0_0) = true := beq_iff_eq.mpr c5
   try simp only [beq_self_eq_true, Bool.not_true, Bool.false_or, Bool.true_and] at c5b0
   have c5b1 : (a1_0 != a0_0) = false := bne_eq_false_iff_eq.mpr c5
   clear c5
   have HC6 := Aside0.mk H
   clear H
   go_enter Try.func29, Try.ntmps29
   go_upto_region 5 with (first | ((with_reducible refine gqD (N := 2) rfl ?_); refine GS.bx (N := 2) (cs := #[.int .i64 a0_0, .int .i64 a0_1, .slice A0_2 l0_2.length c0_2]) (t := 24) ?_; intro gb423 hg w7 hbox hb; have n0_ := Aside0.mk (lqT (GS.lB HB.out) hb); have n1_ := Aside0.mk (hbox); have n2_ := Aside0.mk ((by rw [hg]; exact (lqZ (GS.lB HB.out)) : w.heap.size ≤ gb423)); have n3_ := Aside0.mk ((by rw [hg]; exact (lqZ (GS.lB HB.out)) : w.heap.size ≤ gb423)); clear HB; have HB := n0_; have BK423 := n1_; have GW423 := n2_; have GE423 := n3_; clear n0_ n1_ n2_ n3_; clear hb hbox hg) | ((with_reducible refine gqD (N := 3) rfl ?_); refine GS.bx (N := 3) (cs := #[.int .i64 a1_0, .int .i64 a1_1]) (t := 44) ?_; intro gb424 hg w8 hbox hb; have n0_ := Aside0.mk (bqB (GS.bqX BK423.out) hb); have n1_ := Aside0.mk (lqT (GS.lB HB.out) hb); have n2_ := Aside0.mk (hbox); have n3_ := Aside0.mk ((by rw [hg]; exact (lqZ (GS.lB HB.out)) : w.heap.size ≤ gb424)); have n4_ := Aside0.mk ((by rw [hg]; exact (lqZ (GS.lB HB.out)) : w.heap.size ≤ gb424)); have n5_ := Aside0.mk ((by rw [hg]; exact Nat.ne_of_lt (blk_lt (GS.bqX BK423.out)) : gb423 ≠ gb424)); have n6_ := Aside0.mk ((by rw [hg]; exact Nat.ne_of_gt (blk_lt (GS.bqX BK423.out)) : gb424 ≠ gb423)); clear BK423; clear HB; have BK423 := n0_; have HB := n1_; have BK424 := n2_; have GW424 := n3_; have GE424 := n4_; have NB423_424 := n5_; have NB424_423 := n6_; clear n0_ n1_ n2_ n3_ n4_ n5_ n6_; clear hb hbox hg) | ((with_reducible refine gqD (N := 4) rfl ?_); refine GS.bx (N := 4) (cs := #[.int .i64 0, .int .i64 0, .slice none 0 0]) (t := 24) ?_; intro gb425 hg w9 hbox hb; have n0_ := Aside0.mk (bqB (GS.bqX BK423.out) hb); have n1_ := Aside0.mk (bqB (GS.bqX BK424.out) hb); have n2_ := Aside0.mk (lqT (GS.lB HB.out) hb); have n3_ := Aside0.mk (hbox); have n4_ := Aside0.mk ((by rw [hg]; exact (lqZ (GS.lB HB.out)) : w.heap.size ≤ gb425)); have n5_ := Aside0.mk ((by rw [hg]; exact (lqZ (GS.lB HB.out)) : w.heap.size ≤ gb425)); have n6_ := Aside0.mk ((by rw [hg]; exact Nat.ne_of_lt (blk_lt (GS.bqX BK423.out)) : gb423 ≠ gb425)); have n7_ := Aside0.mk ((by rw [hg]; exact Nat.ne_of_gt (blk_lt (GS.bqX BK423.out)) : gb425 ≠ gb423)); have n8_ := Aside0.mk ((by rw [hg]; exact Nat.ne_of_lt (blk_lt (GS.bqX BK424.out)) : gb424 ≠ gb425)); have n9_ := Aside0.mk ((by rw [hg]; exact Nat.ne_of_gt (blk_lt (GS.bqX BK424.out)) : gb425 ≠ gb424)); clear BK423; clear BK424; clear HB; have BK423 := n0_; have BK424 := n1_; have HB := n2_; have BK425 := n3_; have GW425 := n4_; have GE425 := n5_; have NB423_425 := n6_; have NB425_423 := n7_; have NB424_425 := n8_; have NB425_424 := n9_; clear n0_ n1_ n2_ n3_ n4_ n5_ n6_ n7_ n8_ n9_; clear hb hbox hg; have hnb10 := NB423_424.out; have hnc10 := NB424_423.out; have hnb11 := NB423_425.out; have hnc11 := NB425_423.out; obtain ⟨hcz12_0, hcz12_1, hcz12_2, hfz12_0, hfz12_1, hfz12_2⟩ := GS.c3 BK423.out) | ((with_reducible refine gqC (f := 18) rfl ?_); refine GS.gL (some 9) Try.func18 #[.agg #[.int .i64 a0_0, .int .i64 a0_1, .slice A0_2 l0_2.length c0_2]] ?_; (with_reducible refine (spileref42_Check.calls k a0_0 a0_1 _ _ l0_2 t426 _ ?side1 ?side2 A3.out).mono ?_); (case side1 => exact GS.rC (Kd.C_below HR0_2.out HB.out)); (case side2 => exact HC0_2.out); rintro e w13 ⟨rfl, hb⟩; refine ⟨_, rfl, ?_⟩; have n0_ := Aside0.mk (bqB (GS.bqX BK423.out) hb); have n1_ := Aside0.mk (bqB (GS.bqX BK424.out) hb); have n2_ := Aside0.mk (bqB (GS.bqX BK425.out) hb); have n3_ := Aside0.mk (lqT (GS.lB HB.out) hb); clear BK423; clear BK424; clear BK425; clear HB; have BK423 := n0_; have BK424 := n1_; have BK425 := n2_; have HB := n3_; clear n0_ n1_ n2_ n3_; (try clear hb); (try clear hb2); (try clear hk); (try clear hi); have hnb14 := NB424_425.out; have hnc14 := NB425_424.out; obtain ⟨hcz15_0, hcz15_1, hfz15_0, hfz15_1⟩ := GS.c2 BK424.out; obtain ⟨hcz16_0, hcz16_1, hcz16_2, hfz16_0, hfz16_1, hfz16_2⟩ := GS.c3 BK423.out))
   (try simp only [Act.put, List.setIfInBounds_toArray, List.set_cons_zero, List.set_cons_succ])
   go_cut [27] (fun v27 wc => ∃ (kq : Nat) (x27_5 : Bool), v27 = .bool x27_5 ∧ Aside0 (spileref42_Heard.j0 kq x27_5 a0_0 a0_1 l0_2 a1_0 a1_1 = some (r1, r2, r3, r4)) ∧ Aside0 (kq ≤ k) ∧ Aside0 (wc.heap[gb423]? = some (.cells #[.int .i64 a0_0, .int .i64 a0_1, (.slice A0_2 l0_2.length c0_2)] 24 (0, 0))) ∧ Aside0 (wc.heap[gb424]? = some (.cells #[.int .i64 a1_0, .int .i64 a1_1] 44 (0, 0))) ∧ Aside0 (wc.heap[gb425]? = some (.cells #[.int .i64 0, .int .i64 0, (.slice none 0 0)] 24 (0, 0))) ∧ Aside0 (Below w.heap.size w wc))
   case first =>
    have H := HC6.out
    clear HC6
    by_cases c17 : a1_1 < 1
    ·rw [if_pos c17] at H
     have c17b0 : decide (a1_1 < 1) = true := decide_eq_true c17
     clear c17
     (first | rw [c17b0] | (simp only [i64_w, i32_w]; rw [c17b0]) | skip)
     have H' := Aside0.mk H
     clear H
     have hnb18 := NB424_423.out
     have hnc18 := NB423_424.out
     have hnb19 := NB424_425.out
     have hnc19 := NB425_424.out
     obtain ⟨hcz20_0, hcz20_1, hfz20_0, hfz20_1⟩ := GS.c2 BK424.out
     go_wp2
     go_meet
     case rel => exact ⟨_, (true), (by first | rfl | (simp; done) | (simp [*]; done)), H', ⟨by first | omega | exact Nat.le_refl _⟩, ⟨GS.bqX BK423.out⟩, ⟨GS.bqX BK424.out⟩, ⟨GS.bqX BK425.out⟩, ⟨GS.lB HB.out⟩⟩
    ·rw [if_neg c17] at H
     have c17b0 : decide (a1_1 < 1) = false := decide_eq_false c17
     clear c17
     (first | rw [c17b0] | (simp only [i64_w, i32_w]; rw [c17b0]) | skip)
     have H' := Aside0.mk H
     clear H
     have hnb21 := NB424_423.out
     have hnc21 := NB423_424.out
     have hnb22 := NB424_425.out
     have hnc22 := NB425_424.out
     obtain ⟨hcz23_0, hcz23_1, hfz23_0, hfz23_1⟩ := GS.c2 BK424.out
     have hnb24 := NB423_425.out
     have hnc24 := NB425_423.out
     obtain ⟨hcz25_0, hcz25_1, hcz25_2, hfz25_0, hfz25_1, hfz25_2⟩ := GS.c3 BK423.out
     go_wp2
     go_meet
     case rel => exact ⟨_, (decide (a1_1 ≥ a0_1)), (by first | rfl | (simp; done) | (simp [*]; done)), H', ⟨by first | omega | exact Nat.le_refl _⟩, ⟨GS.bqX BK423.out⟩, ⟨GS.bqX BK424.out⟩, ⟨GS.bqX BK425.out⟩, ⟨GS.lB HB.out⟩⟩
   case rest =>
    clear HC6
    try clear c1
    try clear c2
    try clear p2
    try clear c4
    try clear c4b0
    try clear c4b1
    try clear c5
    try clear c5b0
    try clear c5b1
    try clear c10
    try clear c11
    try clear c14
    try clear c17
    try clear c17b0
    try clear c18
    try clear c19
    try clear c21
    try clear c22
    try clear c24
    try clear hcz12_0
    try clear hcz12_1
    try clear hcz12_2
    try clear hcz15_0
    try clear hcz15_1
    try clear hcz16_0
    try clear hcz16_1
    try clear hcz16_2
    try clear hcz20_0
    try clear hcz20_1
    try clear hcz23_0
    try clear hcz23_1
    try clear hcz25_0
    try clear hcz25_1
    try clear hcz25_2
    try clear hfz12_0
    try clear hfz12_1
    try clear hfz12_2
    try clear hfz15_0
    try clear hfz15_1
    try clear hfz16_0
    try clear hfz16_1
    try clear hfz16_2
    try clear hfz20_0
    try clear hfz20_1
    try clear hfz23_0
    try clear hfz23_1
    try clear hfz25_0
    try clear hfz25_1
    try clear hfz25_2
    obtain ⟨kq, x27_5, rfl, HA, HJ5, BK423, BK424, BK425, HB⟩ := hcut
    cases kq with
    | zero => exact absurd HA.out (by simp [spileref42_Heard.j0])
    | succ kj5 =>
     have H := HA.out
     clear HA
     simp only [spileref42_Heard.j0] at H
     by_cases c26 : x27_5 = true
     ·subst c26
      have H1 : (some (0, 0, ([] : List (S33)), 2)) = some (r1, r2, r3, r4) := by rw [if_pos rfl] at H; exact H
      clear H
      have H := H1
      clear H1
      simp only [Option.some.injEq, Prod.mk.injEq] at H
      obtain ⟨rfl, rfl, rfl, rfl⟩ := H
      have hnb27 := NB425_423.out
      have hnc27 := NB423_425.out
      have hnb28 := NB425_424.out
      have hnc28 := NB424_425.out
      obtain ⟨hcz29_0, hcz29_1, hcz29_2, hfz29_0, hfz29_1, hfz29_2⟩ := GS.c3 BK425.out
      go_wp2
      refine bodyPost_ret (results_ct rfl _ _ gb425 24 #[.int .i64 0, .int .i64 0, .slice none 0 0] (0, 0) _ rfl (GS.bqZ BK425.out) Try.underlying24 rfl (by kernel_rfl)) rfl ?_
      exact ⟨_, by first | rfl | (simp [errW_none, errW_some] <;> rfl) | (simp [*, errW_none, errW_some] <;> rfl), by first | exact Kd.R_nil _ _ _ _ _ | exact Kd.N_nil _ _ _ _ _ | exact Kd.V_nil _ _ _ _ _ | exact Kd.Q_nil _ _ _ _ _ | exact Kd.S_nil _ _ _ _ _, GS.lB HB.out⟩
     ·replace c26 := Bool.eq_false_iff.mpr c26
      subst c26
      have H1 : (spileref42_Heard.l0 kj5 0 a0_0 a0_1 l0_2 a1_0 a1_1 a0_0 a0_1 ([] : List (S33))) = some (r1, r2, r3, r4) := by rw [if_neg (show ¬ (false = true) by decide)] at H; exact H
      clear H
      have H := H1
      clear H1
      have H' := Aside0.mk H
      clear H
      have hnb30 := NB423_424.out
      have hnc30 := NB424_423.out
      have hnb31 := NB423_425.out
      have hnc31 := NB425_423.out
      obtain ⟨hcz32_0, hcz32_1, hcz32_2, hfz32_0, hfz32_1, hfz32_2⟩ := GS.c3 BK423.out
      go_wp2_with (first | ((with_reducible refine gqD (N := 6) rfl ?_); refine GS.bx (N := 6) (cs := #[.int .i64 0, .int .i64 0, .slice none 0 0]) (t := 24) ?_; intro gb427 hg w33 hbox hb; have n0_ := Aside0.mk (bqB (GS.bqX BK423.out) hb); have n1_ := Aside0.mk (bqB (GS.bqX BK424.out) hb); have n2_ := Aside0.mk (bqB (GS.bqX BK425.out) hb); have n3_ := Aside0.mk (lqT (GS.lB HB.out) hb); have n4_ := Aside0.mk (hbox); have n5_ := Aside0.mk ((by rw [hg]; exact (lqZ (GS.lB HB.out)) : w.heap.size ≤ gb427)); have n6_ := Aside0.mk ((by rw [hg]; exact (lqZ (GS.lB HB.out)) : w.heap.size ≤ gb427)); have n7_ := Aside0.mk ((by rw [hg]; exact Nat.ne_of_lt (blk_lt (GS.bqX BK423.out)) : gb423 ≠ gb427)); have n8_ := Aside0.mk ((by rw [hg]; exact Nat.ne_of_gt (blk_lt (GS.bqX BK423.out)) : gb427 ≠ gb423)); have n9_ := Aside0.mk ((by rw [hg]; exact Nat.ne_of_lt (blk_lt (GS.bqX BK424.out)) : gb424 ≠ gb427)); have n10_ := Aside0.mk ((by rw [hg]; exact Nat.ne_of_gt (blk_lt (GS.bqX BK424.out)) : gb427 ≠ gb424)); have n11_ := Aside0.mk ((by rw [hg]; exact Nat.ne_of_lt (blk_lt (GS.bqX BK425.out)) : gb425 ≠ gb427)); have n12_ := Aside0.mk ((by rw [hg]; exact Nat.ne_of_gt (blk_lt (GS.bqX BK425.out)) : gb427 ≠ gb425)); clear BK423; clear BK424; clear BK425; clear HB; have BK423 := n0_; have BK424 := n1_; have BK425 := n2_; have HB := n3_; have BK427 := n4_; have GW427 := n5_; have GE427 := n6_; have NB423_427 := n7_; have NB427_423 := n8_; have NB424_427 := n9_; have NB427_424 := n10_; have NB425_427 := n11_; have NB427_425 := n12_; clear n0_ n1_ n2_ n3_ n4_ n5_ n6_ n7_ n8_ n9_ n10_ n11_ n12_; clear hb hbox hg; have hnb34 := NB427_423.out; have hnc34 := NB423_427.out; have hnb35 := NB427_424.out; have hnc35 := NB424_427.out; have hnb36 := NB427_425.out; have hnc36 := NB425_427.out; obtain ⟨hcz37_0, hcz37_1, hcz37_2, hfz37_0, hfz37_1, hfz37_2⟩ := GS.c3 BK427.out))
      go_loopg [7] kj5 (fun kq v7 w' => ∃ (x7_2 : Int) (x428002_2 : List (S33)) (u428002 : Value), v7 = .int .i64 x7_2 ∧ Aside0 (spileref42_Heard.l0 kq x7_2 a0_0 a0_1 l0_2 a1_0 a1_1 a0_0 a0_1 x428002_2 = some (r1, r2, r3, r4)) ∧ Aside0 (kq ≤ kj5) ∧ Aside0 (Kd.R k33 33 w' w.heap.size (fun _ => True) u428002 x428002_2) ∧ Aside0 (w'.heap[gb423]? = some (.cells #[.int .i64 a0_0, .int .i64 a0_1, (.slice A0_2 l0_2.length c0_2)] 24 (0, 0))) ∧ Aside0 (w'.heap[gb424]? = some (.cells #[.int .i64 a1_0, .int .i64 a1_1] 44 (0, 0))) ∧ Aside0 (w'.heap[gb425]? = some (.cells #[.int .i64 0, .int .i64 0, (.slice none 0 0)] 24 (0, 0))) ∧ Aside0 (w'.heap[gb427]? = some (.cells #[.int .i64 a0_0, .int .i64 a0_1, u428002] 24 (0, 0))) ∧ Aside0 (Below w.heap.size w w'))
      case atStart => exact ⟨(0), (([] : List (S33))), (.slice none 0 0), (by first | rfl | (simp; done) | (simp [*]; done)), H', ⟨Nat.le_refl _⟩, ⟨by first | exact Kd.R_nil _ _ _ _ _ | exact Kd.N_nil _ _ _ _ _ | exact Kd.V_nil _ _ _ _ _ | exact Kd.Q_nil _ _ _ _ _ | exact Kd.S_nil _ _ _ _ _⟩, ⟨GS.bqX BK423.out⟩, ⟨GS.bqX BK424.out⟩, ⟨GS.bqX BK425.out⟩, ⟨GS.bqZ BK427.out⟩, ⟨GS.lB HB.out⟩⟩
      case round =>
       clear H'
       try clear c1
       try clear c2
       try clear p2
       try clear c3
       try clear c4
       try clear c4b0
       try clear c4b1
       try clear c5
       try clear c5b0
       try clear c5b1
       try clear c10
       try clear c11
       try clear c14
       try clear c17
       try clear c17b0
       try clear c18
       try clear c19
       try clear c21
       try clear c22
       try clear c24
       try clear c26
       try clear c27
       try clear c28
       try clear c29
       try clear c30
       try clear c31
       try clear c34
       try clear c35
       try clear c36
       try clear hcz12_0
       try clear hcz12_1
       try clear hcz12_2
       try clear hcz15_0
       try clear hcz15_1
       try clear hcz16_0
       try clear hcz16_1
       try clear hcz16_2
       try clear hcz20_0
       try clear hcz20_1
       try clear hcz23_0
       try clear hcz23_1
       try clear hcz25_0
       try clear hcz25_1
       try clear hcz25_2
       try clear hcz29_0
       try clear hcz29_1
       try clear hcz29_2
       try clear hcz32_0
       try clear hcz32_1
       try clear hcz32_2
       try clear hcz37_0
       try clear hcz37_1
       try clear hcz37_2
       try clear hfz12_0
       try clear hfz12_1
       try clear hfz12_2
       try clear hfz15_0
       try clear hfz15_1
       try clear hfz16_0
       try clear hfz16_1
       try clear hfz16_2
       try clear hfz20_0
       try clear hfz20_1
       try clear hfz23_0
       try clear hfz23_1
       try clear hfz25_0
       try clear hfz25_1
       try clear hfz25_2
       try clear hfz29_0
       try clear hfz29_1
       try clear hfz29_2
       try clear hfz32_0
       try clear hfz32_1
       try clear hfz32_2
       try clear hfz37_0
       try clear hfz37_1
       try clear hfz37_2
       try clear p2
       obtain ⟨x7_2, x428002_2, u428002, rfl, HA, HK2, HO_428002, BK423, BK424, BK425, BK427, HB⟩ := hrel
       cases gk with
       | zero => exact absurd HA.out (by simp [spileref42_Heard.l0])
       | succ k2 =>
        have H := HA.out
        clear HA
        simp only [spileref42_Heard.l0] at H
        by_cases c38 : x7_2 < (l0_2.length : Int)
        ·rw [if_pos c38] at H
         have c38b0 : decide (x7_2 < (l0_2.length : Int)) = true := decide_eq_true c38
         clear c38
         by_cases c39 : 0 ≤ x7_2
         ·rw [if_pos c39] at H
          have c39b0 : decide (0 ≤ x7_2) = true := decide_eq_true c39
          clear c39
          by_cases c40 : ((rd_T33 l0_2 x7_2).f2) = a1_1
          ·rw [if_pos c40] at H
           have c40b0 : (((rd_T33 l0_2 x7_2).f2) == a1_1) = true := beq_iff_eq.mpr c40
           try simp only [beq_self_eq_true, Bool.not_true, Bool.false_or, Bool.true_and] at c40b0
           have c40b1 : (((rd_T33 l0_2 x7_2).f2) != a1_1) = false := bne_eq_false_iff_eq.mpr c40
           clear c40
           have H' := Aside0.mk H
           clear H
           have hnb41 := NB423_424.out
           have hnc41 := NB424_423.out
           have hnb42 := NB423_425.out
           have hnc42 := NB425_423.out
           have hnb43 := NB423_427.out
           have hnc43 := NB427_423.out
           obtain ⟨hcz44_0, hcz44_1, hcz44_2, hfz44_0, hfz44_1, hfz44_2⟩ := GS.c3 BK423.out
           try go_wp2
           have n0_ := Aside0.mk (Kd.R_drew HO_428002.out)
           have n1_ := Aside0.mk (bqD BK423.out)
           have n2_ := Aside0.mk (bqD BK424.out)
           have n3_ := Aside0.mk (bqD BK425.out)
           have n4_ := Aside0.mk (bqD BK427.out)
           have n5_ := Aside0.mk (lqD HB.out)
           clear HO_428002
           clear BK423
           clear BK424
           clear BK425
           clear BK427
           clear HB
           have HO_428002 := n0_
           have BK423 := n1_
           have BK424 := n2_
           have BK425 := n3_
           have BK427 := n4_
           have HB := n5_
           clear n0_ n1_ n2_ n3_ n4_ n5_
           have p428 : 0 ≤ (x7_2 : Int) := of_decide_eq_true (by first | (with_reducible assumption) | assumption)
           have q428 : x7_2 < (l0_2.length : Int) := of_decide_eq_true (by first | (with_reducible assumption) | assumption)
           obtain ⟨ad428, e428, hx428_0, hx428_1, hx428_2, hx428_3, hx428_4, hx428_5, hx428_6, hx428_7, hx428_8, hx428_9⟩ := at_T33 HR0_2.out x7_2 p428 q428
           have hw428_9 := hx428_9
           have hw428_8 := hx428_8
           have hw428_7 := hx428_7
           have hw428_6 := hx428_6
           have hw428_5 := hx428_5
           have hw428_4 := hx428_4
           have hw428_3 := hx428_3
           have hw428_2 := hx428_2
           have hw428_1 := hx428_1
           have hw428_0 := hx428_0
           cases e428
           replace hx428_0 := (HB.out.cell (World.block_lt_of_cell? w _ hx428_0)).trans hx428_0
           replace hx428_1 := (HB.out.cell (World.block_lt_of_cell? w _ hx428_1)).trans hx428_1
           replace hx428_2 := (HB.out.cell (World.block_lt_of_cell? w _ hx428_2)).trans hx428_2
           replace hx428_3 := (HB.out.cell (World.block_lt_of_cell? w _ hx428_3)).trans hx428_3
           replace hx428_4 := (HB.out.cell (World.block_lt_of_cell? w _ hx428_4)).trans hx428_4
           replace hx428_5 := (HB.out.cell (World.block_lt_of_cell? w _ hx428_5)).trans hx428_5
           replace hx428_6 := (HB.out.cell (World.block_lt_of_cell? w _ hx428_6)).trans hx428_6
           replace hx428_7 := (HB.out.cell (World.block_lt_of_cell? w _ hx428_7)).trans hx428_7
           replace hx428_8 := (HB.out.cell (World.block_lt_of_cell? w _ hx428_8)).trans hx428_8
           replace hx428_9 := (HB.out.cell (World.block_lt_of_cell? w _ hx428_9)).trans hx428_9
           replace p428 := eq_true p428
           replace q428 := eq_true q428
           refine start_ (n := 9) (S := fun w' => w'.cell? ⟨gb423, 0, none⟩ = some (.int .i64 a0_0) ∧ w'.cell? ⟨gb423, 1, none⟩ = some (.int .i64 a0_1) ∧ w'.cell? ⟨gb423, 2, none⟩ = some (.slice (some ad428) l0_2.length c0_2) ∧ w'.cell? ⟨gb424, 0, none⟩ = some (.int .i64 a1_0) ∧ w'.cell? ⟨gb424, 1, none⟩ = some (.int .i64 a1_1) ∧ w'.cell? (ad428.add ((x7_2).toNat * 10)) = some (.int .i64 ((rd_T33 l0_2 x7_2).f0)) ∧ w'.cell? ⟨(ad428.add ((x7_2).toNat * 10)).block, (ad428.add ((x7_2).toNat * 10)).off + 1, none⟩ = some (.int .i64 ((rd_T33 l0_2 x7_2).f1)) ∧ w'.cell? ⟨(ad428.add ((x7_2).toNat * 10)).block, (ad428.add ((x7_2).toNat * 10)).off + 2, none⟩ = some (.int .i64 ((rd_T33 l0_2 x7_2).f2)) ∧ w'.cell? ⟨(ad428.add ((x7_2).toNat * 10)).block, (ad428.add ((x7_2).toNat * 10)).off + 3, none⟩ = some (.int .i64 ((rd_T33 l0_2 x7_2).f3.f0)) ∧ w'.cell? ⟨(ad428.add ((x7_2).toNat * 10)).block, (ad428.add ((x7_2).toNat * 10)).off + 4, none⟩ = some (.int .i64 ((rd_T33 l0_2 x7_2).f3.f1)) ∧ w'.cell? ⟨(ad428.add ((x7_2).toNat * 10)).block, (ad428.add ((x7_2).toNat * 10)).off + 5, none⟩ = some (.int .i64 ((rd_T33 l0_2 x7_2).f3.f2)) ∧ w'.cell? ⟨(ad428.add ((x7_2).toNat * 10)).block, (ad428.add ((x7_2).toNat * 10)).off + 6, none⟩ = some (.int .i64 ((rd_T33 l0_2 x7_2).f3.f3)) ∧ w'.cell? ⟨(ad428.add ((x7_2).toNat * 10)).block, (ad428.add ((x7_2).toNat * 10)).off + 7, none⟩ = some (.int .i64 ((rd_T33 l0_2 x7_2).f3.f4)) ∧ w'.cell? ⟨(ad428.add ((x7_2).toNat * 10)).block, (ad428.add ((x7_2).toNat * 10)).off + 8, none⟩ = some (.int .i64 ((rd_T33 l0_2 x7_2).f3.f5)) ∧ w'.cell? ⟨(ad428.add ((x7_2).toNat * 10)).block, (ad428.add ((x7_2).toNat * 10)).off + 9, none⟩ = some (.int .i64 ((rd_T33 l0_2 x7_2).f3.f6))) (ds := []) #[false, false, false, false, false, false, false, false, false] (by kernel_rfl) rfl rfl ⟨(bqC BK423.out 0).trans rfl, (bqC BK423.out 1).trans rfl, (bqC BK423.out 2).trans rfl, (bqC BK424.out 0).trans rfl, (bqC BK424.out 1).trans rfl, ((HB.out.cell (World.block_lt_of_cell? w _ hw428_0)).trans hw428_0), ((HB.out.cell (World.block_lt_of_cell? w _ hw428_1)).trans hw428_1), ((HB.out.cell (World.block_lt_of_cell? w _ hw428_2)).trans hw428_2), ((HB.out.cell (World.block_lt_of_cell? w _ hw428_3)).trans hw428_3), ((HB.out.cell (World.block_lt_of_cell? w _ hw428_4)).trans hw428_4), ((HB.out.cell (World.block_lt_of_cell? w _ hw428_5)).trans hw428_5), ((HB.out.cell (World.block_lt_of_cell? w _ hw428_6)).trans hw428_6), ((HB.out.cell (World.block_lt_of_cell? w _ hw428_7)).trans hw428_7), ((HB.out.cell (World.block_lt_of_cell? w _ hw428_8)).trans hw428_8), ((HB.out.cell (World.block_lt_of_cell? w _ hw428_9)).trans hw428_9)⟩ (fun hHeld => ?_); refine with_tabW spileref42_Heard.tab11 spileref42_Heard.bits11 (fun HT_ HW_ => ?_)
           generalize wr.drew = w45 at HO_428002 BK423 BK424 BK425 BK427 HB hx428_0 hx428_1 hx428_2 hx428_3 hx428_4 hx428_5 hx428_6 hx428_7 hx428_8 hx428_9 hHeld ⊢
           refine pure_ (i := 0) (N := some 41) (v := ?_) (a' := ?_) #[true, false, false, false, false, false, false, false, false] rfl rfl (any_of HT_.out (by kernel_rfl)) (fun _ _ _ h => h) (Or.inl ⟨by rfl, ?_⟩) ?_ ?_
           rotate_left
           ·intro w'
            go_simp
            with_reducible rfl
           rotate_left
           ·simp only [Act.put, List.setIfInBounds_toArray, List.set_cons_zero, List.set_cons_succ, i64_w, i32_w]
            rfl
           refine pure_ (i := 2) (N := some 43) (v := ?_) (a' := ?_) #[true, false, true, false, false, false, false, false, false] rfl rfl (any_of HT_.out (by kernel_rfl)) (fun _ _ _ h => h) (Or.inl ⟨by rfl, ?_⟩) ?_ ?_
           rotate_left
           ·intro w'
            go_simp
            with_reducible rfl
           rotate_left
           ·simp only [Act.put, List.setIfInBounds_toArray, List.set_cons_zero, List.set_cons_succ, i64_w, i32_w]
            rfl
           refine pure_ (i := 6) (N := some 47) (v := ?_) (a' := ?_) #[true, false, true, false, false, false, true, false, false] rfl rfl (any_of HT_.out (by kernel_rfl)) (fun _ _ _ h => h) (Or.inl ⟨by rfl, ?_⟩) ?_ ?_
           rotate_left
           ·intro w'
            go_simp
            with_reducible rfl
           rotate_left
           ·simp only [Act.put, List.setIfInBounds_toArray, List.set_cons_zero, List.set_cons_succ, i64_w, i32_w]
            rfl
           refine take_ (i := 1) (N := some 42) (v := ?_) (a' := ?_) #[true, true, true, false, false, false, true, false, false] rfl rfl (take_ofW HT_.out HW_.out (by kernel_rfl)) (fun _ _ _ h => h) (Or.inl ⟨by rfl, ?_⟩) hHeld ?_ ?_
           rotate_left
           ·rintro w' ⟨s0, s1, s2, s3, s4, s5, s6, s7, s8, s9, s10, s11, s12, s13, s14⟩
            go_simp
            with_reducible rfl
           rotate_left
           ·simp only [Act.put, List.setIfInBounds_toArray, List.set_cons_zero, List.set_cons_succ, i64_w, i32_w]
            rfl
           refine pure_ (i := 3) (N := some 44) (v := ?_) (a' := ?_) #[true, true, true, true, false, false, true, false, false] rfl rfl (any_of HT_.out (by kernel_rfl)) (fun _ _ _ h => h) (Or.inl ⟨by rfl, ?_⟩) ?_ ?_
           rotate_left
           ·intro w'
            go_simp
            with_reducible rfl
           rotate_left
           ·simp only [Act.put, List.setIfInBounds_toArray, List.set_cons_zero, List.set_cons_succ, i64_w, i32_w]
            rfl
           refine pure_ (i := 4) (N := some 45) (v := ?_) (a' := ?_) #[true, true, true, true, true, false, true, false, false] rfl rfl (any_of HT_.out (by kernel_rfl)) (fun _ _ _ h => h) (Or.inl ⟨by rfl, ?_⟩) ?_ ?_
           rotate_left
           ·intro w'
            go_simp
            with_reducible rfl
           rotate_left
           ·simp only [Act.put, List.setIfInBounds_toArray, List.set_cons_zero, List.set_cons_succ, i64_w, i32_w]
            rfl
           refine take_ (i := 5) (N := some 46) (v := ?_) (a' := ?_) #[true, true, true, true, true, true, true, false, false] rfl rfl (take_ofW HT_.out HW_.out (by kernel_rfl)) (fun _ _ _ h => h) (Or.inl ⟨by rfl, ?_⟩) hHeld ?_ ?_
           rotate_left
           ·rintro w' ⟨s0, s1, s2, s3, s4, s5, s6, s7, s8, s9, s10, s11, s12, s13, s14⟩
            go_simp
            with_reducible rfl
           rotate_left
           ·simp only [Act.put, List.setIfInBounds_toArray, List.set_cons_zero, List.set_cons_succ, i64_w, i32_w]
            rfl
           refine take_ (i := 7) (N := some 48) (v := ?_) (a' := ?_) #[true, true, true, true, true, true, true, true, false] rfl rfl (take_ofW HT_.out HW_.out (by kernel_rfl)) (fun _ _ _ h => h) (Or.inl ⟨by rfl, ?_⟩) hHeld ?_ ?_
           rotate_left
           ·rintro w' ⟨s0, s1, s2, s3, s4, s5, s6, s7, s8, s9, s10, s11, s12, s13, s14⟩
            go_simp
            with_reducible rfl
           rotate_left
           ·simp only [Act.put, List.setIfInBounds_toArray, List.set_cons_zero, List.set_cons_succ, i64_w, i32_w]
            rfl
           refine pure_ (i := 8) (N := some 49) (v := ?_) (a' := ?_) #[true, true, true, true, true, true, true, true, true] rfl rfl (any_of HT_.out (by kernel_rfl)) (fun _ _ _ h => h) (Or.inl ⟨by rfl, ?_⟩) ?_ ?_
           rotate_left
           ·intro w'
            go_simp
            with_reducible rfl
           rotate_left
           ·simp only [Act.put, List.setIfInBounds_toArray, List.set_cons_zero, List.set_cons_succ, i64_w, i32_w]
            rfl
           refine done_ (done_of HT_.out (by kernel_rfl)) ?_
           try go_wp2
           go_roundg k2
           case measure => have := HJ5.out; have := HK2.out; omega
           case rel => exact ⟨(wrap64 (x7_2 + 1)), (x428002_2), (u428002), (by first | rfl | (simp; done) | (simp [*]; done)), H', ⟨by have := HJ5.out; have := HK2.out; omega⟩, ⟨by (with_reducible repeat (first | apply Kd.R_alloc | apply Kd.R_drewN | apply Kd.R_drew)); exact HO_428002.out⟩, ⟨GS.bqX BK423.out⟩, ⟨GS.bqX BK424.out⟩, ⟨GS.bqX BK425.out⟩, ⟨GS.bqX BK427.out⟩, ⟨GS.lB HB.out⟩⟩
          ·rw [if_neg c40] at H
           have c40b0 : (((rd_T33 l0_2 x7_2).f2) == a1_1) = false := beq_eq_false_iff_ne.mpr c40
           try simp only [beq_self_eq_true, Bool.not_true, Bool.false_or, Bool.true_and] at c40b0
           have c40b1 : (((rd_T33 l0_2 x7_2).f2) != a1_1) = true := bne_iff_ne.mpr c40
           by_cases c46 : x428002_2.length < 1759218604441
           ·rw [if_pos c46] at H
            have LMc46 := Aside0.mk c46
            clear c46
            obtain ⟨y430, hy430⟩ : ∃ y_ : List (S33), y_ = (x428002_2 ++ [(⟨(rd_T33 l0_2 x7_2).f0, (rd_T33 l0_2 x7_2).f1, (rd_T33 l0_2 x7_2).f2, (⟨(rd_T33 l0_2 x7_2).f3.f0, (rd_T33 l0_2 x7_2).f3.f1, (rd_T33 l0_2 x7_2).f3.f2, (rd_T33 l0_2 x7_2).f3.f3, (rd_T33 l0_2 x7_2).f3.f4, (rd_T33 l0_2 x7_2).f3.f5, (rd_T33 l0_2 x7_2).f3.f6⟩ : S26)⟩ : S33)]) := ⟨_, rfl⟩
            replace H : (spileref42_Heard.l0 k2 (wrap64 (x7_2 + 1)) a0_0 a0_1 l0_2 a1_0 a1_1 a0_0 a0_1 y430) = some (r1, r2, r3, r4) := by first | (rw [hy430]; with_reducible exact H) | (have H2_ := (Option.bind_some _ _).symm.trans H; rw [hy430]; with_reducible exact H2_) | (have H2_ := (Option.bind_some _ _).symm.trans H; with_reducible exact H2_) | with_reducible exact H | (rw [hy430]; exact H) | exact H
            have Ny430 := Aside0.mk hy430
            clear hy430
            have H' := Aside0.mk H
            clear H
            have hnb47 := NB423_424.out
            have hnc47 := NB424_423.out
            have hnb48 := NB423_425.out
            have hnc48 := NB425_423.out
            have hnb49 := NB423_427.out
            have hnc49 := NB427_423.out
            obtain ⟨hcz50_0, hcz50_1, hcz50_2, hfz50_0, hfz50_1, hfz50_2⟩ := GS.c3 BK423.out
            try go_wp2
            have n0_ := Aside0.mk (Kd.R_drew HO_428002.out)
            have n1_ := Aside0.mk (bqD BK423.out)
            have n2_ := Aside0.mk (bqD BK424.out)
            have n3_ := Aside0.mk (bqD BK425.out)
            have n4_ := Aside0.mk (bqD BK427.out)
            have n5_ := Aside0.mk (lqD HB.out)
            clear HO_428002
            clear BK423
            clear BK424
            clear BK425
            clear BK427
            clear HB
            have HO_428002 := n0_
            have BK423 := n1_
            have BK424 := n2_
            have BK425 := n3_
            have BK427 := n4_
            have HB := n5_
            clear n0_ n1_ n2_ n3_ n4_ n5_
            have p428 : 0 ≤ (x7_2 : Int) := of_decide_eq_true (by first | (with_reducible assumption) | assumption)
            have q428 : x7_2 < (l0_2.length : Int) := of_decide_eq_true (by first | (with_reducible assumption) | assumption)
            obtain ⟨ad428, e428, hx428_0, hx428_1, hx428_2, hx428_3, hx428_4, hx428_5, hx428_6, hx428_7, hx428_8, hx428_9⟩ := at_T33 HR0_2.out x7_2 p428 q428
            have hw428_9 := hx428_9
            have hw428_8 := hx428_8
            have hw428_7 := hx428_7
            have hw428_6 := hx428_6
            have hw428_5 := hx428_5
            have hw428_4 := hx428_4
            have hw428_3 := hx428_3
            have hw428_2 := hx428_2
            have hw428_1 := hx428_1
            have hw428_0 := hx428_0
            cases e428
            replace hx428_0 := (HB.out.cell (World.block_lt_of_cell? w _ hx428_0)).trans hx428_0
            replace hx428_1 := (HB.out.cell (World.block_lt_of_cell? w _ hx428_1)).trans hx428_1
            replace hx428_2 := (HB.out.cell (World.block_lt_of_cell? w _ hx428_2)).trans hx428_2
            replace hx428_3 := (HB.out.cell (World.block_lt_of_cell? w _ hx428_3)).trans hx428_3
            replace hx428_4 := (HB.out.cell (World.block_lt_of_cell? w _ hx428_4)).trans hx428_4
            replace hx428_5 := (HB.out.cell (World.block_lt_of_cell? w _ hx428_5)).trans hx428_5
            replace hx428_6 := (HB.out.cell (World.block_lt_of_cell? w _ hx428_6)).trans hx428_6
            replace hx428_7 := (HB.out.cell (World.block_lt_of_cell? w _ hx428_7)).trans hx428_7
            replace hx428_8 := (HB.out.cell (World.block_lt_of_cell? w _ hx428_8)).trans hx428_8
            replace hx428_9 := (HB.out.cell (World.block_lt_of_cell? w _ hx428_9)).trans hx428_9
            replace p428 := eq_true p428
            replace q428 := eq_true q428
            refine start_ (n := 9) (S := fun w' => w'.cell? ⟨gb423, 0, none⟩ = some (.int .i64 a0_0) ∧ w'.cell? ⟨gb423, 1, none⟩ = some (.int .i64 a0_1) ∧ w'.cell? ⟨gb423, 2, none⟩ = some (.slice (some ad428) l0_2.length c0_2) ∧ w'.cell? ⟨gb424, 0, none⟩ = some (.int .i64 a1_0) ∧ w'.cell? ⟨gb424, 1, none⟩ = some (.int .i64 a1_1) ∧ w'.cell? (ad428.add ((x7_2).toNat * 10)) = some (.int .i64 ((rd_T33 l0_2 x7_2).f0)) ∧ w'.cell? ⟨(ad428.add ((x7_2).toNat * 10)).block, (ad428.add ((x7_2).toNat * 10)).off + 1, none⟩ = some (.int .i64 ((rd_T33 l0_2 x7_2).f1)) ∧ w'.cell? ⟨(ad428.add ((x7_2).toNat * 10)).block, (ad428.add ((x7_2).toNat * 10)).off + 2, none⟩ = some (.int .i64 ((rd_T33 l0_2 x7_2).f2)) ∧ w'.cell? ⟨(ad428.add ((x7_2).toNat * 10)).block, (ad428.add ((x7_2).toNat * 10)).off + 3, none⟩ = some (.int .i64 ((rd_T33 l0_2 x7_2).f3.f0)) ∧ w'.cell? ⟨(ad428.add ((x7_2).toNat * 10)).block, (ad428.add ((x7_2).toNat * 10)).off + 4, none⟩ = some (.int .i64 ((rd_T33 l0_2 x7_2).f3.f1)) ∧ w'.cell? ⟨(ad428.add ((x7_2).toNat * 10)).block, (ad428.add ((x7_2).toNat * 10)).off + 5, none⟩ = some (.int .i64 ((rd_T33 l0_2 x7_2).f3.f2)) ∧ w'.cell? ⟨(ad428.add ((x7_2).toNat * 10)).block, (ad428.add ((x7_2).toNat * 10)).off + 6, none⟩ = some (.int .i64 ((rd_T33 l0_2 x7_2).f3.f3)) ∧ w'.cell? ⟨(ad428.add ((x7_2).toNat * 10)).block, (ad428.add ((x7_2).toNat * 10)).off + 7, none⟩ = some (.int .i64 ((rd_T33 l0_2 x7_2).f3.f4)) ∧ w'.cell? ⟨(ad428.add ((x7_2).toNat * 10)).block, (ad428.add ((x7_2).toNat * 10)).off + 8, none⟩ = some (.int .i64 ((rd_T33 l0_2 x7_2).f3.f5)) ∧ w'.cell? ⟨(ad428.add ((x7_2).toNat * 10)).block, (ad428.add ((x7_2).toNat * 10)).off + 9, none⟩ = some (.int .i64 ((rd_T33 l0_2 x7_2).f3.f6))) (ds := []) #[false, false, false, false, false, false, false, false, false] (by kernel_rfl) rfl rfl ⟨(bqC BK423.out 0).trans rfl, (bqC BK423.out 1).trans rfl, (bqC BK423.out 2).trans rfl, (bqC BK424.out 0).trans rfl, (bqC BK424.out 1).trans rfl, ((HB.out.cell (World.block_lt_of_cell? w _ hw428_0)).trans hw428_0), ((HB.out.cell (World.block_lt_of_cell? w _ hw428_1)).trans hw428_1), ((HB.out.cell (World.block_lt_of_cell? w _ hw428_2)).trans hw428_2), ((HB.out.cell (World.block_lt_of_cell? w _ hw428_3)).trans hw428_3), ((HB.out.cell (World.block_lt_of_cell? w _ hw428_4)).trans hw428_4), ((HB.out.cell (World.block_lt_of_cell? w _ hw428_5)).trans hw428_5), ((HB.out.cell (World.block_lt_of_cell? w _ hw428_6)).trans hw428_6), ((HB.out.cell (World.block_lt_of_cell? w _ hw428_7)).trans hw428_7), ((HB.out.cell (World.block_lt_of_cell? w _ hw428_8)).trans hw428_8), ((HB.out.cell (World.block_lt_of_cell? w _ hw428_9)).trans hw428_9)⟩ (fun hHeld => ?_); refine with_tabW spileref42_Heard.tab11 spileref42_Heard.bits11 (fun HT_ HW_ => ?_)
            generalize wr.drew = w51 at HO_428002 BK423 BK424 BK425 BK427 HB hx428_0 hx428_1 hx428_2 hx428_3 hx428_4 hx428_5 hx428_6 hx428_7 hx428_8 hx428_9 hHeld ⊢
            refine pure_ (i := 0) (N := some 41) (v := ?_) (a' := ?_) #[true, false, false, false, false, false, false, false, false] rfl rfl (any_of HT_.out (by kernel_rfl)) (fun _ _ _ h => h) (Or.inl ⟨by rfl, ?_⟩) ?_ ?_
            rotate_left
            ·intro w'
             go_simp
             with_reducible rfl
            rotate_left
            ·simp only [Act.put, List.setIfInBounds_toArray, List.set_cons_zero, List.set_cons_succ, i64_w, i32_w]
             rfl
            refine pure_ (i := 2) (N := some 43) (v := ?_) (a' := ?_) #[true, false, true, false, false, false, false, false, false] rfl rfl (any_of HT_.out (by kernel_rfl)) (fun _ _ _ h => h) (Or.inl ⟨by rfl, ?_⟩) ?_ ?_
            rotate_left
            ·intro w'
             go_simp
             with_reducible rfl
            rotate_left
            ·simp only [Act.put, List.setIfInBounds_toArray, List.set_cons_zero, List.set_cons_succ, i64_w, i32_w]
             rfl
            refine pure_ (i := 6) (N := some 47) (v := ?_) (a' := ?_) #[true, false, true, false, false, false, true, false, false] rfl rfl (any_of HT_.out (by kernel_rfl)) (fun _ _ _ h => h) (Or.inl ⟨by rfl, ?_⟩) ?_ ?_
            rotate_left
            ·intro w'
             go_simp
             with_reducible rfl
            rotate_left
            ·simp only [Act.put, List.setIfInBounds_toArray, List.set_cons_zero, List.set_cons_succ, i64_w, i32_w]
             rfl
            refine take_ (i := 1) (N := some 42) (v := ?_) (a' := ?_) #[true, true, true, false, false, false, true, false, false] rfl rfl (take_ofW HT_.out HW_.out (by kernel_rfl)) (fun _ _ _ h => h) (Or.inl ⟨by rfl, ?_⟩) hHeld ?_ ?_
            rotate_left
            ·rintro w' ⟨s0, s1, s2, s3, s4, s5, s6, s7, s8, s9, s10, s11, s12, s13, s14⟩
             go_simp
             with_reducible rfl
            rotate_left
            ·simp only [Act.put, List.setIfInBounds_toArray, List.set_cons_zero, List.set_cons_succ, i64_w, i32_w]
             rfl
            refine pure_ (i := 3) (N := some 44) (v := ?_) (a' := ?_) #[true, true, true, true, false, false, true, false, false] rfl rfl (any_of HT_.out (by kernel_rfl)) (fun _ _ _ h => h) (Or.inl ⟨by rfl, ?_⟩) ?_ ?_
            rotate_left
            ·intro w'
             go_simp
             with_reducible rfl
            rotate_left
            ·simp only [Act.put, List.setIfInBounds_toArray, List.set_cons_zero, List.set_cons_succ, i64_w, i32_w]
             rfl
            refine pure_ (i := 4) (N := some 45) (v := ?_) (a' := ?_) #[true, true, true, true, true, false, true, false, false] rfl rfl (any_of HT_.out (by kernel_rfl)) (fun _ _ _ h => h) (Or.inl ⟨by rfl, ?_⟩) ?_ ?_
            rotate_left
            ·intro w'
             go_simp
             with_reducible rfl
            rotate_left
            ·simp only [Act.put, List.setIfInBounds_toArray, List.set_cons_zero, List.set_cons_succ, i64_w, i32_w]
             rfl
            refine take_ (i := 5) (N := some 46) (v := ?_) (a' := ?_) #[true, true, true, true, true, true, true, false, false] rfl rfl (take_ofW HT_.out HW_.out (by kernel_rfl)) (fun _ _ _ h => h) (Or.inl ⟨by rfl, ?_⟩) hHeld ?_ ?_
            rotate_left
            ·rintro w' ⟨s0, s1, s2, s3, s4, s5, s6, s7, s8, s9, s10, s11, s12, s13, s14⟩
             go_simp
             with_reducible rfl
            rotate_left
            ·simp only [Act.put, List.setIfInBounds_toArray, List.set_cons_zero, List.set_cons_succ, i64_w, i32_w]
             rfl
            refine take_ (i := 7) (N := some 48) (v := ?_) (a' := ?_) #[true, true, true, true, true, true, true, true, false] rfl rfl (take_ofW HT_.out HW_.out (by kernel_rfl)) (fun _ _ _ h => h) (Or.inl ⟨by rfl, ?_⟩) hHeld ?_ ?_
            rotate_left
            ·rintro w' ⟨s0, s1, s2, s3, s4, s5, s6, s7, s8, s9, s10, s11, s12, s13, s14⟩
             go_simp
             with_reducible rfl
            rotate_left
            ·simp only [Act.put, List.setIfInBounds_toArray, List.set_cons_zero, List.set_cons_succ, i64_w, i32_w]
             rfl
            refine pure_ (i := 8) (N := some 49) (v := ?_) (a' := ?_) #[true, true, true, true, true, true, true, true, true] rfl rfl (any_of HT_.out (by kernel_rfl)) (fun _ _ _ h => h) (Or.inl ⟨by rfl, ?_⟩) ?_ ?_
            rotate_left
            ·intro w'
             go_simp
             with_reducible rfl
            rotate_left
            ·simp only [Act.put, List.setIfInBounds_toArray, List.set_cons_zero, List.set_cons_succ, i64_w, i32_w]
             rfl
            refine done_ (done_of HT_.out (by kernel_rfl)) ?_
            try go_wp2
            have n0_ := Aside0.mk (Kd.R_drew HO_428002.out)
            have n1_ := Aside0.mk (bqD BK423.out)
            have n2_ := Aside0.mk (bqD BK424.out)
            have n3_ := Aside0.mk (bqD BK425.out)
            have n4_ := Aside0.mk (bqD BK427.out)
            have n5_ := Aside0.mk (lqD HB.out)
            clear HO_428002
            clear BK423
            clear BK424
            clear BK425
            clear BK427
            clear HB
            have HO_428002 := n0_
            have BK423 := n1_
            have BK424 := n2_
            have BK425 := n3_
            have BK427 := n4_
            have HB := n5_
            clear n0_ n1_ n2_ n3_ n4_ n5_
            have p429 : 0 ≤ (x7_2 : Int) := of_decide_eq_true (by first | (with_reducible assumption) | assumption)
            have q429 : x7_2 < (l0_2.length : Int) := of_decide_eq_true (by first | (with_reducible assumption) | assumption)
            obtain ⟨ad429, e429, hx429_0, hx429_1, hx429_2, hx429_3, hx429_4, hx429_5, hx429_6, hx429_7, hx429_8, hx429_9⟩ := at_T33 HR0_2.out x7_2 p429 q429
            have hw429_9 := hx429_9
            have hw429_8 := hx429_8
            have hw429_7 := hx429_7
            have hw429_6 := hx429_6
            have hw429_5 := hx429_5
            have hw429_4 := hx429_4
            have hw429_3 := hx429_3
            have hw429_2 := hx429_2
            have hw429_1 := hx429_1
            have hw429_0 := hx429_0
            obtain rfl : ad428 = ad429 := (by injection e429)
            replace hx429_0 := (HB.out.cell (World.block_lt_of_cell? w _ hx429_0)).trans hx429_0
            replace hx429_1 := (HB.out.cell (World.block_lt_of_cell? w _ hx429_1)).trans hx429_1
            replace hx429_2 := (HB.out.cell (World.block_lt_of_cell? w _ hx429_2)).trans hx429_2
            replace hx429_3 := (HB.out.cell (World.block_lt_of_cell? w _ hx429_3)).trans hx429_3
            replace hx429_4 := (HB.out.cell (World.block_lt_of_cell? w _ hx429_4)).trans hx429_4
            replace hx429_5 := (HB.out.cell (World.block_lt_of_cell? w _ hx429_5)).trans hx429_5
            replace hx429_6 := (HB.out.cell (World.block_lt_of_cell? w _ hx429_6)).trans hx429_6
            replace hx429_7 := (HB.out.cell (World.block_lt_of_cell? w _ hx429_7)).trans hx429_7
            replace hx429_8 := (HB.out.cell (World.block_lt_of_cell? w _ hx429_8)).trans hx429_8
            replace hx429_9 := (HB.out.cell (World.block_lt_of_cell? w _ hx429_9)).trans hx429_9
            replace p429 := eq_true p429
            replace q429 := eq_true q429
            refine start_ (n := 11) (S := fun w' => w'.cell? ⟨gb427, 0, none⟩ = some (.int .i64 a0_0) ∧ w'.cell? ⟨gb427, 1, none⟩ = some (.int .i64 a0_1) ∧ w'.cell? ⟨gb427, 2, none⟩ = some (u428002) ∧ w'.cell? ⟨gb423, 0, none⟩ = some (.int .i64 a0_0) ∧ w'.cell? ⟨gb423, 1, none⟩ = some (.int .i64 a0_1) ∧ w'.cell? ⟨gb423, 2, none⟩ = some (.slice (some ad428) l0_2.length c0_2) ∧ w'.cell? (ad428.add ((x7_2).toNat * 10)) = some (.int .i64 ((rd_T33 l0_2 x7_2).f0)) ∧ w'.cell? ⟨(ad428.add ((x7_2).toNat * 10)).block, (ad428.add ((x7_2).toNat * 10)).off + 1, none⟩ = some (.int .i64 ((rd_T33 l0_2 x7_2).f1)) ∧ w'.cell? ⟨(ad428.add ((x7_2).toNat * 10)).block, (ad428.add ((x7_2).toNat * 10)).off + 2, none⟩ = some (.int .i64 ((rd_T33 l0_2 x7_2).f2)) ∧ w'.cell? ⟨(ad428.add ((x7_2).toNat * 10)).block, (ad428.add ((x7_2).toNat * 10)).off + 3, none⟩ = some (.int .i64 ((rd_T33 l0_2 x7_2).f3.f0)) ∧ w'.cell? ⟨(ad428.add ((x7_2).toNat * 10)).block, (ad428.add ((x7_2).toNat * 10)).off + 4, none⟩ = some (.int .i64 ((rd_T33 l0_2 x7_2).f3.f1)) ∧ w'.cell? ⟨(ad428.add ((x7_2).toNat * 10)).block, (ad428.add ((x7_2).toNat * 10)).off + 5, none⟩ = some (.int .i64 ((rd_T33 l0_2 x7_2).f3.f2)) ∧ w'.cell? ⟨(ad428.add ((x7_2).toNat * 10)).block, (ad428.add ((x7_2).toNat * 10)).off + 6, none⟩ = some (.int .i64 ((rd_T33 l0_2 x7_2).f3.f3)) ∧ w'.cell? ⟨(ad428.add ((x7_2).toNat * 10)).block, (ad428.add ((x7_2).toNat * 10)).off + 7, none⟩ = some (.int .i64 ((rd_T33 l0_2 x7_2).f3.f4)) ∧ w'.cell? ⟨(ad428.add ((x7_2).toNat * 10)).block, (ad428.add ((x7_2).toNat * 10)).off + 8, none⟩ = some (.int .i64 ((rd_T33 l0_2 x7_2).f3.f5)) ∧ w'.cell? ⟨(ad428.add ((x7_2).toNat * 10)).block, (ad428.add ((x7_2).toNat * 10)).off + 9, none⟩ = some (.int .i64 ((rd_T33 l0_2 x7_2).f3.f6))) (ds := [10]) #[false, false, false, false, false, false, false, false, false, false, false] (by kernel_rfl) rfl rfl ⟨(bqC BK427.out 0).trans rfl, (bqC BK427.out 1).trans rfl, (bqC BK427.out 2).trans rfl, (bqC BK423.out 0).trans rfl, (bqC BK423.out 1).trans rfl, (bqC BK423.out 2).trans rfl, ((HB.out.cell (World.block_lt_of_cell? w _ hw429_0)).trans hw429_0), ((HB.out.cell (World.block_lt_of_cell? w _ hw429_1)).trans hw429_1), ((HB.out.cell (World.block_lt_of_cell? w _ hw429_2)).trans hw429_2), ((HB.out.cell (World.block_lt_of_cell? w _ hw429_3)).trans hw429_3), ((HB.out.cell (World.block_lt_of_cell? w _ hw429_4)).trans hw429_4), ((HB.out.cell (World.block_lt_of_cell? w _ hw429_5)).trans hw429_5), ((HB.out.cell (World.block_lt_of_cell? w _ hw429_6)).trans hw429_6), ((HB.out.cell (World.block_lt_of_cell? w _ hw429_7)).trans hw429_7), ((HB.out.cell (World.block_lt_of_cell? w _ hw429_8)).trans hw429_8), ((HB.out.cell (World.block_lt_of_cell? w _ hw429_9)).trans hw429_9)⟩ (fun hHeld => ?_); refine with_tabW spileref42_Heard.tab12 spileref42_Heard.bits12 (fun HT_ HW_ => ?_)
            generalize w51.drew = w52 at HO_428002 BK423 BK424 BK425 BK427 HB hx429_0 hx429_1 hx429_2 hx429_3 hx429_4 hx429_5 hx429_6 hx429_7 hx429_8 hx429_9 hHeld ⊢
            refine pure_ (i := 0) (N := some 50) (v := ?_) (a' := ?_) #[true, false, false, false, false, false, false, false, false, false, false] rfl rfl (any_of HT_.out (by kernel_rfl)) (fun _ _ _ h => h) (Or.inl ⟨by rfl, ?_⟩) ?_ ?_
            rotate_left
            ·intro w'
             go_simp
             with_reducible rfl
            rotate_left
            ·simp only [Act.put, List.setIfInBounds_toArray, List.set_cons_zero, List.set_cons_succ, i64_w, i32_w]
             rfl
            refine pure_ (i := 2) (N := some 52) (v := ?_) (a' := ?_) #[true, false, true, false, false, false, false, false, false, false, false] rfl rfl (any_of HT_.out (by kernel_rfl)) (fun _ _ _ h => h) (Or.inl ⟨by rfl, ?_⟩) ?_ ?_
            rotate_left
            ·intro w'
             go_simp
             with_reducible rfl
            rotate_left
            ·simp only [Act.put, List.setIfInBounds_toArray, List.set_cons_zero, List.set_cons_succ, i64_w, i32_w]
             rfl
            refine pure_ (i := 4) (N := some 54) (v := ?_) (a' := ?_) #[true, false, true, false, true, false, false, false, false, false, false] rfl rfl (any_of HT_.out (by kernel_rfl)) (fun _ _ _ h => h) (Or.inl ⟨by rfl, ?_⟩) ?_ ?_
            rotate_left
            ·intro w'
             go_simp
             with_reducible rfl
            rotate_left
            ·simp only [Act.put, List.setIfInBounds_toArray, List.set_cons_zero, List.set_cons_succ, i64_w, i32_w]
             rfl
            refine take_ (i := 1) (N := some 51) (v := ?_) (a' := ?_) #[true, true, true, false, true, false, false, false, false, false, false] rfl rfl (take_ofW HT_.out HW_.out (by kernel_rfl)) (fun _ _ _ h => h) (Or.inl ⟨by rfl, ?_⟩) hHeld ?_ ?_
            rotate_left
            ·rintro w' ⟨s0, s1, s2, s3, s4, s5, s6, s7, s8, s9, s10, s11, s12, s13, s14, s15⟩
             go_simp
             with_reducible rfl
            rotate_left
            ·simp only [Act.put, List.setIfInBounds_toArray, List.set_cons_zero, List.set_cons_succ, i64_w, i32_w]
             rfl
            refine take_ (i := 3) (N := some 53) (v := ?_) (a' := ?_) #[true, true, true, true, true, false, false, false, false, false, false] rfl rfl (take_ofW HT_.out HW_.out (by kernel_rfl)) (fun _ _ _ h => h) (Or.inl ⟨by rfl, ?_⟩) hHeld ?_ ?_
            rotate_left
            ·rintro w' ⟨s0, s1, s2, s3, s4, s5, s6, s7, s8, s9, s10, s11, s12, s13, s14, s15⟩
             go_simp
             with_reducible rfl
            rotate_left
            ·simp only [Act.put, List.setIfInBounds_toArray, List.set_cons_zero, List.set_cons_succ, i64_w, i32_w]
             rfl
            refine pure_ (i := 5) (N := some 55) (v := ?_) (a' := ?_) #[true, true, true, true, true, true, false, false, false, false, false] rfl rfl (any_of HT_.out (by kernel_rfl)) (fun _ _ _ h => h) (Or.inl ⟨by rfl, ?_⟩) ?_ ?_
            rotate_left
            ·intro w'
             go_simp
             with_reducible rfl
            rotate_left
            ·simp only [Act.put, List.setIfInBounds_toArray, List.set_cons_zero, List.set_cons_succ, i64_w, i32_w]
             rfl
            refine take_ (i := 6) (N := some 56) (v := ?_) (a' := ?_) #[true, true, true, true, true, true, true, false, false, false, false] rfl rfl (take_ofW HT_.out HW_.out (by kernel_rfl)) (fun _ _ _ h => h) (Or.inl ⟨by rfl, ?_⟩) hHeld ?_ ?_
            rotate_left
            ·rintro w' ⟨s0, s1, s2, s3, s4, s5, s6, s7, s8, s9, s10, s11, s12, s13, s14, s15⟩
             go_simp
             with_reducible rfl
            rotate_left
            ·simp only [Act.put, List.setIfInBounds_toArray, List.set_cons_zero, List.set_cons_succ, i64_w, i32_w]
             rfl
            refine one_ (i := 7) (N := some 57) #[true, true, true, true, true, true, true, true, false, false, false] rfl rfl (one_of HT_.out (by kernel_rfl)) (by decide) (fun K hK => ?_)
            refine value_ (w1 := ?_) (v := ?_) (by rfl) rfl ?_ ?_
            rotate_left 2
            ·go_simp
             constructor
             ·rfl
             ·rfl
            refine hK.out _ _ ⟨(bqC (bqA BK427.out _) 0).trans rfl, (bqC (bqA BK427.out _) 1).trans rfl, (bqC (bqA BK427.out _) 2).trans rfl, (bqC (bqA BK423.out _) 0).trans rfl, (bqC (bqA BK423.out _) 1).trans rfl, (bqC (bqA BK423.out _) 2).trans rfl, (World.cell?_alloc_lt _ _ _ (World.block_lt_of_cell? _ _ (((HB.out.cell (World.block_lt_of_cell? w _ hw429_0)).trans hw429_0)))).trans (((HB.out.cell (World.block_lt_of_cell? w _ hw429_0)).trans hw429_0)), (World.cell?_alloc_lt _ _ _ (World.block_lt_of_cell? _ _ (((HB.out.cell (World.block_lt_of_cell? w _ hw429_1)).trans hw429_1)))).trans (((HB.out.cell (World.block_lt_of_cell? w _ hw429_1)).trans hw429_1)), (World.cell?_alloc_lt _ _ _ (World.block_lt_of_cell? _ _ (((HB.out.cell (World.block_lt_of_cell? w _ hw429_2)).trans hw429_2)))).trans (((HB.out.cell (World.block_lt_of_cell? w _ hw429_2)).trans hw429_2)), (World.cell?_alloc_lt _ _ _ (World.block_lt_of_cell? _ _ (((HB.out.cell (World.block_lt_of_cell? w _ hw429_3)).trans hw429_3)))).trans (((HB.out.cell (World.block_lt_of_cell? w _ hw429_3)).trans hw429_3)), (World.cell?_alloc_lt _ _ _ (World.block_lt_of_cell? _ _ (((HB.out.cell (World.block_lt_of_cell? w _ hw429_4)).trans hw429_4)))).trans (((HB.out.cell (World.block_lt_of_cell? w _ hw429_4)).trans hw429_4)), (World.cell?_alloc_lt _ _ _ (World.block_lt_of_cell? _ _ (((HB.out.cell (World.block_lt_of_cell? w _ hw429_5)).trans hw429_5)))).trans (((HB.out.cell (World.block_lt_of_cell? w _ hw429_5)).trans hw429_5)), (World.cell?_alloc_lt _ _ _ (World.block_lt_of_cell? _ _ (((HB.out.cell (World.block_lt_of_cell? w _ hw429_6)).trans hw429_6)))).trans (((HB.out.cell (World.block_lt_of_cell? w _ hw429_6)).trans hw429_6)), (World.cell?_alloc_lt _ _ _ (World.block_lt_of_cell? _ _ (((HB.out.cell (World.block_lt_of_cell? w _ hw429_7)).trans hw429_7)))).trans (((HB.out.cell (World.block_lt_of_cell? w _ hw429_7)).trans hw429_7)), (World.cell?_alloc_lt _ _ _ (World.block_lt_of_cell? _ _ (((HB.out.cell (World.block_lt_of_cell? w _ hw429_8)).trans hw429_8)))).trans (((HB.out.cell (World.block_lt_of_cell? w _ hw429_8)).trans hw429_8)), (World.cell?_alloc_lt _ _ _ (World.block_lt_of_cell? _ _ (((HB.out.cell (World.block_lt_of_cell? w _ hw429_9)).trans hw429_9)))).trans (((HB.out.cell (World.block_lt_of_cell? w _ hw429_9)).trans hw429_9))⟩ (fun hHeld => ?_)
            clear hK K
            refine norm_ (a' := ?_) ?_ ?_
            rotate_left
            ·show Act.put _ (some 57) _ = _
             simp only [Act.put, List.setIfInBounds_toArray, List.set_cons_zero, List.set_cons_succ, i64_w, i32_w]
             rfl
            refine one_ (i := 8) (N := some 58) #[true, true, true, true, true, true, true, true, true, false, false] rfl rfl (one_of HT_.out (by kernel_rfl)) (by decide) (fun K hK => ?_)
            refine Kd.R_append_step k33 (w0 := w) w.heap.size (by rfl) (.tmp 51) (.tmp 57) 22 33 (.agg #[(.int .i64 0), (.int .i64 0), (.int .i64 0), (.int .i64 0), (.int .i64 0), (.int .i64 0), (.int .i64 0), (.int .i64 0), (.int .i64 0), (.int .i64 0)]) 80 rfl Try.underlying22 info33 rfl (by decide) (by omega) u428002 x428002_2 (⟨(rd_T33 l0_2 x7_2).f0, (rd_T33 l0_2 x7_2).f1, (rd_T33 l0_2 x7_2).f2, (⟨(rd_T33 l0_2 x7_2).f3.f0, (rd_T33 l0_2 x7_2).f3.f1, (rd_T33 l0_2 x7_2).f3.f2, (rd_T33 l0_2 x7_2).f3.f3, (rd_T33 l0_2 x7_2).f3.f4, (rd_T33 l0_2 x7_2).f3.f5, (rd_T33 l0_2 x7_2).f3.f6⟩ : S26)⟩ : S33) [.int .i64 ((rd_T33 l0_2 x7_2).f0), .int .i64 ((rd_T33 l0_2 x7_2).f1), .int .i64 ((rd_T33 l0_2 x7_2).f2), .int .i64 ((rd_T33 l0_2 x7_2).f3.f0), .int .i64 ((rd_T33 l0_2 x7_2).f3.f1), .int .i64 ((rd_T33 l0_2 x7_2).f3.f2), .int .i64 ((rd_T33 l0_2 x7_2).f3.f3), .int .i64 ((rd_T33 l0_2 x7_2).f3.f4), .int .i64 ((rd_T33 l0_2 x7_2).f3.f5), .int .i64 ((rd_T33 l0_2 x7_2).f3.f6)] (fun _ => True) (fun _ => False) rfl rfl ?aP (fun _ hk => hk.elim) ?aF ?aO ?aB ?aS ?aL ?_
            (case aP => exact k33_mkM _ _ _ (⟨(rd_T33 l0_2 x7_2).f0, (rd_T33 l0_2 x7_2).f1, (rd_T33 l0_2 x7_2).f2, (⟨(rd_T33 l0_2 x7_2).f3.f0, (rd_T33 l0_2 x7_2).f3.f1, (rd_T33 l0_2 x7_2).f3.f2, (rd_T33 l0_2 x7_2).f3.f3, (rd_T33 l0_2 x7_2).f3.f4, (rd_T33 l0_2 x7_2).f3.f5, (rd_T33 l0_2 x7_2).f3.f6⟩ : S26)⟩ : S33))
            (case aB => exact (GS.lB HB.out))
            (case aF => exact (fun _ _ => trivial))
            (case aO => exact (GS.rR HO_428002.out))
            (case aS => exact (lqZ (GS.lB HB.out)))
            (case aL => have := LMc46.out; omega)
            intro v431 w53 ho hb hg hat
            rw [← Ny430.out] at ho
            have n0_ := Aside0.mk (blk_grown (GS.bqX BK423.out) hg (Kd.R_ne HO_428002.out BK423.out (by decide)))
            have n1_ := Aside0.mk (blk_grown (GS.bqX BK424.out) hg (Kd.R_ne HO_428002.out BK424.out (by decide)))
            have n2_ := Aside0.mk (blk_grown (GS.bqX BK425.out) hg (Kd.R_ne HO_428002.out BK425.out (by decide)))
            have n3_ := Aside0.mk (blk_grown (GS.bqX BK427.out) hg (Kd.R_ne HO_428002.out BK427.out (by decide)))
            have n4_ := Aside0.mk (hb)
            have n5_ := Aside0.mk (ho)
            clear BK423
            clear BK424
            clear BK425
            clear BK427
            clear HB
            clear HO_428002
            have BK423 := n0_
            have BK424 := n1_
            have BK425 := n2_
            have BK427 := n3_
            have HB := n4_
            have HO432 := n5_
            clear n0_ n1_ n2_ n3_ n4_ n5_
            clear ho hb hg hat
            obtain ⟨Ao54, co54, eo54⟩ := Kd.R_slice HO432.out
            (first | subst eo54 | (injection eo54 with f1_ f2_ f3_; have f4_ := f1_.symm; have f5_ := f3_.symm; clear f1_ f2_ f3_; subst f4_; subst f5_))
            refine hK.out _ _ ⟨(bqC BK427.out 0).trans rfl, (bqC BK427.out 1).trans rfl, (bqC BK427.out 2).trans rfl, (bqC BK423.out 0).trans rfl, (bqC BK423.out 1).trans rfl, (bqC BK423.out 2).trans rfl, ((HB.out.cell (World.block_lt_of_cell? w _ hw429_0)).trans hw429_0), ((HB.out.cell (World.block_lt_of_cell? w _ hw429_1)).trans hw429_1), ((HB.out.cell (World.block_lt_of_cell? w _ hw429_2)).trans hw429_2), ((HB.out.cell (World.block_lt_of_cell? w _ hw429_3)).trans hw429_3), ((HB.out.cell (World.block_lt_of_cell? w _ hw429_4)).trans hw429_4), ((HB.out.cell (World.block_lt_of_cell? w _ hw429_5)).trans hw429_5), ((HB.out.cell (World.block_lt_of_cell? w _ hw429_6)).trans hw429_6), ((HB.out.cell (World.block_lt_of_cell? w _ hw429_7)).trans hw429_7), ((HB.out.cell (World.block_lt_of_cell? w _ hw429_8)).trans hw429_8), ((HB.out.cell (World.block_lt_of_cell? w _ hw429_9)).trans hw429_9)⟩ (fun hHeld => ?_)
            clear hK K
            refine norm_ (a' := ?_) ?_ ?_
            rotate_left
            ·show Act.put _ (some 58) _ = _
             simp only [Act.put, List.setIfInBounds_toArray, List.set_cons_zero, List.set_cons_succ, i64_w, i32_w]
             rfl
            refine pure_ (i := 9) (N := some 59) (v := ?_) (a' := ?_) #[true, true, true, true, true, true, true, true, true, true, false] rfl rfl (any_of HT_.out (by kernel_rfl)) (fun _ _ _ h => h) (Or.inl ⟨by rfl, ?_⟩) ?_ ?_
            rotate_left
            ·intro w'
             go_simp
             with_reducible rfl
            rotate_left
            ·simp only [Act.put, List.setIfInBounds_toArray, List.set_cons_zero, List.set_cons_succ, i64_w, i32_w]
             rfl
            refine last_ (i := 10) (N := none) #[true, true, true, true, true, true, true, true, true, true, true] rfl rfl (one_of HT_.out (by kernel_rfl)) (by decide) (fun K hK => ?_)
            have hs55 : w53.cell? ⟨gb427, 2, none⟩ = some (u428002) := (bqC BK427.out 2).trans rfl
            have hfs55 := bqF BK427.out 2
            have hns55_0 := NB423_427.out
            have hns55_1 := NB424_427.out
            have hns55_2 := NB425_427.out
            have hms55_0 := NB427_423.out
            have hms55_1 := NB427_424.out
            have hms55_2 := NB427_425.out
            refine skip_ (w1 := ?_) (by rfl) rfl ?_ ?_
            rotate_left
            ·go_simp
             rfl
            refine hK.out _ _ ?_
            clear hK K
            refine done_ (done_of HT_.out (by kernel_rfl)) ?_
            try go_wp2
            go_roundg k2
            case measure => have := HJ5.out; have := HK2.out; omega
            case rel => exact ⟨(wrap64 (x7_2 + 1)), (y430), (.slice Ao54 y430.length co54), (by first | rfl | (simp; done) | (simp [*]; done)), H', ⟨by have := HJ5.out; have := HK2.out; omega⟩, ⟨by (with_reducible repeat (first | apply Kd.R_alloc | apply Kd.R_drewN | apply Kd.R_drew)); exact Kd.R_mono (Kd.R_far (p := ⟨gb427, 2, none⟩) (Kd.R_types HO432.out BK427.out (by decide)) (fun _ hk => hk.2) (.slice Ao54 y430.length co54)) (fun _ hk => trivial)⟩, ⟨GS.bqX BK423.out⟩, ⟨GS.bqX BK424.out⟩, ⟨GS.bqX BK425.out⟩, ⟨GS.bqZ BK427.out⟩, ⟨GS.lB HB.out⟩⟩
           ·rw [if_neg c46] at H
            exact absurd H (by simp)
         ·rw [if_neg c39] at H
          exact absurd H (by simp)
        ·rw [if_neg c38] at H
         have c38b0 : decide (x7_2 < (l0_2.length : Int)) = false := decide_eq_false c38
         clear c38
         simp only [Option.some.injEq, Prod.mk.injEq] at H
         obtain ⟨rfl, rfl, rfl, rfl⟩ := H
         have hnb56 := NB423_424.out
         have hnc56 := NB424_423.out
         have hnb57 := NB423_425.out
         have hnc57 := NB425_423.out
         have hnb58 := NB423_427.out
         have hnc58 := NB427_423.out
         obtain ⟨hcz59_0, hcz59_1, hcz59_2, hfz59_0, hfz59_1, hfz59_2⟩ := GS.c3 BK423.out
         have hnb60 := NB427_424.out
         have hnc60 := NB424_427.out
         have hnb61 := NB427_425.out
         have hnc61 := NB425_427.out
         obtain ⟨hcz62_0, hcz62_1, hcz62_2, hfz62_0, hfz62_1, hfz62_2⟩ := GS.c3 BK427.out
         have hnb63 := NB425_424.out
         have hnc63 := NB424_425.out
         obtain ⟨hcz64_0, hcz64_1, hcz64_2, hfz64_0, hfz64_1, hfz64_2⟩ := GS.c3 BK425.out
         obtain ⟨Ao65, co65, eo65⟩ := Kd.R_slice HO_428002.out
         subst eo65
         go_wp2
         refine bodyPost_ret (results_ct rfl _ _ gb425 24 #[.int .i64 a0_0, .int .i64 a0_1, .slice Ao65 x428002_2.length co65] (0, 0) _ rfl (GS.bqZ BK425.out) Try.underlying24 rfl (by kernel_rfl)) rfl ?_
         exact ⟨_, by first | rfl | (simp [errW_none, errW_some] <;> rfl) | (simp [*, errW_none, errW_some] <;> rfl), by (with_reducible repeat (first | apply Kd.R_alloc | apply Kd.R_drewN | apply Kd.R_drew)); exact Kd.R_mono (Kd.R_far (p := ⟨gb425, 2, none⟩) (Kd.R_far (p := ⟨gb425, 1, none⟩) (Kd.R_far (p := ⟨gb425, 0, none⟩) (Kd.R_types HO_428002.out BK425.out (by decide)) (fun _ hk => hk.2) (.int .i64 a0_0)) (fun _ hk => hk.2) (.int .i64 a0_1)) (fun _ hk => hk.2) (.slice Ao65 x428002_2.length co65)) (fun _ hk => trivial), GS.lB HB.out⟩
  ·rw [if_neg c5] at H
   have c5b0 : (a1_0 == a0_0) = false := beq_eq_false_iff_ne.mpr c5
   try simp only [beq_self_eq_true, Bool.not_true, Bool.false_or, Bool.true_and] at c5b0
   have c5b1 : (a1_0 != a0_0) = true := bne_iff_ne.mpr c5
   simp only [Option.some.injEq, Prod.mk.injEq] at H
   obtain ⟨rfl, rfl, rfl, rfl⟩ := H
   go_enter Try.func29, Try.ntmps29
   go_wp2_with (first | ((with_reducible refine gqD (N := 2) rfl ?_); refine GS.bx (N := 2) (cs := #[.int .i64 a0_0, .int .i64 a0_1, .slice A0_2 l0_2.length c0_2]) (t := 24) ?_; intro gb423 hg w66 hbox hb; have n0_ := Aside0.mk (lqT (GS.lB HB.out) hb); have n1_ := Aside0.mk (hbox); have n2_ := Aside0.mk ((by rw [hg]; exact (lqZ (GS.lB HB.out)) : w.heap.size ≤ gb423)); have n3_ := Aside0.mk ((by rw [hg]; exact (lqZ (GS.lB HB.out)) : w.heap.size ≤ gb423)); clear HB; have HB := n0_; have BK423 := n1_; have GW423 := n2_; have GE423 := n3_; clear n0_ n1_ n2_ n3_; clear hb hbox hg) | ((with_reducible refine gqD (N := 3) rfl ?_); refine GS.bx (N := 3) (cs := #[.int .i64 a1_0, .int .i64 a1_1]) (t := 44) ?_; intro gb424 hg w67 hbox hb; have n0_ := Aside0.mk (bqB (GS.bqX BK423.out) hb); have n1_ := Aside0.mk (lqT (GS.lB HB.out) hb); have n2_ := Aside0.mk (hbox); have n3_ := Aside0.mk ((by rw [hg]; exact (lqZ (GS.lB HB.out)) : w.heap.size ≤ gb424)); have n4_ := Aside0.mk ((by rw [hg]; exact (lqZ (GS.lB HB.out)) : w.heap.size ≤ gb424)); have n5_ := Aside0.mk ((by rw [hg]; exact Nat.ne_of_lt (blk_lt (GS.bqX BK423.out)) : gb423 ≠ gb424)); have n6_ := Aside0.mk ((by rw [hg]; exact Nat.ne_of_gt (blk_lt (GS.bqX BK423.out)) : gb424 ≠ gb423)); clear BK423; clear HB; have BK423 := n0_; have HB := n1_; have BK424 := n2_; have GW424 := n3_; have GE424 := n4_; have NB423_424 := n5_; have NB424_423 := n6_; clear n0_ n1_ n2_ n3_ n4_ n5_ n6_; clear hb hbox hg) | ((with_reducible refine gqD (N := 4) rfl ?_); refine GS.bx (N := 4) (cs := #[.int .i64 0, .int .i64 0, .slice none 0 0]) (t := 24) ?_; intro gb425 hg w68 hbox hb; have n0_ := Aside0.mk (bqB (GS.bqX BK423.out) hb); have n1_ := Aside0.mk (bqB (GS.bqX BK424.out) hb); have n2_ := Aside0.mk (lqT (GS.lB HB.out) hb); have n3_ := Aside0.mk (hbox); have n4_ := Aside0.mk ((by rw [hg]; exact (lqZ (GS.lB HB.out)) : w.heap.size ≤ gb425)); have n5_ := Aside0.mk ((by rw [hg]; exact (lqZ (GS.lB HB.out)) : w.heap.size ≤ gb425)); have n6_ := Aside0.mk ((by rw [hg]; exact Nat.ne_of_lt (blk_lt (GS.bqX BK423.out)) : gb423 ≠ gb425)); have n7_ := Aside0.mk ((by rw [hg]; exact Nat.ne_of_gt (blk_lt (GS.bqX BK423.out)) : gb425 ≠ gb423)); have n8_ := Aside0.mk ((by rw [hg]; exact Nat.ne_of_lt (blk_lt (GS.bqX BK424.out)) : gb424 ≠ gb425)); have n9_ := Aside0.mk ((by rw [hg]; exact Nat.ne_of_gt (blk_lt (GS.bqX BK424.out)) : gb425 ≠ gb424)); clear BK423; clear BK424; clear HB; have BK423 := n0_; have BK424 := n1_; have HB := n2_; have BK425 := n3_; have GW425 := n4_; have GE425 := n5_; have NB423_425 := n6_; have NB425_423 := n7_; have NB424_425 := n8_; have NB425_424 := n9_; clear n0_ n1_ n2_ n3_ n4_ n5_ n6_ n7_ n8_ n9_; clear hb hbox hg; have hnb69 := NB423_424.out; have hnc69 := NB424_423.out; have hnb70 := NB423_425.out; have hnc70 := NB425_423.out; obtain ⟨hcz71_0, hcz71_1, hcz71_2, hfz71_0, hfz71_1, hfz71_2⟩ := GS.c3 BK423.out) | ((with_reducible refine gqC (f := 18) rfl ?_); refine GS.gL (some 9) Try.func18 #[.agg #[.int .i64 a0_0, .int .i64 a0_1, .slice A0_2 l0_2.length c0_2]] ?_; (with_reducible refine (spileref42_Check.calls k a0_0 a0_1 _ _ l0_2 t426 _ ?side1 ?side2 A3.out).mono ?_); (case side1 => exact GS.rC (Kd.C_below HR0_2.out HB.out)); (case side2 => exact HC0_2.out); rintro e w72 ⟨rfl, hb⟩; refine ⟨_, rfl, ?_⟩; have n0_ := Aside0.mk (bqB (GS.bqX BK423.out) hb); have n1_ := Aside0.mk (bqB (GS.bqX BK424.out) hb); have n2_ := Aside0.mk (bqB (GS.bqX BK425.out) hb); have n3_ := Aside0.mk (lqT (GS.lB HB.out) hb); clear BK423; clear BK424; clear BK425; clear HB; have BK423 := n0_; have BK424 := n1_; have BK425 := n2_; have HB := n3_; clear n0_ n1_ n2_ n3_; (try clear hb); (try clear hb2); (try clear hk); (try clear hi); have hnb73 := NB424_425.out; have hnc73 := NB425_424.out; obtain ⟨hcz74_0, hcz74_1, hfz74_0, hfz74_1⟩ := GS.c2 BK424.out; obtain ⟨hcz75_0, hcz75_1, hcz75_2, hfz75_0, hfz75_1, hfz75_2⟩ := GS.c3 BK423.out; obtain ⟨hcz76_0, hcz76_1, hcz76_2, hfz76_0, hfz76_1, hfz76_2⟩ := GS.c3 BK425.out))
   refine bodyPost_ret (results_ct rfl _ _ gb425 24 #[.int .i64 0, .int .i64 0, .slice none 0 0] (0, 0) _ rfl (GS.bqZ BK425.out) Try.underlying24 rfl (by kernel_rfl)) rfl ?_
   exact ⟨_, by first | rfl | (simp [errW_none, errW_some] <;> rfl) | (simp [*, errW_none, errW_some] <;> rfl), by first | exact Kd.R_nil _ _ _ _ _ | exact Kd.N_nil _ _ _ _ _ | exact Kd.V_nil _ _ _ _ _ | exact Kd.Q_nil _ _ _ _ _ | exact Kd.S_nil _ _ _ _ _, GS.lB HB.out⟩
 ·rw [if_neg c4] at H
  have c4b0 : (t426 == 0) = false := beq_eq_false_iff_ne.mpr c4
  try simp only [beq_self_eq_true, Bool.not_true, Bool.false_or, Bool.true_and] at c4b0
  have c4b1 : (t426 != 0) = true := bne_iff_ne.mpr c4
  simp only [Option.some.injEq, Prod.mk.injEq] at H
  obtain ⟨rfl, rfl, rfl, rfl⟩ := H
  go_enter Try.func29, Try.ntmps29
  go_wp2_with (first | ((with_reducible refine gqD (N := 2) rfl ?_); refine GS.bx (N := 2) (cs := #[.int .i64 a0_0, .int .i64 a0_1, .slice A0_2 l0_2.length c0_2]) (t := 24) ?_; intro gb423 hg w77 hbox hb; have n0_ := Aside0.mk (lqT (GS.lB HB.out) hb); have n1_ := Aside0.mk (hbox); have n2_ := Aside0.mk ((by rw [hg]; exact (lqZ (GS.lB HB.out)) : w.heap.size ≤ gb423)); have n3_ := Aside0.mk ((by rw [hg]; exact (lqZ (GS.lB HB.out)) : w.heap.size ≤ gb423)); clear HB; have HB := n0_; have BK423 := n1_; have GW423 := n2_; have GE423 := n3_; clear n0_ n1_ n2_ n3_; clear hb hbox hg) | ((with_reducible refine gqD (N := 3) rfl ?_); refine GS.bx (N := 3) (cs := #[.int .i64 a1_0, .int .i64 a1_1]) (t := 44) ?_; intro gb424 hg w78 hbox hb; have n0_ := Aside0.mk (bqB (GS.bqX BK423.out) hb); have n1_ := Aside0.mk (lqT (GS.lB HB.out) hb); have n2_ := Aside0.mk (hbox); have n3_ := Aside0.mk ((by rw [hg]; exact (lqZ (GS.lB HB.out)) : w.heap.size ≤ gb424)); have n4_ := Aside0.mk ((by rw [hg]; exact (lqZ (GS.lB HB.out)) : w.heap.size ≤ gb424)); have n5_ := Aside0.mk ((by rw [hg]; exact Nat.ne_of_lt (blk_lt (GS.bqX BK423.out)) : gb423 ≠ gb424)); have n6_ := Aside0.mk ((by rw [hg]; exact Nat.ne_of_gt (blk_lt (GS.bqX BK423.out)) : gb424 ≠ gb423)); clear BK423; clear HB; have BK423 := n0_; have HB := n1_; have BK424 := n2_; have GW424 := n3_; have GE424 := n4_; have NB423_424 := n5_; have NB424_423 := n6_; clear n0_ n1_ n2_ n3_ n4_ n5_ n6_; clear hb hbox hg) | ((with_reducible refine gqD (N := 4) rfl ?_); refine GS.bx (N := 4) (cs := #[.int .i64 0, .int .i64 0, .slice none 0 0]) (t := 24) ?_; intro gb425 hg w79 hbox hb; have n0_ := Aside0.mk (bqB (GS.bqX BK423.out) hb); have n1_ := Aside0.mk (bqB (GS.bqX BK424.out) hb); have n2_ := Aside0.mk (lqT (GS.lB HB.out) hb); have n3_ := Aside0.mk (hbox); have n4_ := Aside0.mk ((by rw [hg]; exact (lqZ (GS.lB HB.out)) : w.heap.size ≤ gb425)); have n5_ := Aside0.mk ((by rw [hg]; exact (lqZ (GS.lB HB.out)) : w.heap.size ≤ gb425)); have n6_ := Aside0.mk ((by rw [hg]; exact Nat.ne_of_lt (blk_lt (GS.bqX BK423.out)) : gb423 ≠ gb425)); have n7_ := Aside0.mk ((by rw [hg]; exact Nat.ne_of_gt (blk_lt (GS.bqX BK423.out)) : gb425 ≠ gb423)); have n8_ := Aside0.mk ((by rw [hg]; exact Nat.ne_of_lt (blk_lt (GS.bqX BK424.out)) : gb424 ≠ gb425)); have n9_ := Aside0.mk ((by rw [hg]; exact Nat.ne_of_gt (blk_lt (GS.bqX BK424.out)) : gb425 ≠ gb424)); clear BK423; clear BK424; clear HB; have BK423 := n0_; have BK424 := n1_; have HB := n2_; have BK425 := n3_; have GW425 := n4_; have GE425 := n5_; have NB423_425 := n6_; have NB425_423 := n7_; have NB424_425 := n8_; have NB425_424 := n9_; clear n0_ n1_ n2_ n3_ n4_ n5_ n6_ n7_ n8_ n9_; clear hb hbox hg; have hnb80 := NB423_424.out; have hnc80 := NB424_423.out; have hnb81 := NB423_425.out; have hnc81 := NB425_423.out; obtain ⟨hcz82_0, hcz82_1, hcz82_2, hfz82_0, hfz82_1, hfz82_2⟩ := GS.c3 BK423.out) | ((with_reducible refine gqC (f := 18) rfl ?_); refine GS.gL (some 9) Try.func18 #[.agg #[.int .i64 a0_0, .int .i64 a0_1, .slice A0_2 l0_2.length c0_2]] ?_; (with_reducible refine (spileref42_Check.calls k a0_0 a0_1 _ _ l0_2 t426 _ ?side1 ?side2 A3.out).mono ?_); (case side1 => exact GS.rC (Kd.C_below HR0_2.out HB.out)); (case side2 => exact HC0_2.out); rintro e w83 ⟨rfl, hb⟩; refine ⟨_, rfl, ?_⟩; have n0_ := Aside0.mk (bqB (GS.bqX BK423.out) hb); have n1_ := Aside0.mk (bqB (GS.bqX BK424.out) hb); have n2_ := Aside0.mk (bqB (GS.bqX BK425.out) hb); have n3_ := Aside0.mk (lqT (GS.lB HB.out) hb); clear BK423; clear BK424; clear BK425; clear HB; have BK423 := n0_; have BK424 := n1_; have BK425 := n2_; have HB := n3_; clear n0_ n1_ n2_ n3_; (try clear hb); (try clear hb2); (try clear hk); (try clear hi); have hnb84 := NB425_424.out; have hnc84 := NB424_425.out; obtain ⟨hcz85_0, hcz85_1, hcz85_2, hfz85_0, hfz85_1, hfz85_2⟩ := GS.c3 BK425.out))
  refine bodyPost_ret (results_ct rfl _ _ gb425 24 #[.int .i64 0, .int .i64 0, .slice none 0 0] (0, 0) _ rfl (GS.bqZ BK425.out) Try.underlying24 rfl (by kernel_rfl)) rfl ?_
  exact ⟨_, by first | rfl | (simp [errW_none, errW_some] <;> rfl) | (simp [*, errW_none, errW_some] <;> rfl), by first | exact Kd.R_nil _ _ _ _ _ | exact Kd.N_nil _ _ _ _ _ | exact Kd.V_nil _ _ _ _ _ | exact Kd.Q_nil _ _ _ _ _ | exact Kd.S_nil _ _ _ _ _, GS.lB HB.out⟩

end Go.Proofs.Ytfafeeobjlkjnaa.K
-- PRINTED by print.py (a twelfth state) out of the translation. Not trusted: Lean checks it.
namespace Go.Proofs.Ytfafeeobjlkjnaa.K
open Go.RowKit Go.Proofs.YtfafeeobjlkjnaaW.PrintWords Go.Proofs.YtfafeeobjlkjnaaW.PrintLast Go.Proofs.YtfafeeobjlkjnaaW.PrintMore
attribute [local go_sem] max2_int min2_int max_two min_two max_three min_three max_four min_four   -- for this text's walks alone
set_option linter.unusedVariables false
set_option linter.unusedSimpArgs false

/-! ### spileref42_Again: function 31 -/
def spileref42_Again.l0 : Nat → Int → List (S33) → Int → Int → Int → List (S33) → Option ((List (S33)) × Int)
 | 0, _, _, _, _, _, _ => none
 | k + 1, x1, x6, x7, x434000, x434001, x434002 => if x7 < (x434002.length : Int) then (if 0 ≤ x7 then (if ((rd_T33 x434002 x7).f1) = x1 then (if x6.length < 1759218604441 then (spileref42_Again.l0 k x1 (x6 ++ [(⟨(rd_T33 x434002 x7).f0, (rd_T33 x434002 x7).f1, (rd_T33 x434002 x7).f2, (⟨(rd_T33 x434002 x7).f3.f0, (rd_T33 x434002 x7).f3.f1, (rd_T33 x434002 x7).f3.f2, (rd_T33 x434002 x7).f3.f3, (rd_T33 x434002 x7).f3.f4, (rd_T33 x434002 x7).f3.f5, (rd_T33 x434002 x7).f3.f6⟩ : S26)⟩ : S33)]) (wrap64 (x7 + 1)) x434000 x434001 x434002) else (none)) else (spileref42_Again.l0 k x1 x6 (wrap64 (x7 + 1)) x434000 x434001 x434002)) else (none)) else (some (x6, 0))
def spileref42_Again.f (k : Nat) (a0_0 : Int) (a0_1 : Int) (l0_2 : List (S33)) (a1 : Int) : Option ((List (S33)) × Int) := (spileref42_Check.f k a0_0 a0_1 l0_2).bind fun t434 => (if t434 = 0 then ((spileref40_Node.f a1).bind fun t435 => (if t435 = true then (spileref42_Again.l0 k a1 (([] : List (S33))) 0 a0_0 a0_1 l0_2) else (some (([] : List (S33)), 2)))) else (some (([] : List (S33)), 1)))
theorem spileref42_Again.mono_l : ∀ k, (∀ y0 y1 y2 y3 y4 y5, LeO (spileref42_Again.l0 k y0 y1 y2 y3 y4 y5) (spileref42_Again.l0 (k + 1) y0 y1 y2 y3 y4 y5))
 | 0 => fun _ _ _ _ _ _ r h => by simp [spileref42_Again.l0] at h
 | k + 1 => by
  have ih0 := spileref42_Again.mono_l k
  ·intro y0 y1 y2 y3 y4 y5
   unfold spileref42_Again.l0
   repeat' first
   | (with_reducible exact ih0 _ _ _ _ _ _)
   | (with_reducible exact spileref42_Check.mono _ _ _ _)
   | (with_reducible exact LeO.refl _)
   | (with_reducible exact LeO.none _)
   | (with_reducible refine LeO.ite ?_ ?_)
   | (with_reducible refine LeO.bind ?_ (fun _ => ?_))
   | exact ih0 _ _ _ _ _ _
   | exact spileref42_Check.mono _ _ _ _
   | exact LeO.none _
   | refine LeO.ite ?_ ?_
   | refine LeO.bind ?_ (fun _ => ?_)
theorem spileref42_Again.mono : ∀ a0 a1 a2 a3 k, LeO (spileref42_Again.f k a0 a1 a2 a3) (spileref42_Again.f (k + 1) a0 a1 a2 a3) := by
 intro a0 a1 a2 a3 k
 have ih0 := spileref42_Again.mono_l k
 unfold spileref42_Again.f
 repeat' first
   | (with_reducible exact ih0 _ _ _ _ _ _)
   | (with_reducible exact spileref42_Check.mono _ _ _ _)
   | (with_reducible exact LeO.refl _)
   | (with_reducible exact LeO.none _)
   | (with_reducible refine LeO.ite ?_ ?_)
   | (with_reducible refine LeO.bind ?_ (fun _ => ?_))
   | exact ih0 _ _ _ _ _ _
   | exact spileref42_Check.mono _ _ _ _
   | exact LeO.none _
   | refine LeO.ite ?_ ?_
   | refine LeO.bind ?_ (fun _ => ?_)
set_option maxHeartbeats 8000000 in
set_option maxRecDepth 100000 in
theorem spileref42_Again.calls (k : Nat) (a0_0 : Int) (a0_1 : Int) (A0_2 : Option Addr) (c0_2 : Nat) (l0_2 : List (S33)) (a1 : Int) (r1 : List (S33)) (r2 : Int) (w : World) (hr0_2 : Kd.C k33 w A0_2 l0_2.length l0_2) (hc0_2 : l0_2.length ≤ c0_2) (h : spileref42_Again.f k a0_0 a0_1 l0_2 a1 = some (r1, r2)) :
  Calls Try.prog 31 #[.agg #[.int .i64 a0_0, .int .i64 a0_1, .slice A0_2 l0_2.length c0_2], .int .i64 a1] w fun e w' => ∃ v0_ : Value, e = .returned (.tuple #[v0_, .int .i64 r2]) ∧ Kd.R k33 33 w' w.heap.size (fun _ => True) v0_ r1 ∧ Below w.heap.size w w' := by
 have hu24 := Try.underlying24
 have hu33 := Try.underlying33
 have HR0_2 := Aside0.mk hr0_2
 have HC0_2 := Aside0.mk hc0_2
 clear hr0_2 hc0_2
 have HB := Aside0.mk (Below.refl w.heap.size w)
 have H : ((spileref42_Check.f k a0_0 a0_1 l0_2).bind fun t434 => (if t434 = 0 then ((spileref40_Node.f a1).bind fun t435 => (if t435 = true then (spileref42_Again.l0 k a1 (([] : List (S33))) 0 a0_0 a0_1 l0_2) else (some (([] : List (S33)), 2)))) else (some (([] : List (S33)), 1)))) = some (r1, r2) := h
 clear h
 replace H := Option.bind_eq_some_iff.mp H
 obtain ⟨t434, A30, H⟩ := H
 replace H : (if t434 = 0 then ((spileref40_Node.f a1).bind fun t435 => (if t435 = true then (spileref42_Again.l0 k a1 (([] : List (S33))) 0 a0_0 a0_1 l0_2) else (some (([] : List (S33)), 2)))) else (some (([] : List (S33)), 1))) = some (r1, r2) := H
 have A3 := Aside0.mk A30
 clear A30
 by_cases c4 : t434 = 0
 ·rw [if_pos c4] at H
  have c4b0 : (t434 == 0) = true := beq_iff_eq.mpr c4
  try simp only [beq_self_eq_true, Bool.not_true, Bool.false_or, Bool.true_and] at c4b0
  have c4b1 : (t434 != 0) = false := bne_eq_false_iff_eq.mpr c4
  clear c4
  replace H := Option.bind_eq_some_iff.mp H
  obtain ⟨t435, A50, H⟩ := H
  replace H : (if t435 = true then (spileref42_Again.l0 k a1 (([] : List (S33))) 0 a0_0 a0_1 l0_2) else (some (([] : List (S33)), 2))) = some (r1, r2) := H
  have A5 := Aside0.mk A50
  clear A50
  by_cases c6 : t435 = true
  ·subst c6
   have H1 : (spileref42_Again.l0 k a1 (([] : List (S33))) 0 a0_0 a0_1 l0_2) = some (r1, r2) := by rw [if_pos rfl] at H; exact H
   clear H
   have H := H1
   clear H1
   obtain ⟨y436, hy436⟩ : ∃ y_ : List (S33), y_ = (([] : List (S33))) := ⟨_, rfl⟩
   replace H : (spileref42_Again.l0 k a1 y436 0 a0_0 a0_1 l0_2) = some (r1, r2) := by first | (rw [hy436]; with_reducible exact H) | (have H2_ := (Option.bind_some _ _).symm.trans H; rw [hy436]; with_reducible exact H2_) | (have H2_ := (Option.bind_some _ _).symm.trans H; with_reducible exact H2_) | with_reducible exact H | (rw [hy436]; exact H) | exact H
   have Ny436 := Aside0.mk hy436
   clear hy436
   have H' := Aside0.mk H
   clear H
   go_enter Try.func31, Try.ntmps31
   go_wp2_with (first | ((with_reducible refine gqD (N := 2) rfl ?_); refine GS.bx (N := 2) (cs := #[.int .i64 a0_0, .int .i64 a0_1, .slice A0_2 l0_2.length c0_2]) (t := 24) ?_; intro gb433 hg w7 hbox hb; have n0_ := Aside0.mk (lqT (GS.lB HB.out) hb); have n1_ := Aside0.mk (hbox); have n2_ := Aside0.mk ((by rw [hg]; exact (lqZ (GS.lB HB.out)) : w.heap.size ≤ gb433)); have n3_ := Aside0.mk ((by rw [hg]; exact (lqZ (GS.lB HB.out)) : w.heap.size ≤ gb433)); clear HB; have HB := n0_; have BK433 := n1_; have GW433 := n2_; have GE433 := n3_; clear n0_ n1_ n2_ n3_; clear hb hbox hg; obtain ⟨hcz8_0, hcz8_1, hcz8_2, hfz8_0, hfz8_1, hfz8_2⟩ := GS.c3 BK433.out) | ((with_reducible refine gqC (f := 18) rfl ?_); refine GS.gL (some 9) Try.func18 #[.agg #[.int .i64 a0_0, .int .i64 a0_1, .slice A0_2 l0_2.length c0_2]] ?_; (with_reducible refine (spileref42_Check.calls k a0_0 a0_1 _ _ l0_2 t434 _ ?side1 ?side2 A3.out).mono ?_); (case side1 => exact GS.rC (Kd.C_below HR0_2.out HB.out)); (case side2 => exact HC0_2.out); rintro e w9 ⟨rfl, hb⟩; refine ⟨_, rfl, ?_⟩; have n0_ := Aside0.mk (bqB (GS.bqX BK433.out) hb); have n1_ := Aside0.mk (lqT (GS.lB HB.out) hb); clear BK433; clear HB; have BK433 := n0_; have HB := n1_; clear n0_ n1_; (try clear hb); (try clear hb2); (try clear hk); (try clear hi)) | ((with_reducible refine gqC (f := 41) rfl ?_); refine GS.gL (some 12) Try.func41 #[.int .i64 a1] ?_; (with_reducible refine (spileref40_Node.calls a1 true _ A5.out).mono ?_); rintro e w' ⟨rfl, ⟨nd, rfl⟩⟩; refine ⟨_, rfl, ?_⟩) | ((with_reducible refine gqD (N := 14) rfl ?_); refine Kd.R_lit k33 _ 33 ?hg (N := 14) ?hd (xs := ([] : List (S33))) (inner := []) (ok := fun _ => True) (okp := fun _ => True) ?hr ?hp (fun _ hk => hk) trivial (Below.refl _ _) (Nat.le_refl _) (by simp) ?_; (case hd => rfl); (case hg => rfl); (case hr => first | (go_simp; done) | (go_simp; rfl)); (case hp => exact (Reps.none _ _)); intro v437 w10 ho11 hb hg_ hnew_; clear hg_ hnew_; (first | rw [← Ny436.out] at ho11 | (simp only [Int.reduceToNat] at ho11; rw [← Ny436.out] at ho11)); have n0_ := Aside0.mk (Kd.R_lower ho11 (lqZ (GS.lB HB.out))); have n1_ := Aside0.mk (bqB (GS.bqX BK433.out) hb); have n2_ := Aside0.mk (lqT (GS.lB HB.out) hb); clear BK433; clear HB; have HO438 := n0_; have BK433 := n1_; have HB := n2_; clear n0_ n1_ n2_; clear hb ho11))
   go_loopg [6, 7] k (fun kq v6 v7 w' => ∃ (x6_1 : List (S33)) (x7_1 : Int), v7 = .int .i64 x7_1 ∧ Aside0 (spileref42_Again.l0 kq a1 x6_1 x7_1 a0_0 a0_1 l0_2 = some (r1, r2)) ∧ Aside0 (kq ≤ k) ∧ Aside0 (Kd.R k33 33 w' w.heap.size (fun _ => True) v6 x6_1) ∧ Aside0 (w'.heap[gb433]? = some (.cells #[.int .i64 a0_0, .int .i64 a0_1, (.slice A0_2 l0_2.length c0_2)] 24 (0, 0))) ∧ Aside0 (Below w.heap.size w w'))
   case atStart => exact ⟨(y436), (0), (by first | rfl | (simp; done) | (simp [*]; done)), H', ⟨Nat.le_refl _⟩, ⟨by (with_reducible repeat (first | apply Kd.R_alloc | apply Kd.R_drewN | apply Kd.R_drew)); exact HO438.out⟩, ⟨GS.bqX BK433.out⟩, ⟨GS.lB HB.out⟩⟩
   case round =>
    clear H'
    try clear c1
    try clear p2
    try clear c3
    try clear c4
    try clear c4b0
    try clear c4b1
    try clear c6
    try clear hcz8_0
    try clear hcz8_1
    try clear hcz8_2
    try clear hfz8_0
    try clear hfz8_1
    try clear hfz8_2
    obtain ⟨x6_1, x7_1, rfl, HA, HK1, HO_6, BK433, HB⟩ := hrel
    cases gk with
    | zero => exact absurd HA.out (by simp [spileref42_Again.l0])
    | succ k1 =>
     have H := HA.out
     clear HA
     simp only [spileref42_Again.l0] at H
     by_cases c12 : x7_1 < (l0_2.length : Int)
     ·rw [if_pos c12] at H
      have c12b0 : decide (x7_1 < (l0_2.length : Int)) = true := decide_eq_true c12
      clear c12
      by_cases c13 : 0 ≤ x7_1
      ·rw [if_pos c13] at H
       have c13b0 : decide (0 ≤ x7_1) = true := decide_eq_true c13
       clear c13
       by_cases c14 : ((rd_T33 l0_2 x7_1).f1) = a1
       ·rw [if_pos c14] at H
        have c14b0 : (((rd_T33 l0_2 x7_1).f1) == a1) = true := beq_iff_eq.mpr c14
        try simp only [beq_self_eq_true, Bool.not_true, Bool.false_or, Bool.true_and] at c14b0
        have c14b1 : (((rd_T33 l0_2 x7_1).f1) != a1) = false := bne_eq_false_iff_eq.mpr c14
        clear c14
        by_cases c15 : x6_1.length < 1759218604441
        ·rw [if_pos c15] at H
         have LMc15 := Aside0.mk c15
         clear c15
         obtain ⟨y441, hy441⟩ : ∃ y_ : List (S33), y_ = (x6_1 ++ [(⟨(rd_T33 l0_2 x7_1).f0, (rd_T33 l0_2 x7_1).f1, (rd_T33 l0_2 x7_1).f2, (⟨(rd_T33 l0_2 x7_1).f3.f0, (rd_T33 l0_2 x7_1).f3.f1, (rd_T33 l0_2 x7_1).f3.f2, (rd_T33 l0_2 x7_1).f3.f3, (rd_T33 l0_2 x7_1).f3.f4, (rd_T33 l0_2 x7_1).f3.f5, (rd_T33 l0_2 x7_1).f3.f6⟩ : S26)⟩ : S33)]) := ⟨_, rfl⟩
         replace H : (spileref42_Again.l0 k1 a1 y441 (wrap64 (x7_1 + 1)) a0_0 a0_1 l0_2) = some (r1, r2) := by first | (rw [hy441]; with_reducible exact H) | (have H2_ := (Option.bind_some _ _).symm.trans H; rw [hy441]; with_reducible exact H2_) | (have H2_ := (Option.bind_some _ _).symm.trans H; with_reducible exact H2_) | with_reducible exact H | (rw [hy441]; exact H) | exact H
         have Ny441 := Aside0.mk hy441
         clear hy441
         have H' := Aside0.mk H
         clear H
         obtain ⟨hcz16_0, hcz16_1, hcz16_2, hfz16_0, hfz16_1, hfz16_2⟩ := GS.c3 BK433.out
         have p439 : 0 ≤ (x7_1 : Int) := of_decide_eq_true (by first | (with_reducible assumption) | assumption)
         have q439 : x7_1 < (l0_2.length : Int) := of_decide_eq_true (by first | (with_reducible assumption) | assumption)
         obtain ⟨ad439, e439, hx439_0, hx439_1, hx439_2, hx439_3, hx439_4, hx439_5, hx439_6, hx439_7, hx439_8, hx439_9⟩ := at_T33 HR0_2.out x7_1 p439 q439
         cases e439
         replace hx439_0 := (HB.out.cell (World.block_lt_of_cell? w _ hx439_0)).trans hx439_0
         replace hx439_1 := (HB.out.cell (World.block_lt_of_cell? w _ hx439_1)).trans hx439_1
         replace hx439_2 := (HB.out.cell (World.block_lt_of_cell? w _ hx439_2)).trans hx439_2
         replace hx439_3 := (HB.out.cell (World.block_lt_of_cell? w _ hx439_3)).trans hx439_3
         replace hx439_4 := (HB.out.cell (World.block_lt_of_cell? w _ hx439_4)).trans hx439_4
         replace hx439_5 := (HB.out.cell (World.block_lt_of_cell? w _ hx439_5)).trans hx439_5
         replace hx439_6 := (HB.out.cell (World.block_lt_of_cell? w _ hx439_6)).trans hx439_6
         replace hx439_7 := (HB.out.cell (World.block_lt_of_cell? w _ hx439_7)).trans hx439_7
         replace hx439_8 := (HB.out.cell (World.block_lt_of_cell? w _ hx439_8)).trans hx439_8
         replace hx439_9 := (HB.out.cell (World.block_lt_of_cell? w _ hx439_9)).trans hx439_9
         replace p439 := eq_true p439
         replace q439 := eq_true q439
         have p440 : 0 ≤ (x7_1 : Int) := of_decide_eq_true (by first | (with_reducible assumption) | assumption)
         have q440 : x7_1 < (l0_2.length : Int) := of_decide_eq_true (by first | (with_reducible assumption) | assumption)
         obtain ⟨ad440, e440, hx440_0, hx440_1, hx440_2, hx440_3, hx440_4, hx440_5, hx440_6, hx440_7, hx440_8, hx440_9⟩ := at_T33 HR0_2.out x7_1 p440 q440
         obtain rfl : ad439 = ad440 := (by injection e440)
         replace hx440_0 := (HB.out.cell (World.block_lt_of_cell? w _ hx440_0)).trans hx440_0
         replace hx440_1 := (HB.out.cell (World.block_lt_of_cell? w _ hx440_1)).trans hx440_1
         replace hx440_2 := (HB.out.cell (World.block_lt_of_cell? w _ hx440_2)).trans hx440_2
         replace hx440_3 := (HB.out.cell (World.block_lt_of_cell? w _ hx440_3)).trans hx440_3
         replace hx440_4 := (HB.out.cell (World.block_lt_of_cell? w _ hx440_4)).trans hx440_4
         replace hx440_5 := (HB.out.cell (World.block_lt_of_cell? w _ hx440_5)).trans hx440_5
         replace hx440_6 := (HB.out.cell (World.block_lt_of_cell? w _ hx440_6)).trans hx440_6
         replace hx440_7 := (HB.out.cell (World.block_lt_of_cell? w _ hx440_7)).trans hx440_7
         replace hx440_8 := (HB.out.cell (World.block_lt_of_cell? w _ hx440_8)).trans hx440_8
         replace hx440_9 := (HB.out.cell (World.block_lt_of_cell? w _ hx440_9)).trans hx440_9
         replace p440 := eq_true p440
         replace q440 := eq_true q440
         go_wp2_with (first | ((with_reducible refine gate_builtin (b := .append) (xs := #[.tmp 30, .tmp 36]) rfl ?_); at_builtin; refine Kd.R_append k33 (w0 := w) w.heap.size rfl (.tmp 30) (.tmp 36) 22 33 (.agg #[(.int .i64 0), (.int .i64 0), (.int .i64 0), (.int .i64 0), (.int .i64 0), (.int .i64 0), (.int .i64 0), (.int .i64 0), (.int .i64 0), (.int .i64 0)]) 80 rfl Try.underlying22 info33 rfl (by decide) (by omega) u6 x6_1 (⟨(rd_T33 l0_2 x7_1).f0, (rd_T33 l0_2 x7_1).f1, (rd_T33 l0_2 x7_1).f2, (⟨(rd_T33 l0_2 x7_1).f3.f0, (rd_T33 l0_2 x7_1).f3.f1, (rd_T33 l0_2 x7_1).f3.f2, (rd_T33 l0_2 x7_1).f3.f3, (rd_T33 l0_2 x7_1).f3.f4, (rd_T33 l0_2 x7_1).f3.f5, (rd_T33 l0_2 x7_1).f3.f6⟩ : S26)⟩ : S33) [.int .i64 ((rd_T33 l0_2 x7_1).f0), .int .i64 ((rd_T33 l0_2 x7_1).f1), .int .i64 ((rd_T33 l0_2 x7_1).f2), .int .i64 ((rd_T33 l0_2 x7_1).f3.f0), .int .i64 ((rd_T33 l0_2 x7_1).f3.f1), .int .i64 ((rd_T33 l0_2 x7_1).f3.f2), .int .i64 ((rd_T33 l0_2 x7_1).f3.f3), .int .i64 ((rd_T33 l0_2 x7_1).f3.f4), .int .i64 ((rd_T33 l0_2 x7_1).f3.f5), .int .i64 ((rd_T33 l0_2 x7_1).f3.f6)] (fun _ => True) (fun _ => False) rfl rfl ?aP (fun _ hk => hk.elim) ?aF ?aO ?aB ?aS ?aL ?_; (case aP => exact k33_mkM _ _ _ (⟨(rd_T33 l0_2 x7_1).f0, (rd_T33 l0_2 x7_1).f1, (rd_T33 l0_2 x7_1).f2, (⟨(rd_T33 l0_2 x7_1).f3.f0, (rd_T33 l0_2 x7_1).f3.f1, (rd_T33 l0_2 x7_1).f3.f2, (rd_T33 l0_2 x7_1).f3.f3, (rd_T33 l0_2 x7_1).f3.f4, (rd_T33 l0_2 x7_1).f3.f5, (rd_T33 l0_2 x7_1).f3.f6⟩ : S26)⟩ : S33)); (case aB => exact (GS.lB HB.out)); (case aF => exact (fun _ _ => trivial)); (case aO => exact (GS.rR HO_6.out)); (case aS => exact (lqZ (GS.lB HB.out))); (case aL => have := LMc15.out; omega); intro v442 w17 ho hb hg hat; rw [← Ny441.out] at ho; have n0_ := Aside0.mk (blk_grown (GS.bqX BK433.out) hg (Kd.R_ne HO_6.out BK433.out (by decide))); have n1_ := Aside0.mk (hb); have n2_ := Aside0.mk (ho); clear BK433; clear HB; clear HO_6; have BK433 := n0_; have HB := n1_; have HO443 := n2_; clear n0_ n1_ n2_; clear ho hb hg hat))
         go_roundg k1
         case measure => have := HK1.out; omega
         case rel => exact ⟨(y441), (wrap64 (x7_1 + 1)), (by first | rfl | (simp; done) | (simp [*]; done)), H', ⟨by have := HK1.out; omega⟩, ⟨by (with_reducible repeat (first | apply Kd.R_alloc | apply Kd.R_drewN | apply Kd.R_drew)); exact HO443.out⟩, ⟨GS.bqX BK433.out⟩, ⟨GS.lB HB.out⟩⟩
        ·rw [if_neg c15] at H
         exact absurd H (by simp)
       ·rw [if_neg c14] at H
        have c14b0 : (((rd_T33 l0_2 x7_1).f1) == a1) = false := beq_eq_false_iff_ne.mpr c14
        try simp only [beq_self_eq_true, Bool.not_true, Bool.false_or, Bool.true_and] at c14b0
        have c14b1 : (((rd_T33 l0_2 x7_1).f1) != a1) = true := bne_iff_ne.mpr c14
        have H' := Aside0.mk H
        clear H
        obtain ⟨hcz18_0, hcz18_1, hcz18_2, hfz18_0, hfz18_1, hfz18_2⟩ := GS.c3 BK433.out
        have p439 : 0 ≤ (x7_1 : Int) := of_decide_eq_true (by first | (with_reducible assumption) | assumption)
        have q439 : x7_1 < (l0_2.length : Int) := of_decide_eq_true (by first | (with_reducible assumption) | assumption)
        obtain ⟨ad439, e439, hx439_0, hx439_1, hx439_2, hx439_3, hx439_4, hx439_5, hx439_6, hx439_7, hx439_8, hx439_9⟩ := at_T33 HR0_2.out x7_1 p439 q439
        cases e439
        replace hx439_0 := (HB.out.cell (World.block_lt_of_cell? w _ hx439_0)).trans hx439_0
        replace hx439_1 := (HB.out.cell (World.block_lt_of_cell? w _ hx439_1)).trans hx439_1
        replace hx439_2 := (HB.out.cell (World.block_lt_of_cell? w _ hx439_2)).trans hx439_2
        replace hx439_3 := (HB.out.cell (World.block_lt_of_cell? w _ hx439_3)).trans hx439_3
        replace hx439_4 := (HB.out.cell (World.block_lt_of_cell? w _ hx439_4)).trans hx439_4
        replace hx439_5 := (HB.out.cell (World.block_lt_of_cell? w _ hx439_5)).trans hx439_5
        replace hx439_6 := (HB.out.cell (World.block_lt_of_cell? w _ hx439_6)).trans hx439_6
        replace hx439_7 := (HB.out.cell (World.block_lt_of_cell? w _ hx439_7)).trans hx439_7
        replace hx439_8 := (HB.out.cell (World.block_lt_of_cell? w _ hx439_8)).trans hx439_8
        replace hx439_9 := (HB.out.cell (World.block_lt_of_cell? w _ hx439_9)).trans hx439_9
        replace p439 := eq_true p439
        replace q439 := eq_true q439
        go_wp2
        go_roundg k1
        case measure => have := HK1.out; omega
        case rel => exact ⟨(x6_1), (wrap64 (x7_1 + 1)), (by first | rfl | (simp; done) | (simp [*]; done)), H', ⟨by have := HK1.out; omega⟩, ⟨by (with_reducible repeat (first | apply Kd.R_alloc | apply Kd.R_drewN | apply Kd.R_drew)); exact HO_6.out⟩, ⟨GS.bqX BK433.out⟩, ⟨GS.lB HB.out⟩⟩
      ·rw [if_neg c13] at H
       exact absurd H (by simp)
     ·rw [if_neg c12] at H
      have c12b0 : decide (x7_1 < (l0_2.length : Int)) = false := decide_eq_false c12
      clear c12
      simp only [Option.some.injEq, Prod.mk.injEq] at H
      obtain ⟨rfl, rfl⟩ := H
      obtain ⟨hcz19_0, hcz19_1, hcz19_2, hfz19_0, hfz19_1, hfz19_2⟩ := GS.c3 BK433.out
      go_wp2
      go_ret2
      exact ⟨_, by first | rfl | (simp [errW_none, errW_some] <;> rfl) | (simp [*, errW_none, errW_some] <;> rfl), by (with_reducible repeat (first | apply Kd.R_alloc | apply Kd.R_drewN | apply Kd.R_drew)); exact HO_6.out, GS.lB HB.out⟩
  ·replace c6 := Bool.eq_false_iff.mpr c6
   subst c6
   have H1 : (some (([] : List (S33)), 2)) = some (r1, r2) := by rw [if_neg (show ¬ (false = true) by decide)] at H; exact H
   clear H
   have H := H1
   clear H1
   simp only [Option.some.injEq, Prod.mk.injEq] at H
   obtain ⟨rfl, rfl⟩ := H
   go_enter Try.func31, Try.ntmps31
   go_wp2_with (first | ((with_reducible refine gqD (N := 2) rfl ?_); refine GS.bx (N := 2) (cs := #[.int .i64 a0_0, .int .i64 a0_1, .slice A0_2 l0_2.length c0_2]) (t := 24) ?_; intro gb433 hg w20 hbox hb; have n0_ := Aside0.mk (lqT (GS.lB HB.out) hb); have n1_ := Aside0.mk (hbox); have n2_ := Aside0.mk ((by rw [hg]; exact (lqZ (GS.lB HB.out)) : w.heap.size ≤ gb433)); have n3_ := Aside0.mk ((by rw [hg]; exact (lqZ (GS.lB HB.out)) : w.heap.size ≤ gb433)); clear HB; have HB := n0_; have BK433 := n1_; have GW433 := n2_; have GE433 := n3_; clear n0_ n1_ n2_ n3_; clear hb hbox hg; obtain ⟨hcz21_0, hcz21_1, hcz21_2, hfz21_0, hfz21_1, hfz21_2⟩ := GS.c3 BK433.out) | ((with_reducible refine gqC (f := 18) rfl ?_); refine GS.gL (some 9) Try.func18 #[.agg #[.int .i64 a0_0, .int .i64 a0_1, .slice A0_2 l0_2.length c0_2]] ?_; (with_reducible refine (spileref42_Check.calls k a0_0 a0_1 _ _ l0_2 t434 _ ?side1 ?side2 A3.out).mono ?_); (case side1 => exact GS.rC (Kd.C_below HR0_2.out HB.out)); (case side2 => exact HC0_2.out); rintro e w22 ⟨rfl, hb⟩; refine ⟨_, rfl, ?_⟩; have n0_ := Aside0.mk (bqB (GS.bqX BK433.out) hb); have n1_ := Aside0.mk (lqT (GS.lB HB.out) hb); clear BK433; clear HB; have BK433 := n0_; have HB := n1_; clear n0_ n1_; (try clear hb); (try clear hb2); (try clear hk); (try clear hi)) | ((with_reducible refine gqC (f := 41) rfl ?_); refine GS.gL (some 12) Try.func41 #[.int .i64 a1] ?_; (with_reducible refine (spileref40_Node.calls a1 false _ A5.out).mono ?_); rintro e w' ⟨rfl, ⟨nd, rfl⟩⟩; refine ⟨_, rfl, ?_⟩))
   go_ret2
   exact ⟨_, by first | rfl | (simp [errW_none, errW_some] <;> rfl) | (simp [*, errW_none, errW_some] <;> rfl), by first | exact Kd.R_nil _ _ _ _ _ | exact Kd.N_nil _ _ _ _ _ | exact Kd.V_nil _ _ _ _ _ | exact Kd.Q_nil _ _ _ _ _ | exact Kd.S_nil _ _ _ _ _, GS.lB HB.out⟩
 ·rw [if_neg c4] at H
  have c4b0 : (t434 == 0) = false := beq_eq_false_iff_ne.mpr c4
  try simp only [beq_self_eq_true, Bool.not_true, Bool.false_or, Bool.true_and] at c4b0
  have c4b1 : (t434 != 0) = true := bne_iff_ne.mpr c4
  simp only [Option.some.injEq, Prod.mk.injEq] at H
  obtain ⟨rfl, rfl⟩ := H
  go_enter Try.func31, Try.ntmps31
  go_wp2_with (first | ((with_reducible refine gqD (N := 2) rfl ?_); refine GS.bx (N := 2) (cs := #[.int .i64 a0_0, .int .i64 a0_1, .slice A0_2 l0_2.length c0_2]) (t := 24) ?_; intro gb433 hg w23 hbox hb; have n0_ := Aside0.mk (lqT (GS.lB HB.out) hb); have n1_ := Aside0.mk (hbox); have n2_ := Aside0.mk ((by rw [hg]; exact (lqZ (GS.lB HB.out)) : w.heap.size ≤ gb433)); have n3_ := Aside0.mk ((by rw [hg]; exact (lqZ (GS.lB HB.out)) : w.heap.size ≤ gb433)); clear HB; have HB := n0_; have BK433 := n1_; have GW433 := n2_; have GE433 := n3_; clear n0_ n1_ n2_ n3_; clear hb hbox hg; obtain ⟨hcz24_0, hcz24_1, hcz24_2, hfz24_0, hfz24_1, hfz24_2⟩ := GS.c3 BK433.out) | ((with_reducible refine gqC (f := 18) rfl ?_); refine GS.gL (some 9) Try.func18 #[.agg #[.int .i64 a0_0, .int .i64 a0_1, .slice A0_2 l0_2.length c0_2]] ?_; (with_reducible refine (spileref42_Check.calls k a0_0 a0_1 _ _ l0_2 t434 _ ?side1 ?side2 A3.out).mono ?_); (case side1 => exact GS.rC (Kd.C_below HR0_2.out HB.out)); (case side2 => exact HC0_2.out); rintro e w25 ⟨rfl, hb⟩; refine ⟨_, rfl, ?_⟩; have n0_ := Aside0.mk (bqB (GS.bqX BK433.out) hb); have n1_ := Aside0.mk (lqT (GS.lB HB.out) hb); clear BK433; clear HB; have BK433 := n0_; have HB := n1_; clear n0_ n1_; (try clear hb); (try clear hb2); (try clear hk); (try clear hi)))
  go_ret2
  exact ⟨_, by first | rfl | (simp [errW_none, errW_some] <;> rfl) | (simp [*, errW_none, errW_some] <;> rfl), by first | exact Kd.R_nil _ _ _ _ _ | exact Kd.N_nil _ _ _ _ _ | exact Kd.V_nil _ _ _ _ _ | exact Kd.Q_nil _ _ _ _ _ | exact Kd.S_nil _ _ _ _ _, GS.lB HB.out⟩

-- NOT PRINTED: function 61 (slices_AppendSeq_int_int)

-- NOT PRINTED: function 58 (slices_Collect_int)

/-! ### cmp_isNaN_int: function 80 -/
def cmp_isNaN_int.f (a0 : Int) : Option (Bool) := some (a0 != a0)
set_option maxHeartbeats 8000000 in
set_option maxRecDepth 100000 in
theorem cmp_isNaN_int.calls (a0 : Int) (r : Bool) (w : World) (h : cmp_isNaN_int.f a0 = some r) :
  Calls Try.prog 80 #[.int .i64 a0] w fun e w' => e = .returned (.bool r) ∧ Drawn0 w w' := by
 have H : (some (a0 != a0)) = some r := h
 clear h
 obtain rfl := Option.some.inj H
 go_enter Try.func80, Try.ntmps80
 go_wp2
 go_ret
 exact ⟨by first | rfl | (simp; done) | (simp [*]; done), by repeat (first | exact Drawn0.refl _ | apply Drawn0.step)⟩

/-! ### cmp_Less_int: function 70 -/
def cmp_Less_int.f (a0 : Int) (a1 : Int) : Option (Bool) := (cmp_isNaN_int.f a0).bind fun t444 => (if t444 = true then ((cmp_isNaN_int.f a1).bind fun t445 => (if t445 = true then (some (decide (a0 < a1))) else (some true))) else (some (decide (a0 < a1))))
set_option maxHeartbeats 8000000 in
set_option maxRecDepth 100000 in
theorem cmp_Less_int.calls (a0 : Int) (a1 : Int) (r : Bool) (w : World) (h : cmp_Less_int.f a0 a1 = some r) :
  Calls Try.prog 70 #[.int .i64 a0, .int .i64 a1] w fun e w' => e = .returned (.bool r) ∧ Drawn0 w w' := by
 have H : ((cmp_isNaN_int.f a0).bind fun t444 => (if t444 = true then ((cmp_isNaN_int.f a1).bind fun t445 => (if t445 = true then (some (decide (a0 < a1))) else (some true))) else (some (decide (a0 < a1))))) = some r := h
 clear h
 replace H := Option.bind_eq_some_iff.mp H
 obtain ⟨t444, A30, H⟩ := H
 replace H : (if t444 = true then ((cmp_isNaN_int.f a1).bind fun t445 => (if t445 = true then (some (decide (a0 < a1))) else (some true))) else (some (decide (a0 < a1)))) = some r := H
 have A3 := Aside0.mk A30
 clear A30
 by_cases c4 : t444 = true
 ·subst c4
  have H1 : ((cmp_isNaN_int.f a1).bind fun t445 => (if t445 = true then (some (decide (a0 < a1))) else (some true))) = some r := by rw [if_pos rfl] at H; exact H
  clear H
  have H := H1
  clear H1
  replace H := Option.bind_eq_some_iff.mp H
  obtain ⟨t445, A50, H⟩ := H
  replace H : (if t445 = true then (some (decide (a0 < a1))) else (some true)) = some r := H
  have A5 := Aside0.mk A50
  clear A50
  by_cases c6 : t445 = true
  ·subst c6
   have H1 : (some (decide (a0 < a1))) = some r := by rw [if_pos rfl] at H; exact H
   clear H
   have H := H1
   clear H1
   obtain rfl := Option.some.inj H
   go_enter Try.func70, Try.ntmps70
   go_wp2_with (first | ((with_reducible refine gqC (f := 80) rfl ?_); refine GS.gL (some 6) Try.func80 #[.int .i64 a0] ?_; (with_reducible refine (cmp_isNaN_int.calls a0 true _ A3.out).mono ?_); rintro e w' ⟨rfl, ⟨nd, rfl⟩⟩; refine ⟨_, rfl, ?_⟩) | (go_at_call 80; (with_reducible refine (cmp_isNaN_int.calls a1 true _ A5.out).mono ?_); rintro e w' ⟨rfl, ⟨nd, rfl⟩⟩))
   go_ret
   exact ⟨by first | rfl | (simp; done) | (simp [*]; done), by repeat (first | exact Drawn0.refl _ | apply Drawn0.step)⟩
  ·replace c6 := Bool.eq_false_iff.mpr c6
   subst c6
   have H1 : (some true) = some r := by rw [if_neg (show ¬ (false = true) by decide)] at H; exact H
   clear H
   have H := H1
   clear H1
   obtain rfl := Option.some.inj H
   go_enter Try.func70, Try.ntmps70
   go_wp2_with (first | ((with_reducible refine gqC (f := 80) rfl ?_); refine GS.gL (some 6) Try.func80 #[.int .i64 a0] ?_; (with_reducible refine (cmp_isNaN_int.calls a0 true _ A3.out).mono ?_); rintro e w' ⟨rfl, ⟨nd, rfl⟩⟩; refine ⟨_, rfl, ?_⟩) | (go_at_call 80; (with_reducible refine (cmp_isNaN_int.calls a1 false _ A5.out).mono ?_); rintro e w' ⟨rfl, ⟨nd, rfl⟩⟩))
   go_ret
   exact ⟨by first | rfl | (simp; done) | (simp [*]; done), by repeat (first | exact Drawn0.refl _ | apply Drawn0.step)⟩
 ·replace c4 := Bool.eq_false_iff.mpr c4
  subst c4
  have H1 : (some (decide (a0 < a1))) = some r := by rw [if_neg (show ¬ (false = true) by decide)] at H; exact H
  clear H
  have H := H1
  clear H1
  obtain rfl := Option.some.inj H
  go_enter Try.func70, Try.ntmps70
  go_wp2_with (first | ((with_reducible refine gqC (f := 80) rfl ?_); refine GS.gL (some 6) Try.func80 #[.int .i64 a0] ?_; (with_reducible refine (cmp_isNaN_int.calls a0 false _ A3.out).mono ?_); rintro e w' ⟨rfl, ⟨nd, rfl⟩⟩; refine ⟨_, rfl, ?_⟩))
  go_ret
  exact ⟨by first | rfl | (simp; done) | (simp [*]; done), by repeat (first | exact Drawn0.refl _ | apply Drawn0.step)⟩

end Go.Proofs.Ytfafeeobjlkjnaa.K
-- PRINTED by print.py (a twelfth state) out of the translation. Not trusted: Lean checks it.
namespace Go.Proofs.Ytfafeeobjlkjnaa.K
open Go.RowKit Go.Proofs.YtfafeeobjlkjnaaW.PrintWords Go.Proofs.YtfafeeobjlkjnaaW.PrintLast Go.Proofs.YtfafeeobjlkjnaaW.PrintMore
attribute [local go_sem] max2_int min2_int max_two min_two max_three min_three max_four min_four   -- for this text's walks alone
set_option linter.unusedVariables false
set_option linter.unusedSimpArgs false

-- NOT PRINTED: function 62 (slices_pdqsortOrdered_int)

-- NOT PRINTED: function 59 (slices_Sort_int_int)

-- NOT PRINTED: function 53 (slices_Sorted_int)

-- NOT PRINTED: function 54 (maps_Keys_map_int_bool_int_bool)

-- GIVEN: function 32 (sender_Waits)

/-! ### spileref42_Waits: function 33 -/
def spileref42_Waits.l0 : Nat → List Int → Int → Int → Int → List (S33) → Option (List Int × Int)
 | 0, _, _, _, _, _ => none
 | k + 1, x4, x5, x546000, x546001, x546002 => if x5 ≤ 99 then ((spileref42_Again.f k x546000 x546001 x546002 x5).bind fun bt550 => (if (bt550.1.length : Int) > 0 then (if x4.length < 17592186044416 then (spileref42_Waits.l0 k (x4 ++ [x5]) (wrap64 (x5 + 1)) x546000 x546001 x546002) else (none)) else (spileref42_Waits.l0 k x4 (wrap64 (x5 + 1)) x546000 x546001 x546002))) else (some (x4, 0))
def spileref42_Waits.f (k : Nat) (a0_0 : Int) (a0_1 : Int) (l0_2 : List (S33)) : Option (List Int × Int) := (spileref42_Check.f k a0_0 a0_1 l0_2).bind fun t546 => (if t546 = 0 then (spileref42_Waits.l0 k (([] : List Int)) 1 a0_0 a0_1 l0_2) else (some (([] : List Int), 1)))
theorem spileref42_Waits.mono_l : ∀ k, (∀ y0 y1 y2 y3 y4, LeO (spileref42_Waits.l0 k y0 y1 y2 y3 y4) (spileref42_Waits.l0 (k + 1) y0 y1 y2 y3 y4))
 | 0 => fun _ _ _ _ _ r h => by simp [spileref42_Waits.l0] at h
 | k + 1 => by
  have ih0 := spileref42_Waits.mono_l k
  ·intro y0 y1 y2 y3 y4
   unfold spileref42_Waits.l0
   repeat' first
   | (with_reducible exact ih0 _ _ _ _ _)
   | (with_reducible exact spileref42_Again.mono _ _ _ _ _)
   | (with_reducible exact spileref42_Check.mono _ _ _ _)
   | (with_reducible exact LeO.refl _)
   | (with_reducible exact LeO.none _)
   | (with_reducible refine LeO.ite ?_ ?_)
   | (with_reducible refine LeO.bind ?_ (fun _ => ?_))
   | exact ih0 _ _ _ _ _
   | exact spileref42_Again.mono _ _ _ _ _
   | exact spileref42_Check.mono _ _ _ _
   | exact LeO.none _
   | refine LeO.ite ?_ ?_
   | refine LeO.bind ?_ (fun _ => ?_)
theorem spileref42_Waits.mono : ∀ a0 a1 a2 k, LeO (spileref42_Waits.f k a0 a1 a2) (spileref42_Waits.f (k + 1) a0 a1 a2) := by
 intro a0 a1 a2 k
 have ih0 := spileref42_Waits.mono_l k
 unfold spileref42_Waits.f
 repeat' first
   | (with_reducible exact ih0 _ _ _ _ _)
   | (with_reducible exact spileref42_Again.mono _ _ _ _ _)
   | (with_reducible exact spileref42_Check.mono _ _ _ _)
   | (with_reducible exact LeO.refl _)
   | (with_reducible exact LeO.none _)
   | (with_reducible refine LeO.ite ?_ ?_)
   | (with_reducible refine LeO.bind ?_ (fun _ => ?_))
   | exact ih0 _ _ _ _ _
   | exact spileref42_Again.mono _ _ _ _ _
   | exact spileref42_Check.mono _ _ _ _
   | exact LeO.none _
   | refine LeO.ite ?_ ?_
   | refine LeO.bind ?_ (fun _ => ?_)
set_option maxHeartbeats 8000000 in
set_option maxRecDepth 100000 in
theorem spileref42_Waits.calls (k : Nat) (a0_0 : Int) (a0_1 : Int) (A0_2 : Option Addr) (c0_2 : Nat) (l0_2 : List (S33)) (r1 : List Int) (r2 : Int) (w : World) (hr0_2 : Kd.C k33 w A0_2 l0_2.length l0_2) (hc0_2 : l0_2.length ≤ c0_2) (h : spileref42_Waits.f k a0_0 a0_1 l0_2 = some (r1, r2)) :
  Calls Try.prog 33 #[.agg #[.int .i64 a0_0, .int .i64 a0_1, .slice A0_2 l0_2.length c0_2]] w fun e w' => ∃ v0_ : Value, e = .returned (.tuple #[v0_, .int .i64 r2]) ∧ Kd.R (Kd.int .i64) 3 w' w.heap.size (fun _ => True) v0_ r1 ∧ Below w.heap.size w w' := by
 have hu24 := Try.underlying24
 have HR0_2 := Aside0.mk hr0_2
 have HC0_2 := Aside0.mk hc0_2
 clear hr0_2 hc0_2
 have HB := Aside0.mk (Below.refl w.heap.size w)
 have H : ((spileref42_Check.f k a0_0 a0_1 l0_2).bind fun t546 => (if t546 = 0 then (spileref42_Waits.l0 k (([] : List Int)) 1 a0_0 a0_1 l0_2) else (some (([] : List Int), 1)))) = some (r1, r2) := h
 clear h
 replace H := Option.bind_eq_some_iff.mp H
 obtain ⟨t546, A20, H⟩ := H
 replace H : (if t546 = 0 then (spileref42_Waits.l0 k (([] : List Int)) 1 a0_0 a0_1 l0_2) else (some (([] : List Int), 1))) = some (r1, r2) := H
 have A2 := Aside0.mk A20
 clear A20
 by_cases c3 : t546 = 0
 ·rw [if_pos c3] at H
  have c3b0 : (t546 == 0) = true := beq_iff_eq.mpr c3
  try simp only [beq_self_eq_true, Bool.not_true, Bool.false_or, Bool.true_and] at c3b0
  have c3b1 : (t546 != 0) = false := bne_eq_false_iff_eq.mpr c3
  clear c3
  obtain ⟨y547, hy547⟩ : ∃ y_ : List Int, y_ = (([] : List Int)) := ⟨_, rfl⟩
  replace H : (spileref42_Waits.l0 k y547 1 a0_0 a0_1 l0_2) = some (r1, r2) := by first | (rw [hy547]; with_reducible exact H) | (have H2_ := (Option.bind_some _ _).symm.trans H; rw [hy547]; with_reducible exact H2_) | (have H2_ := (Option.bind_some _ _).symm.trans H; with_reducible exact H2_) | with_reducible exact H | (rw [hy547]; exact H) | exact H
  have Ny547 := Aside0.mk hy547
  clear hy547
  have H' := Aside0.mk H
  clear H
  go_enter Try.func33, Try.ntmps33
  go_wp2_with (first | ((with_reducible refine gqD (N := 1) rfl ?_); refine GS.bx (N := 1) (cs := #[.int .i64 a0_0, .int .i64 a0_1, .slice A0_2 l0_2.length c0_2]) (t := 24) ?_; intro gb545 hg w4 hbox hb; have n0_ := Aside0.mk (lqT (GS.lB HB.out) hb); have n1_ := Aside0.mk (hbox); have n2_ := Aside0.mk ((by rw [hg]; exact (lqZ (GS.lB HB.out)) : w.heap.size ≤ gb545)); have n3_ := Aside0.mk ((by rw [hg]; exact (lqZ (GS.lB HB.out)) : w.heap.size ≤ gb545)); clear HB; have HB := n0_; have BK545 := n1_; have GW545 := n2_; have GE545 := n3_; clear n0_ n1_ n2_ n3_; clear hb hbox hg; obtain ⟨hcz5_0, hcz5_1, hcz5_2, hfz5_0, hfz5_1, hfz5_2⟩ := GS.c3 BK545.out) | ((with_reducible refine gqC (f := 18) rfl ?_); refine GS.gL (some 9) Try.func18 #[.agg #[.int .i64 a0_0, .int .i64 a0_1, .slice A0_2 l0_2.length c0_2]] ?_; (with_reducible refine (spileref42_Check.calls k a0_0 a0_1 _ _ l0_2 t546 _ ?side1 ?side2 A2.out).mono ?_); (case side1 => exact GS.rC (Kd.C_below HR0_2.out HB.out)); (case side2 => exact HC0_2.out); rintro e w6 ⟨rfl, hb⟩; refine ⟨_, rfl, ?_⟩; have n0_ := Aside0.mk (bqB (GS.bqX BK545.out) hb); have n1_ := Aside0.mk (lqT (GS.lB HB.out) hb); clear BK545; clear HB; have BK545 := n0_; have HB := n1_; clear n0_ n1_; (try clear hb); (try clear hb2); (try clear hk); (try clear hi)) | ((with_reducible refine gqD (N := 11) rfl ?_); refine Kd.R_lit (Kd.int .i64) _ 3 ?hg (N := 11) ?hd (xs := ([] : List Int)) (inner := []) (ok := fun _ => True) (okp := fun _ => True) ?hr ?hp (fun _ hk => hk) trivial (Below.refl _ _) (Nat.le_refl _) (by simp) ?_; (case hd => rfl); (case hg => rfl); (case hr => first | (go_simp; done) | (go_simp; rfl)); (case hp => exact (Reps.none _ _)); intro v548 w7 ho8 hb hg_ hnew_; clear hg_ hnew_; (first | rw [← Ny547.out] at ho8 | (simp only [Int.reduceToNat] at ho8; rw [← Ny547.out] at ho8)); have n0_ := Aside0.mk (Kd.R_lower ho8 (lqZ (GS.lB HB.out))); have n1_ := Aside0.mk (bqB (GS.bqX BK545.out) hb); have n2_ := Aside0.mk (lqT (GS.lB HB.out) hb); clear BK545; clear HB; have HO549 := n0_; have BK545 := n1_; have HB := n2_; clear n0_ n1_ n2_; clear hb ho8))
  go_loopg [4, 5] k (fun kq v4 v5 w' => ∃ (x4_1 : List Int) (x5_1 : Int), v5 = .int .i64 x5_1 ∧ Aside0 (spileref42_Waits.l0 kq x4_1 x5_1 a0_0 a0_1 l0_2 = some (r1, r2)) ∧ Aside0 (kq ≤ k) ∧ Aside0 (Kd.R (Kd.int .i64) 3 w' w.heap.size (fun _ => True) v4 x4_1) ∧ Aside0 (w'.heap[gb545]? = some (.cells #[.int .i64 a0_0, .int .i64 a0_1, (.slice A0_2 l0_2.length c0_2)] 24 (0, 0))) ∧ Aside0 (Below w.heap.size w w'))
  case atStart => exact ⟨(y547), (1), (by first | rfl | (simp; done) | (simp [*]; done)), H', ⟨Nat.le_refl _⟩, ⟨by (with_reducible repeat (first | apply Kd.R_alloc | apply Kd.R_drewN | apply Kd.R_drew)); exact HO549.out⟩, ⟨GS.bqX BK545.out⟩, ⟨GS.lB HB.out⟩⟩
  case round =>
   clear H'
   try clear c1
   try clear p2
   try clear c3
   try clear c3b0
   try clear c3b1
   try clear hcz5_0
   try clear hcz5_1
   try clear hcz5_2
   try clear hfz5_0
   try clear hfz5_1
   try clear hfz5_2
   obtain ⟨x4_1, x5_1, rfl, HA, HK1, HO_4, BK545, HB⟩ := hrel
   cases gk with
   | zero => exact absurd HA.out (by simp [spileref42_Waits.l0])
   | succ k1 =>
    have H := HA.out
    clear HA
    simp only [spileref42_Waits.l0] at H
    by_cases c9 : x5_1 ≤ 99
    ·rw [if_pos c9] at H
     have c9b0 : decide (x5_1 ≤ 99) = true := decide_eq_true c9
     clear c9
     replace H := Option.bind_eq_some_iff.mp H
     obtain ⟨⟨t550, t553⟩, A100, H⟩ := H
     replace H : (if (t550.length : Int) > 0 then (if x4_1.length < 17592186044416 then (spileref42_Waits.l0 k1 (x4_1 ++ [x5_1]) (wrap64 (x5_1 + 1)) a0_0 a0_1 l0_2) else (none)) else (spileref42_Waits.l0 k1 x4_1 (wrap64 (x5_1 + 1)) a0_0 a0_1 l0_2)) = some (r1, r2) := H
     have A10 := Aside0.mk A100
     clear A100
     by_cases c11 : (t550.length : Int) > 0
     ·rw [if_pos c11] at H
      have c11b0 : decide (0 < (t550.length : Int)) = true := decide_eq_true c11
      have c11b1 : decide (0 < t550.length) = true := decide_eq_true (by omega)
      clear c11
      by_cases c12 : x4_1.length < 17592186044416
      ·rw [if_pos c12] at H
       have LMc12 := Aside0.mk c12
       clear c12
       obtain ⟨y554, hy554⟩ : ∃ y_ : List Int, y_ = (x4_1 ++ [x5_1]) := ⟨_, rfl⟩
       replace H : (spileref42_Waits.l0 k1 y554 (wrap64 (x5_1 + 1)) a0_0 a0_1 l0_2) = some (r1, r2) := by first | (rw [hy554]; with_reducible exact H) | (have H2_ := (Option.bind_some _ _).symm.trans H; rw [hy554]; with_reducible exact H2_) | (have H2_ := (Option.bind_some _ _).symm.trans H; with_reducible exact H2_) | with_reducible exact H | (rw [hy554]; exact H) | exact H
       have Ny554 := Aside0.mk hy554
       clear hy554
       have H' := Aside0.mk H
       clear H
       obtain ⟨hcz13_0, hcz13_1, hcz13_2, hfz13_0, hfz13_1, hfz13_2⟩ := GS.c3 BK545.out
       go_wp2_with (first | ((with_reducible refine gqC (f := 31) rfl ?_); refine GS.gL (some 19) Try.func31 #[.agg #[.int .i64 a0_0, .int .i64 a0_1, .slice A0_2 l0_2.length c0_2], .int .i64 x5_1] ?_; (with_reducible refine (spileref42_Again.calls k1 a0_0 a0_1 _ _ l0_2 x5_1 t550 t553 _ ?side1 ?side2 A10.out).mono ?_); (case side1 => exact GS.rC (Kd.C_below HR0_2.out HB.out)); (case side2 => exact HC0_2.out); rintro e w14 ⟨v551, rfl, ho0, hb⟩; refine ⟨_, rfl, ?_⟩; have n0_ := Aside0.mk (Kd.R_below (GS.rR HO_4.out) hb); have n1_ := Aside0.mk (Kd.R_lower ho0 (lqZ (GS.lB HB.out))); have n2_ := Aside0.mk (bqB (GS.bqX BK545.out) hb); have n3_ := Aside0.mk (lqT (GS.lB HB.out) hb); clear HO_4; clear BK545; clear HB; have HO_4 := n0_; have HO552 := n1_; have BK545 := n2_; have HB := n3_; clear n0_ n1_ n2_ n3_; (try clear hb); (try clear hb2); (try clear hk); (try clear hi); (try clear ho0); obtain ⟨Ao15, co15, eo15⟩ := Kd.R_slice HO552.out; subst eo15) | ((with_reducible refine gate_builtin (b := .append) (xs := #[.tmp 25, .tmp 27]) rfl ?_); at_builtin; refine Kd.R_append (Kd.int .i64) (w0 := w) w.heap.size rfl (.tmp 25) (.tmp 27) 51 3 (.int .i64 0) 8 rfl Try.underlying51 info3 rfl (by decide) (by omega) u4 x4_1 x5_1 [.int .i64 x5_1] (fun _ => True) (fun _ => False) rfl rfl ?aP (fun _ hk => hk.elim) ?aF ?aO ?aB ?aS ?aL ?_; (case aP => exact rfl); (case aB => exact (GS.lB HB.out)); (case aF => exact (fun _ _ => trivial)); (case aO => exact (GS.rR HO_4.out)); (case aS => exact (lqZ (GS.lB HB.out))); (case aL => have := LMc12.out; omega); intro v555 w16 ho hb hg hat; rw [← Ny554.out] at ho; have n0_ := Aside0.mk (blk_grown (GS.bqX BK545.out) hg (Kd.R_ne HO_4.out BK545.out (by decide))); have n1_ := Aside0.mk (Kd.R_over' (GS.rR HO552.out) (Kd.R_typed (GS.rR HO_4.out)) (by decide) hg); have n2_ := Aside0.mk (hb); have n3_ := Aside0.mk (ho); clear BK545; clear HO552; clear HB; clear HO_4; have BK545 := n0_; have HO552 := n1_; have HB := n2_; have HO556 := n3_; clear n0_ n1_ n2_ n3_; clear ho hb hg hat))
       go_roundg k1
       case measure => have := HK1.out; omega
       case rel => exact ⟨(y554), (wrap64 (x5_1 + 1)), (by first | rfl | (simp; done) | (simp [*]; done)), H', ⟨by have := HK1.out; omega⟩, ⟨by (with_reducible repeat (first | apply Kd.R_alloc | apply Kd.R_drewN | apply Kd.R_drew)); exact HO556.out⟩, ⟨GS.bqX BK545.out⟩, ⟨GS.lB HB.out⟩⟩
      ·rw [if_neg c12] at H
       exact absurd H (by simp)
     ·rw [if_neg c11] at H
      have c11b0 : decide (0 < (t550.length : Int)) = false := decide_eq_false c11
      have c11b1 : decide (0 < t550.length) = false := decide_eq_false (by omega)
      clear c11
      have H' := Aside0.mk H
      clear H
      obtain ⟨hcz17_0, hcz17_1, hcz17_2, hfz17_0, hfz17_1, hfz17_2⟩ := GS.c3 BK545.out
      go_wp2_with (first | ((with_reducible refine gqC (f := 31) rfl ?_); refine GS.gL (some 19) Try.func31 #[.agg #[.int .i64 a0_0, .int .i64 a0_1, .slice A0_2 l0_2.length c0_2], .int .i64 x5_1] ?_; (with_reducible refine (spileref42_Again.calls k1 a0_0 a0_1 _ _ l0_2 x5_1 t550 t553 _ ?side1 ?side2 A10.out).mono ?_); (case side1 => exact GS.rC (Kd.C_below HR0_2.out HB.out)); (case side2 => exact HC0_2.out); rintro e w18 ⟨v551, rfl, ho0, hb⟩; refine ⟨_, rfl, ?_⟩; have n0_ := Aside0.mk (Kd.R_below (GS.rR HO_4.out) hb); have n1_ := Aside0.mk (Kd.R_lower ho0 (lqZ (GS.lB HB.out))); have n2_ := Aside0.mk (bqB (GS.bqX BK545.out) hb); have n3_ := Aside0.mk (lqT (GS.lB HB.out) hb); clear HO_4; clear BK545; clear HB; have HO_4 := n0_; have HO552 := n1_; have BK545 := n2_; have HB := n3_; clear n0_ n1_ n2_ n3_; (try clear hb); (try clear hb2); (try clear hk); (try clear hi); (try clear ho0); obtain ⟨Ao19, co19, eo19⟩ := Kd.R_slice HO552.out; subst eo19))
      go_roundg k1
      case measure => have := HK1.out; omega
      case rel => exact ⟨(x4_1), (wrap64 (x5_1 + 1)), (by first | rfl | (simp; done) | (simp [*]; done)), H', ⟨by have := HK1.out; omega⟩, ⟨by (with_reducible repeat (first | apply Kd.R_alloc | apply Kd.R_drewN | apply Kd.R_drew)); exact HO_4.out⟩, ⟨GS.bqX BK545.out⟩, ⟨GS.lB HB.out⟩⟩
    ·rw [if_neg c9] at H
     have c9b0 : decide (x5_1 ≤ 99) = false := decide_eq_false c9
     clear c9
     simp only [Option.some.injEq, Prod.mk.injEq] at H
     obtain ⟨rfl, rfl⟩ := H
     go_wp2
     go_ret2
     exact ⟨_, by first | rfl | (simp [errW_none, errW_some] <;> rfl) | (simp [*, errW_none, errW_some] <;> rfl), by (with_reducible repeat (first | apply Kd.R_alloc | apply Kd.R_drewN | apply Kd.R_drew)); exact HO_4.out, GS.lB HB.out⟩
 ·rw [if_neg c3] at H
  have c3b0 : (t546 == 0) = false := beq_eq_false_iff_ne.mpr c3
  try simp only [beq_self_eq_true, Bool.not_true, Bool.false_or, Bool.true_and] at c3b0
  have c3b1 : (t546 != 0) = true := bne_iff_ne.mpr c3
  simp only [Option.some.injEq, Prod.mk.injEq] at H
  obtain ⟨rfl, rfl⟩ := H
  go_enter Try.func33, Try.ntmps33
  go_wp2_with (first | ((with_reducible refine gqD (N := 1) rfl ?_); refine GS.bx (N := 1) (cs := #[.int .i64 a0_0, .int .i64 a0_1, .slice A0_2 l0_2.length c0_2]) (t := 24) ?_; intro gb545 hg w20 hbox hb; have n0_ := Aside0.mk (lqT (GS.lB HB.out) hb); have n1_ := Aside0.mk (hbox); have n2_ := Aside0.mk ((by rw [hg]; exact (lqZ (GS.lB HB.out)) : w.heap.size ≤ gb545)); have n3_ := Aside0.mk ((by rw [hg]; exact (lqZ (GS.lB HB.out)) : w.heap.size ≤ gb545)); clear HB; have HB := n0_; have BK545 := n1_; have GW545 := n2_; have GE545 := n3_; clear n0_ n1_ n2_ n3_; clear hb hbox hg; obtain ⟨hcz21_0, hcz21_1, hcz21_2, hfz21_0, hfz21_1, hfz21_2⟩ := GS.c3 BK545.out) | ((with_reducible refine gqC (f := 18) rfl ?_); refine GS.gL (some 9) Try.func18 #[.agg #[.int .i64 a0_0, .int .i64 a0_1, .slice A0_2 l0_2.length c0_2]] ?_; (with_reducible refine (spileref42_Check.calls k a0_0 a0_1 _ _ l0_2 t546 _ ?side1 ?side2 A2.out).mono ?_); (case side1 => exact GS.rC (Kd.C_below HR0_2.out HB.out)); (case side2 => exact HC0_2.out); rintro e w22 ⟨rfl, hb⟩; refine ⟨_, rfl, ?_⟩; have n0_ := Aside0.mk (bqB (GS.bqX BK545.out) hb); have n1_ := Aside0.mk (lqT (GS.lB HB.out) hb); clear BK545; clear HB; have BK545 := n0_; have HB := n1_; clear n0_ n1_; (try clear hb); (try clear hb2); (try clear hk); (try clear hi)))
  go_ret2
  exact ⟨_, by first | rfl | (simp [errW_none, errW_some] <;> rfl) | (simp [*, errW_none, errW_some] <;> rfl), by first | exact Kd.R_nil _ _ _ _ _ | exact Kd.N_nil _ _ _ _ _ | exact Kd.V_nil _ _ _ _ _ | exact Kd.Q_nil _ _ _ _ _ | exact Kd.S_nil _ _ _ _ _, GS.lB HB.out⟩

/-! ### spileref33_Same: function 35 -/
def spileref33_Same.l0 : Nat → List Int → List Int → Int → Option (Bool)
 | 0, _, _, _ => none
 | k + 1, x0, x1, x5 => if x5 < (x0.length : Int) then (if 0 ≤ x5 then (if x5 < (x1.length : Int) then (if (rd x0 x5) = (rd x1 x5) then (spileref33_Same.l0 k x0 x1 (wrap64 (x5 + 1))) else (some false)) else (none)) else (none)) else (some true)
def spileref33_Same.f (k : Nat) (l0 : List Int) (l1 : List Int) : Option (Bool) := if (l0.length : Int) = (l1.length : Int) then (spileref33_Same.l0 k l0 l1 0) else (some false)
theorem spileref33_Same.mono_l : ∀ k, (∀ y0 y1 y2, LeO (spileref33_Same.l0 k y0 y1 y2) (spileref33_Same.l0 (k + 1) y0 y1 y2))
 | 0 => fun _ _ _ r h => by simp [spileref33_Same.l0] at h
 | k + 1 => by
  have ih0 := spileref33_Same.mono_l k
  ·intro y0 y1 y2
   unfold spileref33_Same.l0
   repeat' first
   | (with_reducible exact ih0 _ _ _)
   | (with_reducible exact LeO.refl _)
   | (with_reducible exact LeO.none _)
   | (with_reducible refine LeO.ite ?_ ?_)
   | (with_reducible refine LeO.bind ?_ (fun _ => ?_))
   | exact ih0 _ _ _
   | exact LeO.none _
   | refine LeO.ite ?_ ?_
   | refine LeO.bind ?_ (fun _ => ?_)
theorem spileref33_Same.mono : ∀ a0 a1 k, LeO (spileref33_Same.f k a0 a1) (spileref33_Same.f (k + 1) a0 a1) := by
 intro a0 a1 k
 have ih0 := spileref33_Same.mono_l k
 unfold spileref33_Same.f
 repeat' first
   | (with_reducible exact ih0 _ _ _)
   | (with_reducible exact LeO.refl _)
   | (with_reducible exact LeO.none _)
   | (with_reducible refine LeO.ite ?_ ?_)
   | (with_reducible refine LeO.bind ?_ (fun _ => ?_))
   | exact ih0 _ _ _
   | exact LeO.none _
   | refine LeO.ite ?_ ?_
   | refine LeO.bind ?_ (fun _ => ?_)
set_option maxHeartbeats 8000000 in
set_option maxRecDepth 100000 in
theorem spileref33_Same.calls (k : Nat) (A0 : Option Addr) (c0 : Nat) (l0 : List Int) (A1 : Option Addr) (c1 : Nat) (l1 : List Int) (r : Bool) (w : World) (hr0 : Kd.C (Kd.int .i64) w A0 l0.length l0) (hc0 : l0.length ≤ c0) (hr1 : Kd.C (Kd.int .i64) w A1 l1.length l1) (hc1 : l1.length ≤ c1) (h : spileref33_Same.f k l0 l1 = some r) :
  Calls Try.prog 35 #[.slice A0 l0.length c0, .slice A1 l1.length c1] w fun e w' => e = .returned (.bool r) ∧ Drawn0 w w' := by
 have HR0 := Aside0.mk hr0
 have HC0 := Aside0.mk hc0
 clear hr0 hc0
 have HR1 := Aside0.mk hr1
 have HC1 := Aside0.mk hc1
 clear hr1 hc1
 have H : (if (l0.length : Int) = (l1.length : Int) then (spileref33_Same.l0 k l0 l1 0) else (some false)) = some r := h
 clear h
 by_cases c3 : (l0.length : Int) = (l1.length : Int)
 ·rw [if_pos c3] at H
  have c3b0 : ((l0.length : Int) == (l1.length : Int)) = true := beq_iff_eq.mpr c3
  try simp only [beq_self_eq_true, Bool.not_true, Bool.false_or, Bool.true_and] at c3b0
  have c3b1 : ((l0.length : Int) != (l1.length : Int)) = false := bne_eq_false_iff_eq.mpr c3
  have c3b2 : (l0.length == l1.length) = true := by first | simpa using c3 | (simp at c3 ⊢; omega)
  clear c3
  have H' := Aside0.mk H
  clear H
  go_enter Try.func35, Try.ntmps35
  go_wp2
  repeat (go_quiet (fail); try go_wp2)
  go_loopg [5] k (fun kq v5 w' => ∃ (x5_1 : Int), v5 = .int .i64 x5_1 ∧ Aside0 (spileref33_Same.l0 kq l0 l1 x5_1 = some r) ∧ Aside0 (kq ≤ k) ∧ Drawn0 w w')
  case atStart => exact ⟨(0), (by first | rfl | (simp; done) | (simp [*]; done)), H', ⟨Nat.le_refl _⟩, by repeat (first | exact Drawn0.refl _ | apply Drawn0.step)⟩
  case round =>
   clear H'
   try clear c1
   try clear p2
   try clear c3
   try clear c3b0
   try clear c3b1
   try clear c3b2
   obtain ⟨x5_1, rfl, HA, HK1, ⟨m1, rfl⟩⟩ := hrel
   cases gk with
   | zero => exact absurd HA.out (by simp [spileref33_Same.l0])
   | succ k1 =>
    have H := HA.out
    clear HA
    simp only [spileref33_Same.l0] at H
    by_cases c4 : x5_1 < (l0.length : Int)
    ·rw [if_pos c4] at H
     have c4b0 : decide (x5_1 < (l0.length : Int)) = true := decide_eq_true c4
     clear c4
     by_cases c5 : 0 ≤ x5_1
     ·rw [if_pos c5] at H
      have c5b0 : decide (0 ≤ x5_1) = true := decide_eq_true c5
      clear c5
      by_cases c6 : x5_1 < (l1.length : Int)
      ·rw [if_pos c6] at H
       have c6b0 : decide (x5_1 < (l1.length : Int)) = true := decide_eq_true c6
       clear c6
       by_cases c7 : (rd l0 x5_1) = (rd l1 x5_1)
       ·rw [if_pos c7] at H
        have c7b0 : ((rd l0 x5_1) == (rd l1 x5_1)) = true := beq_iff_eq.mpr c7
        try simp only [beq_self_eq_true, Bool.not_true, Bool.false_or, Bool.true_and] at c7b0
        have c7b1 : ((rd l0 x5_1) != (rd l1 x5_1)) = false := bne_eq_false_iff_eq.mpr c7
        clear c7
        have H' := Aside0.mk H
        clear H
        have p557 : 0 ≤ (x5_1 : Int) := of_decide_eq_true (by first | (with_reducible assumption) | assumption)
        have q557 : x5_1 < (l0.length : Int) := of_decide_eq_true (by first | (with_reducible assumption) | assumption)
        obtain ⟨ad557, e557, hx557_0⟩ := Kd.at_int HR0.out x5_1 p557 q557
        cases e557
        replace p557 := eq_true p557
        replace q557 := eq_true q557
        have p558 : 0 ≤ (x5_1 : Int) := of_decide_eq_true (by first | (with_reducible assumption) | assumption)
        have q558 : x5_1 < (l1.length : Int) := of_decide_eq_true (by first | (with_reducible assumption) | assumption)
        obtain ⟨ad558, e558, hx558_0⟩ := Kd.at_int HR1.out x5_1 p558 q558
        cases e558
        replace p558 := eq_true p558
        replace q558 := eq_true q558
        go_wp2
        repeat (go_quiet (fail); try go_wp2)
        go_roundg k1
        case measure => have := HK1.out; omega
        case rel => exact ⟨(wrap64 (x5_1 + 1)), (by first | rfl | (simp; done) | (simp [*]; done)), H', ⟨by have := HK1.out; omega⟩, by repeat (first | exact Drawn0.refl _ | apply Drawn0.step)⟩
       ·rw [if_neg c7] at H
        have c7b0 : ((rd l0 x5_1) == (rd l1 x5_1)) = false := beq_eq_false_iff_ne.mpr c7
        try simp only [beq_self_eq_true, Bool.not_true, Bool.false_or, Bool.true_and] at c7b0
        have c7b1 : ((rd l0 x5_1) != (rd l1 x5_1)) = true := bne_iff_ne.mpr c7
        obtain rfl := Option.some.inj H
        have p557 : 0 ≤ (x5_1 : Int) := of_decide_eq_true (by first | (with_reducible assumption) | assumption)
        have q557 : x5_1 < (l0.length : Int) := of_decide_eq_true (by first | (with_reducible assumption) | assumption)
        obtain ⟨ad557, e557, hx557_0⟩ := Kd.at_int HR0.out x5_1 p557 q557
        cases e557
        replace p557 := eq_true p557
        replace q557 := eq_true q557
        have p558 : 0 ≤ (x5_1 : Int) := of_decide_eq_true (by first | (with_reducible assumption) | assumption)
        have q558 : x5_1 < (l1.length : Int) := of_decide_eq_true (by first | (with_reducible assumption) | assumption)
        obtain ⟨ad558, e558, hx558_0⟩ := Kd.at_int HR1.out x5_1 p558 q558
        cases e558
        replace p558 := eq_true p558
        replace q558 := eq_true q558
        go_wp2
        repeat (go_quiet (fail); try go_wp2)
        go_ret
        exact ⟨by first | rfl | (simp; done) | (simp [*]; done), by repeat (first | exact Drawn0.refl _ | apply Drawn0.step)⟩
      ·rw [if_neg c6] at H
       exact absurd H (by simp)
     ·rw [if_neg c5] at H
      exact absurd H (by simp)
    ·rw [if_neg c4] at H
     have c4b0 : decide (x5_1 < (l0.length : Int)) = false := decide_eq_false c4
     clear c4
     obtain rfl := Option.some.inj H
     go_wp2
     repeat (go_quiet (fail); try go_wp2)
     go_ret
     exact ⟨by first | rfl | (simp; done) | (simp [*]; done), by repeat (first | exact Drawn0.refl _ | apply Drawn0.step)⟩
 ·rw [if_neg c3] at H
  have c3b0 : ((l0.length : Int) == (l1.length : Int)) = false := beq_eq_false_iff_ne.mpr c3
  try simp only [beq_self_eq_true, Bool.not_true, Bool.false_or, Bool.true_and] at c3b0
  have c3b1 : ((l0.length : Int) != (l1.length : Int)) = true := bne_iff_ne.mpr c3
  have c3b2 : (l0.length == l1.length) = false := by first | simpa using c3 | (simp at c3 ⊢; omega)
  obtain rfl := Option.some.inj H
  go_enter Try.func35, Try.ntmps35
  go_wp2
  repeat (go_quiet (fail); try go_wp2)
  go_ret
  exact ⟨by first | rfl | (simp; done) | (simp [*]; done), by repeat (first | exact Drawn0.refl _ | apply Drawn0.step)⟩

/-! ### spilelaw42_SenderHears: function 8 -/
def spilelaw42_SenderHears.f (k : Nat) (a0_0 : Int) (a0_1 : Int) (l0_2 : List (S33)) (a1_0 : Int) (a1_1 : Int) (a2 : Int) : Option (Bool) := (spilelaw42_awake.f k).bind fun t561 => (if t561 = true then ((spileref42_Few.f a0_0 a0_1 l0_2).bind fun t562 => (if t562 = true then ((spileref42_Copy.f a0_0 a0_1 l0_2).bind fun bt563 => ((sender_Heard.f k bt563.1 bt563.2.1 bt563.2.2 a1_0 a1_1).bind fun bt568 => ((spileref42_Heard.f k a0_0 a0_1 l0_2 a1_0 a1_1).bind fun bt575 => ((spileref42_Copy.f a0_0 a0_1 l0_2).bind fun bt582 => ((sender_Again.f k bt582.1 bt582.2.1 bt582.2.2 a2).bind fun bt587 => ((spileref42_Again.f k a0_0 a0_1 l0_2 a2).bind fun bt591 => ((spileref42_Copy.f a0_0 a0_1 l0_2).bind fun bt595 => ((sender_Waits.f k bt595.1 bt595.2.1 bt595.2.2).bind fun bt600 => ((spileref42_Waits.f k a0_0 a0_1 l0_2).bind fun bt604 => ((spileref42_Same.f k bt568.1 bt568.2.1 bt568.2.2.1 bt575.1 bt575.2.1 bt575.2.2.1).bind fun t608 => (if t608 = true then (if bt568.2.2.2 = bt575.2.2.2 then ((spileref41_Same.f k bt587.1 bt591.1).bind fun t609 => (if t609 = true then (if bt587.2 = bt591.2 then ((spileref33_Same.f k bt600.1 bt604.1).bind fun t610 => (if t610 = true then (some (bt600.2 == bt604.2)) else (none))) else (none)) else (none))) else (none)) else (none)))))))))))) else (some true))) else (none))
theorem spilelaw42_SenderHears.mono : ∀ a0 a1 a2 a3 a4 a5 k, LeO (spilelaw42_SenderHears.f k a0 a1 a2 a3 a4 a5) (spilelaw42_SenderHears.f (k + 1) a0 a1 a2 a3 a4 a5) := by
 intro a0 a1 a2 a3 a4 a5 k
 unfold spilelaw42_SenderHears.f
 repeat' first
   | (with_reducible exact sender_Again.mono _ _ _ _ _)
   | (with_reducible exact sender_Heard.mono _ _ _ _ _ _)
   | (with_reducible exact sender_Waits.mono _ _ _ _)
   | (with_reducible exact spilelaw42_awake.mono _)
   | (with_reducible exact spileref33_Same.mono _ _ _)
   | (with_reducible exact spileref41_Same.mono _ _ _)
   | (with_reducible exact spileref42_Again.mono _ _ _ _ _)
   | (with_reducible exact spileref42_Heard.mono _ _ _ _ _ _)
   | (with_reducible exact spileref42_Same.mono _ _ _ _ _ _ _)
   | (with_reducible exact spileref42_Waits.mono _ _ _ _)
   | (with_reducible exact LeO.refl _)
   | (with_reducible exact LeO.none _)
   | (with_reducible refine LeO.ite ?_ ?_)
   | (with_reducible refine LeO.bind ?_ (fun _ => ?_))
   | exact sender_Again.mono _ _ _ _ _
   | exact sender_Heard.mono _ _ _ _ _ _
   | exact sender_Waits.mono _ _ _ _
   | exact spilelaw42_awake.mono _
   | exact spileref33_Same.mono _ _ _
   | exact spileref41_Same.mono _ _ _
   | exact spileref42_Again.mono _ _ _ _ _
   | exact spileref42_Heard.mono _ _ _ _ _ _
   | exact spileref42_Same.mono _ _ _ _ _ _ _
   | exact spileref42_Waits.mono _ _ _ _
   | exact LeO.none _
   | refine LeO.ite ?_ ?_
   | refine LeO.bind ?_ (fun _ => ?_)
def spilelaw42_SenderHears.T5 : Bool × List (List Nat × List Nat) := (true, [([], []), ([0], [0]), ([], []), ([1, 2, 1], [1, 2]), ([3], [3]), ([4], [4]), ([4], [4]), ([], []), ([7, 5, 3, 0, 1, 2, 3, 4, 5, 7], [5, 7]), ([6, 8, 0, 1, 2, 3, 4, 5, 6, 7, 8], [6])])
def spilelaw42_SenderHears.B5 : List Nat := [0, 1, 0, 7, 15, 31, 31, 0, 191, 511]
theorem spilelaw42_SenderHears.tab5 : rtab .any (opsOf Try.f8 5) = spilelaw42_SenderHears.T5 := by kernel_rfl
theorem spilelaw42_SenderHears.bits5 : waitsOk spilelaw42_SenderHears.T5.2 spilelaw42_SenderHears.B5 = true := by kernel_rfl
set_option maxHeartbeats 8000000 in
set_option maxRecDepth 100000 in
theorem spilelaw42_SenderHears.calls (k : Nat) (a0_0 : Int) (a0_1 : Int) (A0_2 : Option Addr) (c0_2 : Nat) (l0_2 : List (S33)) (a1_0 : Int) (a1_1 : Int) (a2 : Int) (r : Bool) (w : World) (hr0_2 : Kd.C k33 w A0_2 l0_2.length l0_2) (hc0_2 : l0_2.length ≤ c0_2) (h : spilelaw42_SenderHears.f k a0_0 a0_1 l0_2 a1_0 a1_1 a2 = some r) :
  Calls Try.prog 8 #[.agg #[.int .i64 a0_0, .int .i64 a0_1, .slice A0_2 l0_2.length c0_2], .agg #[.int .i64 a1_0, .int .i64 a1_1], .int .i64 a2] w fun e w' => e = .returned (.bool r) ∧ Below w.heap.size w w' := by
 have hu24 := Try.underlying24
 have hu44 := Try.underlying44
 have HR0_2 := Aside0.mk hr0_2
 have HC0_2 := Aside0.mk hc0_2
 clear hr0_2 hc0_2
 have HB := Aside0.mk (Below.refl w.heap.size w)
 have H : ((spilelaw42_awake.f k).bind fun t561 => (if t561 = true then ((spileref42_Few.f a0_0 a0_1 l0_2).bind fun t562 => (if t562 = true then ((spileref42_Copy.f a0_0 a0_1 l0_2).bind fun bt563 => ((sender_Heard.f k bt563.1 bt563.2.1 bt563.2.2 a1_0 a1_1).bind fun bt568 => ((spileref42_Heard.f k a0_0 a0_1 l0_2 a1_0 a1_1).bind fun bt575 => ((spileref42_Copy.f a0_0 a0_1 l0_2).bind fun bt582 => ((sender_Again.f k bt582.1 bt582.2.1 bt582.2.2 a2).bind fun bt587 => ((spileref42_Again.f k a0_0 a0_1 l0_2 a2).bind fun bt591 => ((spileref42_Copy.f a0_0 a0_1 l0_2).bind fun bt595 => ((sender_Waits.f k bt595.1 bt595.2.1 bt595.2.2).bind fun bt600 => ((spileref42_Waits.f k a0_0 a0_1 l0_2).bind fun bt604 => ((spileref42_Same.f k bt568.1 bt568.2.1 bt568.2.2.1 bt575.1 bt575.2.1 bt575.2.2.1).bind fun t608 => (if t608 = true then (if bt568.2.2.2 = bt575.2.2.2 then ((spileref41_Same.f k bt587.1 bt591.1).bind fun t609 => (if t609 = true then (if bt587.2 = bt591.2 then ((spileref33_Same.f k bt600.1 bt604.1).bind fun t610 => (if t610 = true then (some (bt600.2 == bt604.2)) else (none))) else (none)) else (none))) else (none)) else (none)))))))))))) else (some true))) else (none))) = some r := h
 clear h
 replace H := Option.bind_eq_some_iff.mp H
 obtain ⟨t561, A40, H⟩ := H
 replace H : (if t561 = true then ((spileref42_Few.f a0_0 a0_1 l0_2).bind fun t562 => (if t562 = true then ((spileref42_Copy.f a0_0 a0_1 l0_2).bind fun bt563 => ((sender_Heard.f k bt563.1 bt563.2.1 bt563.2.2 a1_0 a1_1).bind fun bt568 => ((spileref42_Heard.f k a0_0 a0_1 l0_2 a1_0 a1_1).bind fun bt575 => ((spileref42_Copy.f a0_0 a0_1 l0_2).bind fun bt582 => ((sender_Again.f k bt582.1 bt582.2.1 bt582.2.2 a2).bind fun bt587 => ((spileref42_Again.f k a0_0 a0_1 l0_2 a2).bind fun bt591 => ((spileref42_Copy.f a0_0 a0_1 l0_2).bind fun bt595 => ((sender_Waits.f k bt595.1 bt595.2.1 bt595.2.2).bind fun bt600 => ((spileref42_Waits.f k a0_0 a0_1 l0_2).bind fun bt604 => ((spileref42_Same.f k bt568.1 bt568.2.1 bt568.2.2.1 bt575.1 bt575.2.1 bt575.2.2.1).bind fun t608 => (if t608 = true then (if bt568.2.2.2 = bt575.2.2.2 then ((spileref41_Same.f k bt587.1 bt591.1).bind fun t609 => (if t609 = true then (if bt587.2 = bt591.2 then ((spileref33_Same.f k bt600.1 bt604.1).bind fun t610 => (if t610 = true then (some (bt600.2 == bt604.2)) else (none))) else (none)) else (none))) else (none)) else (none)))))))))))) else (some true))) else (none)) = some r := H
 have A4 := Aside0.mk A40
 clear A40
 by_cases c5 : t561 = true
 ·subst c5
  have H1 : ((spileref42_Few.f a0_0 a0_1 l0_2).bind fun t562 => (if t562 = true then ((spileref42_Copy.f a0_0 a0_1 l0_2).bind fun bt563 => ((sender_Heard.f k bt563.1 bt563.2.1 bt563.2.2 a1_0 a1_1).bind fun bt568 => ((spileref42_Heard.f k a0_0 a0_1 l0_2 a1_0 a1_1).bind fun bt575 => ((spileref42_Copy.f a0_0 a0_1 l0_2).bind fun bt582 => ((sender_Again.f k bt582.1 bt582.2.1 bt582.2.2 a2).bind fun bt587 => ((spileref42_Again.f k a0_0 a0_1 l0_2 a2).bind fun bt591 => ((spileref42_Copy.f a0_0 a0_1 l0_2).bind fun bt595 => ((sender_Waits.f k bt595.1 bt595.2.1 bt595.2.2).bind fun bt600 => ((spileref42_Waits.f k a0_0 a0_1 l0_2).bind fun bt604 => ((spileref42_Same.f k bt568.1 bt568.2.1 bt568.2.2.1 bt575.1 bt575.2.1 bt575.2.2.1).bind fun t608 => (if t608 = true then (if bt568.2.2.2 = bt575.2.2.2 then ((spileref41_Same.f k bt587.1 bt591.1).bind fun t609 => (if t609 = true then (if bt587.2 = bt591.2 then ((spileref33_Same.f k bt600.1 bt604.1).bind fun t610 => (if t610 = true then (some (bt600.2 == bt604.2)) else (none))) else (none)) else (none))) else (none)) else (none)))))))))))) else (some true))) = some r := by rw [if_pos rfl] at H; exact H
  clear H
  have H := H1
  clear H1
  replace H := Option.bind_eq_some_iff.mp H
  obtain ⟨t562, A60, H⟩ := H
  replace H : (if t562 = true then ((spileref42_Copy.f a0_0 a0_1 l0_2).bind fun bt563 => ((sender_Heard.f k bt563.1 bt563.2.1 bt563.2.2 a1_0 a1_1).bind fun bt568 => ((spileref42_Heard.f k a0_0 a0_1 l0_2 a1_0 a1_1).bind fun bt575 => ((spileref42_Copy.f a0_0 a0_1 l0_2).bind fun bt582 => ((sender_Again.f k bt582.1 bt582.2.1 bt582.2.2 a2).bind fun bt587 => ((spileref42_Again.f k a0_0 a0_1 l0_2 a2).bind fun bt591 => ((spileref42_Copy.f a0_0 a0_1 l0_2).bind fun bt595 => ((sender_Waits.f k bt595.1 bt595.2.1 bt595.2.2).bind fun bt600 => ((spileref42_Waits.f k a0_0 a0_1 l0_2).bind fun bt604 => ((spileref42_Same.f k bt568.1 bt568.2.1 bt568.2.2.1 bt575.1 bt575.2.1 bt575.2.2.1).bind fun t608 => (if t608 = true then (if bt568.2.2.2 = bt575.2.2.2 then ((spileref41_Same.f k bt587.1 bt591.1).bind fun t609 => (if t609 = true then (if bt587.2 = bt591.2 then ((spileref33_Same.f k bt600.1 bt604.1).bind fun t610 => (if t610 = true then (some (bt600.2 == bt604.2)) else (none))) else (none)) else (none))) else (none)) else (none)))))))))))) else (some true)) = some r := H
  have A6 := Aside0.mk A60
  clear A60
  by_cases c7 : t562 = true
  ·subst c7
   have H1 : ((spileref42_Copy.f a0_0 a0_1 l0_2).bind fun bt563 => ((sender_Heard.f k bt563.1 bt563.2.1 bt563.2.2 a1_0 a1_1).bind fun bt568 => ((spileref42_Heard.f k a0_0 a0_1 l0_2 a1_0 a1_1).bind fun bt575 => ((spileref42_Copy.f a0_0 a0_1 l0_2).bind fun bt582 => ((sender_Again.f k bt582.1 bt582.2.1 bt582.2.2 a2).bind fun bt587 => ((spileref42_Again.f k a0_0 a0_1 l0_2 a2).bind fun bt591 => ((spileref42_Copy.f a0_0 a0_1 l0_2).bind fun bt595 => ((sender_Waits.f k bt595.1 bt595.2.1 bt595.2.2).bind fun bt600 => ((spileref42_Waits.f k a0_0 a0_1 l0_2).bind fun bt604 => ((spileref42_Same.f k bt568.1 bt568.2.1 bt568.2.2.1 bt575.1 bt575.2.1 bt575.2.2.1).bind fun t608 => (if t608 = true then (if bt568.2.2.2 = bt575.2.2.2 then ((spileref41_Same.f k bt587.1 bt591.1).bind fun t609 => (if t609 = true then (if bt587.2 = bt591.2 then ((spileref33_Same.f k bt600.1 bt604.1).bind fun t610 => (if t610 = true then (some (bt600.2 == bt604.2)) else (none))) else (none)) else (none))) else (none)) else (none)))))))))))) = some r := by rw [if_pos rfl] at H; exact H
   clear H
   have H := H1
   clear H1
   replace H := Option.bind_eq_some_iff.mp H
   obtain ⟨⟨t563, t564, t565⟩, A80, H⟩ := H
   replace H : ((sender_Heard.f k t563 t564 t565 a1_0 a1_1).bind fun bt568 => ((spileref42_Heard.f k a0_0 a0_1 l0_2 a1_0 a1_1).bind fun bt575 => ((spileref42_Copy.f a0_0 a0_1 l0_2).bind fun bt582 => ((sender_Again.f k bt582.1 bt582.2.1 bt582.2.2 a2).bind fun bt587 => ((spileref42_Again.f k a0_0 a0_1 l0_2 a2).bind fun bt591 => ((spileref42_Copy.f a0_0 a0_1 l0_2).bind fun bt595 => ((sender_Waits.f k bt595.1 bt595.2.1 bt595.2.2).bind fun bt600 => ((spileref42_Waits.f k a0_0 a0_1 l0_2).bind fun bt604 => ((spileref42_Same.f k bt568.1 bt568.2.1 bt568.2.2.1 bt575.1 bt575.2.1 bt575.2.2.1).bind fun t608 => (if t608 = true then (if bt568.2.2.2 = bt575.2.2.2 then ((spileref41_Same.f k bt587.1 bt591.1).bind fun t609 => (if t609 = true then (if bt587.2 = bt591.2 then ((spileref33_Same.f k bt600.1 bt604.1).bind fun t610 => (if t610 = true then (some (bt600.2 == bt604.2)) else (none))) else (none)) else (none))) else (none)) else (none))))))))))) = some r := H
   have A8 := Aside0.mk A80
   clear A80
   replace H := Option.bind_eq_some_iff.mp H
   obtain ⟨⟨t568, t569, t570, t573⟩, A90, H⟩ := H
   replace H : ((spileref42_Heard.f k a0_0 a0_1 l0_2 a1_0 a1_1).bind fun bt575 => ((spileref42_Copy.f a0_0 a0_1 l0_2).bind fun bt582 => ((sender_Again.f k bt582.1 bt582.2.1 bt582.2.2 a2).bind fun bt587 => ((spileref42_Again.f k a0_0 a0_1 l0_2 a2).bind fun bt591 => ((spileref42_Copy.f a0_0 a0_1 l0_2).bind fun bt595 => ((sender_Waits.f k bt595.1 bt595.2.1 bt595.2.2).bind fun bt600 => ((spileref42_Waits.f k a0_0 a0_1 l0_2).bind fun bt604 => ((spileref42_Same.f k t568 t569 t570 bt575.1 bt575.2.1 bt575.2.2.1).bind fun t608 => (if t608 = true then (if t573 = bt575.2.2.2 then ((spileref41_Same.f k bt587.1 bt591.1).bind fun t609 => (if t609 = true then (if bt587.2 = bt591.2 then ((spileref33_Same.f k bt600.1 bt604.1).bind fun t610 => (if t610 = true then (some (bt600.2 == bt604.2)) else (none))) else (none)) else (none))) else (none)) else (none)))))))))) = some r := H
   have A9 := Aside0.mk A90
   clear A90
   replace H := Option.bind_eq_some_iff.mp H
   obtain ⟨⟨t575, t576, t577, t580⟩, A100, H⟩ := H
   replace H : ((spileref42_Copy.f a0_0 a0_1 l0_2).bind fun bt582 => ((sender_Again.f k bt582.1 bt582.2.1 bt582.2.2 a2).bind fun bt587 => ((spileref42_Again.f k a0_0 a0_1 l0_2 a2).bind fun bt591 => ((spileref42_Copy.f a0_0 a0_1 l0_2).bind fun bt595 => ((sender_Waits.f k bt595.1 bt595.2.1 bt595.2.2).bind fun bt600 => ((spileref42_Waits.f k a0_0 a0_1 l0_2).bind fun bt604 => ((spileref42_Same.f k t568 t569 t570 t575 t576 t577).bind fun t608 => (if t608 = true then (if t573 = t580 then ((spileref41_Same.f k bt587.1 bt591.1).bind fun t609 => (if t609 = true then (if bt587.2 = bt591.2 then ((spileref33_Same.f k bt600.1 bt604.1).bind fun t610 => (if t610 = true then (some (bt600.2 == bt604.2)) else (none))) else (none)) else (none))) else (none)) else (none))))))))) = some r := H
   have A10 := Aside0.mk A100
   clear A100
   replace H := Option.bind_eq_some_iff.mp H
   obtain ⟨⟨t582, t583, t584⟩, A110, H⟩ := H
   replace H : ((sender_Again.f k t582 t583 t584 a2).bind fun bt587 => ((spileref42_Again.f k a0_0 a0_1 l0_2 a2).bind fun bt591 => ((spileref42_Copy.f a0_0 a0_1 l0_2).bind fun bt595 => ((sender_Waits.f k bt595.1 bt595.2.1 bt595.2.2).bind fun bt600 => ((spileref42_Waits.f k a0_0 a0_1 l0_2).bind fun bt604 => ((spileref42_Same.f k t568 t569 t570 t575 t576 t577).bind fun t608 => (if t608 = true then (if t573 = t580 then ((spileref41_Same.f k bt587.1 bt591.1).bind fun t609 => (if t609 = true then (if bt587.2 = bt591.2 then ((spileref33_Same.f k bt600.1 bt604.1).bind fun t610 => (if t610 = true then (some (bt600.2 == bt604.2)) else (none))) else (none)) else (none))) else (none)) else (none)))))))) = some r := H
   have A11 := Aside0.mk A110
   clear A110
   replace H := Option.bind_eq_some_iff.mp H
   obtain ⟨⟨t587, t590⟩, A120, H⟩ := H
   replace H : ((spileref42_Again.f k a0_0 a0_1 l0_2 a2).bind fun bt591 => ((spileref42_Copy.f a0_0 a0_1 l0_2).bind fun bt595 => ((sender_Waits.f k bt595.1 bt595.2.1 bt595.2.2).bind fun bt600 => ((spileref42_Waits.f k a0_0 a0_1 l0_2).bind fun bt604 => ((spileref42_Same.f k t568 t569 t570 t575 t576 t577).bind fun t608 => (if t608 = true then (if t573 = t580 then ((spileref41_Same.f k t587 bt591.1).bind fun t609 => (if t609 = true then (if t590 = bt591.2 then ((spileref33_Same.f k bt600.1 bt604.1).bind fun t610 => (if t610 = true then (some (bt600.2 == bt604.2)) else (none))) else (none)) else (none))) else (none)) else (none))))))) = some r := H
   have A12 := Aside0.mk A120
   clear A120
   replace H := Option.bind_eq_some_iff.mp H
   obtain ⟨⟨t591, t594⟩, A130, H⟩ := H
   replace H : ((spileref42_Copy.f a0_0 a0_1 l0_2).bind fun bt595 => ((sender_Waits.f k bt595.1 bt595.2.1 bt595.2.2).bind fun bt600 => ((spileref42_Waits.f k a0_0 a0_1 l0_2).bind fun bt604 => ((spileref42_Same.f k t568 t569 t570 t575 t576 t577).bind fun t608 => (if t608 = true then (if t573 = t580 then ((spileref41_Same.f k t587 t591).bind fun t609 => (if t609 = true then (if t590 = t594 then ((spileref33_Same.f k bt600.1 bt604.1).bind fun t610 => (if t610 = true then (some (bt600.2 == bt604.2)) else (none))) else (none)) else (none))) else (none)) else (none)))))) = some r := H
   have A13 := Aside0.mk A130
   clear A130
   replace H := Option.bind_eq_some_iff.mp H
   obtain ⟨⟨t595, t596, t597⟩, A140, H⟩ := H
   replace H : ((sender_Waits.f k t595 t596 t597).bind fun bt600 => ((spileref42_Waits.f k a0_0 a0_1 l0_2).bind fun bt604 => ((spileref42_Same.f k t568 t569 t570 t575 t576 t577).bind fun t608 => (if t608 = true then (if t573 = t580 then ((spileref41_Same.f k t587 t591).bind fun t609 => (if t609 = true then (if t590 = t594 then ((spileref33_Same.f k bt600.1 bt604.1).bind fun t610 => (if t610 = true then (some (bt600.2 == bt604.2)) else (none))) else (none)) else (none))) else (none)) else (none))))) = some r := H
   have A14 := Aside0.mk A140
   clear A140
   replace H := Option.bind_eq_some_iff.mp H
   obtain ⟨⟨t600, t603⟩, A150, H⟩ := H
   replace H : ((spileref42_Waits.f k a0_0 a0_1 l0_2).bind fun bt604 => ((spileref42_Same.f k t568 t569 t570 t575 t576 t577).bind fun t608 => (if t608 = true then (if t573 = t580 then ((spileref41_Same.f k t587 t591).bind fun t609 => (if t609 = true then (if t590 = t594 then ((spileref33_Same.f k t600 bt604.1).bind fun t610 => (if t610 = true then (some (t603 == bt604.2)) else (none))) else (none)) else (none))) else (none)) else (none)))) = some r := H
   have A15 := Aside0.mk A150
   clear A150
   replace H := Option.bind_eq_some_iff.mp H
   obtain ⟨⟨t604, t607⟩, A160, H⟩ := H
   replace H : ((spileref42_Same.f k t568 t569 t570 t575 t576 t577).bind fun t608 => (if t608 = true then (if t573 = t580 then ((spileref41_Same.f k t587 t591).bind fun t609 => (if t609 = true then (if t590 = t594 then ((spileref33_Same.f k t600 t604).bind fun t610 => (if t610 = true then (some (t603 == t607)) else (none))) else (none)) else (none))) else (none)) else (none))) = some r := H
   have A16 := Aside0.mk A160
   clear A160
   replace H := Option.bind_eq_some_iff.mp H
   obtain ⟨t608, A170, H⟩ := H
   replace H : (if t608 = true then (if t573 = t580 then ((spileref41_Same.f k t587 t591).bind fun t609 => (if t609 = true then (if t590 = t594 then ((spileref33_Same.f k t600 t604).bind fun t610 => (if t610 = true then (some (t603 == t607)) else (none))) else (none)) else (none))) else (none)) else (none)) = some r := H
   have A17 := Aside0.mk A170
   clear A170
   by_cases c18 : t608 = true
   ·subst c18
    have H1 : (if t573 = t580 then ((spileref41_Same.f k t587 t591).bind fun t609 => (if t609 = true then (if t590 = t594 then ((spileref33_Same.f k t600 t604).bind fun t610 => (if t610 = true then (some (t603 == t607)) else (none))) else (none)) else (none))) else (none)) = some r := by rw [if_pos rfl] at H; exact H
    clear H
    have H := H1
    clear H1
    by_cases c19 : t573 = t580
    ·rw [if_pos c19] at H
     have c19b0 : (t573 == t580) = true := beq_iff_eq.mpr c19
     try simp only [beq_self_eq_true, Bool.not_true, Bool.false_or, Bool.true_and] at c19b0
     have c19b1 : (t573 != t580) = false := bne_eq_false_iff_eq.mpr c19
     clear c19
     replace H := Option.bind_eq_some_iff.mp H
     obtain ⟨t609, A200, H⟩ := H
     replace H : (if t609 = true then (if t590 = t594 then ((spileref33_Same.f k t600 t604).bind fun t610 => (if t610 = true then (some (t603 == t607)) else (none))) else (none)) else (none)) = some r := H
     have A20 := Aside0.mk A200
     clear A200
     by_cases c21 : t609 = true
     ·subst c21
      have H1 : (if t590 = t594 then ((spileref33_Same.f k t600 t604).bind fun t610 => (if t610 = true then (some (t603 == t607)) else (none))) else (none)) = some r := by rw [if_pos rfl] at H; exact H
      clear H
      have H := H1
      clear H1
      by_cases c22 : t590 = t594
      ·rw [if_pos c22] at H
       have c22b0 : (t590 == t594) = true := beq_iff_eq.mpr c22
       try simp only [beq_self_eq_true, Bool.not_true, Bool.false_or, Bool.true_and] at c22b0
       have c22b1 : (t590 != t594) = false := bne_eq_false_iff_eq.mpr c22
       clear c22
       replace H := Option.bind_eq_some_iff.mp H
       obtain ⟨t610, A230, H⟩ := H
       replace H : (if t610 = true then (some (t603 == t607)) else (none)) = some r := H
       have A23 := Aside0.mk A230
       clear A230
       by_cases c24 : t610 = true
       ·subst c24
        have H1 : (some (t603 == t607)) = some r := by rw [if_pos rfl] at H; exact H
        clear H
        have H := H1
        clear H1
        obtain rfl := Option.some.inj H
        go_enter Try.func8, Try.ntmps8
        try go_wp2_with (first | ((with_reducible refine gqD (N := 3) rfl ?_); refine GS.bx (N := 3) (cs := #[.int .i64 a0_0, .int .i64 a0_1, .slice A0_2 l0_2.length c0_2]) (t := 24) ?_; intro gb559 hg w25 hbox hb; have n0_ := Aside0.mk (lqT (GS.lB HB.out) hb); have n1_ := Aside0.mk (hbox); have n2_ := Aside0.mk ((by rw [hg]; exact (lqZ (GS.lB HB.out)) : w.heap.size ≤ gb559)); have n3_ := Aside0.mk ((by rw [hg]; exact (lqZ (GS.lB HB.out)) : w.heap.size ≤ gb559)); clear HB; have HB := n0_; have BK559 := n1_; have GW559 := n2_; have GE559 := n3_; clear n0_ n1_ n2_ n3_; clear hb hbox hg) | ((with_reducible refine gqD (N := 4) rfl ?_); refine GS.bx (N := 4) (cs := #[.int .i64 a1_0, .int .i64 a1_1]) (t := 44) ?_; intro gb560 hg w26 hbox hb; have n0_ := Aside0.mk (bqB (GS.bqX BK559.out) hb); have n1_ := Aside0.mk (lqT (GS.lB HB.out) hb); have n2_ := Aside0.mk (hbox); have n3_ := Aside0.mk ((by rw [hg]; exact (lqZ (GS.lB HB.out)) : w.heap.size ≤ gb560)); have n4_ := Aside0.mk ((by rw [hg]; exact (lqZ (GS.lB HB.out)) : w.heap.size ≤ gb560)); have n5_ := Aside0.mk ((by rw [hg]; exact Nat.ne_of_lt (blk_lt (GS.bqX BK559.out)) : gb559 ≠ gb560)); have n6_ := Aside0.mk ((by rw [hg]; exact Nat.ne_of_gt (blk_lt (GS.bqX BK559.out)) : gb560 ≠ gb559)); clear BK559; clear HB; have BK559 := n0_; have HB := n1_; have BK560 := n2_; have GW560 := n3_; have GE560 := n4_; have NB559_560 := n5_; have NB560_559 := n6_; clear n0_ n1_ n2_ n3_ n4_ n5_ n6_; clear hb hbox hg) | ((with_reducible refine gqC (f := 10) rfl ?_); refine GS.gL (some 19) Try.func10 #[] ?_; (with_reducible refine (spilelaw42_awake.calls k  true _ A4.out).mono ?_); rintro e w27 ⟨rfl, hb⟩; refine ⟨_, rfl, ?_⟩; have n0_ := Aside0.mk (bqB (GS.bqX BK559.out) hb); have n1_ := Aside0.mk (bqB (GS.bqX BK560.out) hb); have n2_ := Aside0.mk (lqT (GS.lB HB.out) hb); clear BK559; clear BK560; clear HB; have BK559 := n0_; have BK560 := n1_; have HB := n2_; clear n0_ n1_ n2_; (try clear hb); (try clear hb2); (try clear hk); (try clear hi); have hnb28 := NB559_560.out; have hnc28 := NB560_559.out; obtain ⟨hcz29_0, hcz29_1, hcz29_2, hfz29_0, hfz29_1, hfz29_2⟩ := GS.c3 BK559.out) | ((with_reducible refine gqC (f := 11) rfl ?_); refine GS.gL (some 22) Try.func11 #[.agg #[.int .i64 a0_0, .int .i64 a0_1, .slice A0_2 l0_2.length c0_2]] ?_; (with_reducible refine (spileref42_Few.calls a0_0 a0_1 _ _ l0_2 true _ ?side1 ?side2 A6.out).mono ?_); (case side1 => exact GS.rC (Kd.C_below HR0_2.out HB.out)); (case side2 => exact HC0_2.out); rintro e w30 ⟨rfl, hb⟩; refine ⟨_, rfl, ?_⟩; have n0_ := Aside0.mk (bqB (GS.bqX BK559.out) hb); have n1_ := Aside0.mk (bqB (GS.bqX BK560.out) hb); have n2_ := Aside0.mk (lqT (GS.lB HB.out) hb); clear BK559; clear BK560; clear HB; have BK559 := n0_; have BK560 := n1_; have HB := n2_; clear n0_ n1_ n2_; (try clear hb); (try clear hb2); (try clear hk); (try clear hi)))
        have n0_ := Aside0.mk (bqD BK559.out)
        have n1_ := Aside0.mk (bqD BK560.out)
        have n2_ := Aside0.mk (lqD HB.out)
        clear BK559
        clear BK560
        clear HB
        have BK559 := n0_
        have BK560 := n1_
        have HB := n2_
        clear n0_ n1_ n2_
        refine start_ (n := 10) (S := fun w' => True) (ds := []) #[false, false, false, false, false, false, false, false, false, false] (by kernel_rfl) rfl rfl trivial (fun hHeld => ?_); refine with_tabW spilelaw42_SenderHears.tab5 spilelaw42_SenderHears.bits5 (fun HT_ HW_ => ?_)
        generalize w30.drew = w31 at BK559 BK560 HB hHeld ⊢
        refine inv_at [0, 1, 2, 3, 4, 5, 6, 7, 8, 9] (fun a0_ b a w' => ∃ (v566 : Value) (v571 : Value) (gb574 : Nat) (m1_ : Value) (m3_ : Value) (m4_ : Value) (m5_ : Value) (m7_ : Value), a = putSel a0_ b [(0, 25, .agg #[.int .i64 a0_0, .int .i64 a0_1, .slice A0_2 l0_2.length c0_2]), (1, 26, m1_), (2, 27, .agg #[.int .i64 a1_0, .int .i64 a1_1]), (3, 28, m3_), (4, 24, m4_), (5, 29, m5_), (6, 30, .int .i64 t573), (7, 7, m7_), (9, 8, .int .i64 t573)] ∧ (w'.heap[gb559]? = some (.cells #[.int .i64 a0_0, .int .i64 a0_1, .slice A0_2 l0_2.length c0_2] 24 (0, 0))) ∧ (w'.heap[gb560]? = some (.cells #[.int .i64 a1_0, .int .i64 a1_1] 44 (0, 0))) ∧ (Below w.heap.size w w') ∧ (b 1 = true → Kd.R k33 33 w' w.heap.size (fun _ => True) v566 t565) ∧ (b 3 = true → Kd.R k33 33 w' w.heap.size (fun _ => True) v571 t570) ∧ (b 7 = true → b 8 = false → w'.heap[gb574]? = some (.cells #[.int .i64 0, .int .i64 0, .slice none 0 0] 24 (0, 0))) ∧ (b 7 = true → w.heap.size ≤ gb574) ∧ (b 7 = true → w.heap.size ≤ gb574) ∧ (b 7 = true → gb559 ≠ gb574) ∧ (b 7 = true → gb574 ≠ gb559) ∧ (b 7 = true → gb560 ≠ gb574) ∧ (b 7 = true → gb574 ≠ gb560) ∧ (b 8 = true → w'.heap[gb574]? = some (.cells #[.int .i64 t568, .int .i64 t569, v571] 24 (0, 0))) ∧ (b 1 = true → (m1_ : Value) = .agg #[.int .i64 t563, .int .i64 t564, v566]) ∧ (b 3 = true → (m3_ : Value) = .tuple #[.agg #[.int .i64 t568, .int .i64 t569, v571], .int .i64 t573]) ∧ (b 4 = true → (m4_ : Value) = .tuple #[.agg #[.int .i64 t568, .int .i64 t569, v571], .int .i64 t573]) ∧ (b 5 = true → (m5_ : Value) = .agg #[.int .i64 t568, .int .i64 t569, v571]) ∧ (b 7 = true → (m7_ : Value) = .pointer (some ⟨gb574, 0, none⟩))) HT_.out HW_.out (by kernel_rfl) (by kernel_rfl) ?_ ?_ ?_
        ·exact ⟨.bool false, .bool false, 0, .bool false, .bool false, .bool false, .bool false, .bool false, by simp only [putSel, Bool.false_eq_true, if_false], BK559.out, BK560.out, HB.out, fun h_ => absurd h_ (by decide), fun h_ => absurd h_ (by decide), fun h_ => absurd h_ (by decide), fun h_ => absurd h_ (by decide), fun h_ => absurd h_ (by decide), fun h_ => absurd h_ (by decide), fun h_ => absurd h_ (by decide), fun h_ => absurd h_ (by decide), fun h_ => absurd h_ (by decide), fun h_ => absurd h_ (by decide), fun h_ => absurd h_ (by decide), fun h_ => absurd h_ (by decide), fun h_ => absurd h_ (by decide), fun h_ => absurd h_ (by decide), fun h_ => absurd h_ (by decide)⟩
        ·skip
         clear BK559 BK560 HB
         refine steps_cons ?_ ?_
         ·rintro b a w' ⟨v566, v571, gb574, m1_, m3_, m4_, m5_, m7_, ha, Q_BK559, Q_BK560, Q_HB, Q_HO567, Q_HO572, Q_BK574, Q_GW574, Q_GE574, Q_NB559_574, Q_NB574_559, Q_NB560_574, Q_NB574_560, Q_BK574_e8, Q_X1_, Q_X3_, Q_X4_, Q_X5_, Q_X7_⟩ hb_ hon hoff
          refine ⟨_, rfl, fun K hK => ?_⟩
          have e3 : a.tmps[3]? = some (.pointer (some ⟨gb559, 0, none⟩)) := by rw [ha]; exact (putSel_off rfl).trans rfl
          replace ha := Aside0.mk ha
          have BK559 := Aside0.mk Q_BK559
          have BK560 := Aside0.mk Q_BK560
          have HB := Aside0.mk Q_HB
          have hc0_ : w'.cell? ⟨gb559, 0, none⟩ = some (.int .i64 a0_0) := (bqC BK559.out 0).trans rfl
          have hc1_ : w'.cell? ⟨gb559, 1, none⟩ = some (.int .i64 a0_1) := (bqC BK559.out 1).trans rfl
          have hc2_ : w'.cell? ⟨gb559, 2, none⟩ = some (.slice A0_2 l0_2.length c0_2) := (bqC BK559.out 2).trans rfl
          refine value_ (w1 := w') (v := .agg #[.int .i64 a0_0, .int .i64 a0_1, .slice A0_2 l0_2.length c0_2]) (by rfl) rfl ?_ ?_
          ·go_simp
           (try simp only [i64_w])
           try rfl
          refine hK.out _ _ ⟨v566, v571, gb574, m1_, m3_, m4_, m5_, m7_, (by rw [ha.out]; exact putSel_upk 0 hb_ rfl rfl rfl), Q_BK559, Q_BK560, Q_HB, fun h0_ => absurd ((hoff 1 (by kernel_rfl)).symm.trans h0_) (by decide), fun h0_ => absurd ((hoff 3 (by kernel_rfl)).symm.trans h0_) (by decide), Q_BK574, Q_GW574, Q_GE574, Q_NB559_574, Q_NB574_559, Q_NB560_574, Q_NB574_560, fun h0_ => absurd ((hoff 8 (by kernel_rfl)).symm.trans h0_) (by decide), fun h0_ => absurd ((hoff 1 (by kernel_rfl)).symm.trans h0_) (by decide), fun h0_ => absurd ((hoff 3 (by kernel_rfl)).symm.trans h0_) (by decide), fun h0_ => absurd ((hoff 4 (by kernel_rfl)).symm.trans h0_) (by decide), fun h0_ => absurd ((hoff 5 (by kernel_rfl)).symm.trans h0_) (by decide), Q_X7_⟩
         refine steps_cons ?_ ?_
         ·rintro b a w' ⟨v566, v571, gb574, m1_, m3_, m4_, m5_, m7_, ha, Q_BK559, Q_BK560, Q_HB, Q_HO567, Q_HO572, Q_BK574, Q_GW574, Q_GE574, Q_NB559_574, Q_NB574_559, Q_NB560_574, Q_NB574_560, Q_BK574_e8, Q_X1_, Q_X3_, Q_X4_, Q_X5_, Q_X7_⟩ hb_ hon hoff
          refine ⟨_, rfl, fun K hK => ?_⟩
          have e25 : a.tmps[25]? = some (.agg #[.int .i64 a0_0, .int .i64 a0_1, .slice A0_2 l0_2.length c0_2]) := by rw [ha]; exact putSel_on (e := (0, 25, .agg #[.int .i64 a0_0, .int .i64 a0_1, .slice A0_2 l0_2.length c0_2])) 0 rfl rfl (hon 0 (by kernel_rfl)) rfl
          replace ha := Aside0.mk ha
          have BK559 := Aside0.mk Q_BK559
          have BK560 := Aside0.mk Q_BK560
          have HB := Aside0.mk Q_HB
          refine goes_ Try.func15 (by kernel_rfl) rfl #[.agg #[.int .i64 a0_0, .int .i64 a0_1, .slice A0_2 l0_2.length c0_2]] (by rfl) rfl rfl (by first | (simp only [List.map_toArray, List.map_cons, List.map_nil, Act.eval, Array.getD_eq_getD_getElem?, Option.getD_some, e25]; done) | (simp only [List.map_toArray, List.map_cons, List.map_nil, Act.eval, Array.getD_eq_getD_getElem?, Option.getD_some, e25]; rfl)) ?_
          with_reducible refine (spileref42_Copy.calls a0_0 a0_1 _ _ l0_2 t563 t564 t565 _ ?side1 ?side2 A8.out).mono ?_
          (case side1 => exact GS.rC (Kd.C_below HR0_2.out HB.out))
          (case side2 => exact HC0_2.out)
          rintro e w32 ⟨v566, rfl, ho0, hb⟩
          refine ⟨_, rfl, ?_⟩
          have n0_ := Aside0.mk (Kd.R_lower ho0 (lqZ (GS.lB HB.out)))
          have n1_ := Aside0.mk (bqB (GS.bqX BK559.out) hb)
          have n2_ := Aside0.mk (bqB (GS.bqX BK560.out) hb)
          have n3_ := Aside0.mk (lqT (GS.lB HB.out) hb)
          have z_BK574 := fun (h0_ : b 7 = true) (h1_ : b 8 = false) => (show w32.heap[gb574]? = some (.cells #[.int .i64 0, .int .i64 0, .slice none 0 0] 24 (0, 0)) from by first | exact (bqB (GS.bqX (Q_BK574 h0_ h1_)) hb))
          clear BK559
          clear BK560
          clear HB
          have HO567 := n0_
          have BK559 := n1_
          have BK560 := n2_
          have HB := n3_
          clear n0_ n1_ n2_ n3_
          (try clear hb)
          (try clear hb2)
          (try clear hk)
          (try clear hi)
          (try clear ho0)
          refine hK.out _ _ ⟨v566, v571, gb574, (.agg #[.int .i64 t563, .int .i64 t564, v566]), m3_, m4_, m5_, m7_, (by rw [ha.out]; exact putSel_upk 1 hb_ rfl rfl rfl), (GS.bqX BK559.out), (GS.bqX BK560.out), (GS.lB HB.out), fun _ => (GS.rR HO567.out), fun h0_ => absurd ((hoff 3 (by kernel_rfl)).symm.trans h0_) (by decide), z_BK574, Q_GW574, Q_GE574, Q_NB559_574, Q_NB574_559, Q_NB560_574, Q_NB574_560, fun h0_ => absurd ((hoff 8 (by kernel_rfl)).symm.trans h0_) (by decide), fun _ => rfl, fun h0_ => absurd ((hoff 3 (by kernel_rfl)).symm.trans h0_) (by decide), fun h0_ => absurd ((hoff 4 (by kernel_rfl)).symm.trans h0_) (by decide), fun h0_ => absurd ((hoff 5 (by kernel_rfl)).symm.trans h0_) (by decide), Q_X7_⟩
         refine steps_cons ?_ ?_
         ·rintro b a w' ⟨v566, v571, gb574, m1_, m3_, m4_, m5_, m7_, ha, Q_BK559, Q_BK560, Q_HB, Q_HO567, Q_HO572, Q_BK574, Q_GW574, Q_GE574, Q_NB559_574, Q_NB574_559, Q_NB560_574, Q_NB574_560, Q_BK574_e8, Q_X1_, Q_X3_, Q_X4_, Q_X5_, Q_X7_⟩ hb_ hon hoff
          refine ⟨_, rfl, fun K hK => ?_⟩
          have e4 : a.tmps[4]? = some (.pointer (some ⟨gb560, 0, none⟩)) := by rw [ha]; exact (putSel_off rfl).trans rfl
          replace ha := Aside0.mk ha
          have BK559 := Aside0.mk Q_BK559
          have BK560 := Aside0.mk Q_BK560
          have HB := Aside0.mk Q_HB
          have hc0_ : w'.cell? ⟨gb560, 0, none⟩ = some (.int .i64 a1_0) := (bqC BK560.out 0).trans rfl
          have hc1_ : w'.cell? ⟨gb560, 1, none⟩ = some (.int .i64 a1_1) := (bqC BK560.out 1).trans rfl
          refine value_ (w1 := w') (v := .agg #[.int .i64 a1_0, .int .i64 a1_1]) (by rfl) rfl ?_ ?_
          ·go_simp
           (try simp only [i64_w])
           try rfl
          refine hK.out _ _ ⟨v566, v571, gb574, m1_, m3_, m4_, m5_, m7_, (by rw [ha.out]; exact putSel_upk 2 hb_ rfl rfl rfl), Q_BK559, Q_BK560, Q_HB, Q_HO567, fun h0_ => absurd ((hoff 3 (by kernel_rfl)).symm.trans h0_) (by decide), Q_BK574, Q_GW574, Q_GE574, Q_NB559_574, Q_NB574_559, Q_NB560_574, Q_NB574_560, fun h0_ => absurd ((hoff 8 (by kernel_rfl)).symm.trans h0_) (by decide), Q_X1_, fun h0_ => absurd ((hoff 3 (by kernel_rfl)).symm.trans h0_) (by decide), fun h0_ => absurd ((hoff 4 (by kernel_rfl)).symm.trans h0_) (by decide), fun h0_ => absurd ((hoff 5 (by kernel_rfl)).symm.trans h0_) (by decide), Q_X7_⟩
         refine steps_cons ?_ ?_
         ·rintro b a w' ⟨v566, v571, gb574, m1_, m3_, m4_, m5_, m7_, ha, Q_BK559, Q_BK560, Q_HB, Q_HO567, Q_HO572, Q_BK574, Q_GW574, Q_GE574, Q_NB559_574, Q_NB574_559, Q_NB560_574, Q_NB574_560, Q_BK574_e8, Q_X1_, Q_X3_, Q_X4_, Q_X5_, Q_X7_⟩ hb_ hon hoff
          refine ⟨_, rfl, fun K hK => ?_⟩
          have e26 : a.tmps[26]? = some (m1_) := by rw [ha]; exact putSel_on (e := (1, 26, m1_)) 1 rfl rfl (hon 1 (by kernel_rfl)) rfl
          rw [Q_X1_ (hon 1 (by kernel_rfl))] at e26
          have e27 : a.tmps[27]? = some (.agg #[.int .i64 a1_0, .int .i64 a1_1]) := by rw [ha]; exact putSel_on (e := (2, 27, .agg #[.int .i64 a1_0, .int .i64 a1_1])) 2 rfl rfl (hon 2 (by kernel_rfl)) rfl
          replace ha := Aside0.mk ha
          have BK559 := Aside0.mk Q_BK559
          have BK560 := Aside0.mk Q_BK560
          have HB := Aside0.mk Q_HB
          have HO567 := Aside0.mk (Q_HO567 (hon 1 (by kernel_rfl)))
          obtain ⟨Ao34, co34, eo34⟩ := Kd.R_slice HO567.out
          (first | subst eo34 | (injection eo34 with f1_ f2_ f3_; have f4_ := f1_.symm; have f5_ := f3_.symm; clear f1_ f2_ f3_; subst f4_; subst f5_))
          refine goes_ Try.func22 (by kernel_rfl) rfl #[.agg #[.int .i64 t563, .int .i64 t564, .slice Ao34 t565.length co34], .agg #[.int .i64 a1_0, .int .i64 a1_1]] (by rfl) rfl rfl (by first | (simp only [List.map_toArray, List.map_cons, List.map_nil, Act.eval, Array.getD_eq_getD_getElem?, Option.getD_some, e26, e27]; done) | (simp only [List.map_toArray, List.map_cons, List.map_nil, Act.eval, Array.getD_eq_getD_getElem?, Option.getD_some, e26, e27]; rfl)) ?_
          with_reducible refine (sender_Heard.calls k t563 t564 _ _ t565 a1_0 a1_1 t568 t569 t570 t573 _ ?side1 ?side2 A9.out).mono ?_
          (case side1 => repeat (first | exact (Kd.R_reads' HO567.out).2.2 | (with_reducible refine Kd.C_alloc ?_ _) | (with_reducible refine Kd.C_drewN ?_ _) | (with_reducible refine Kd.C_drew ?_)))
          (case side2 => exact (Kd.R_reads' HO567.out).2.1)
          rintro e w35 ⟨v571, rfl, ho0, hb⟩
          refine ⟨_, rfl, ?_⟩
          have n0_ := Aside0.mk (Kd.R_elder' (GS.rR HO567.out) (Kd.R_base ho0) hb)
          have n1_ := Aside0.mk (Kd.R_lower (Kd.R_new' ho0 (Kd.R_lt (GS.rR HO567.out))) (lqZ (GS.lB HB.out)))
          have n2_ := Aside0.mk (bqB (GS.bqX BK559.out) hb)
          have n3_ := Aside0.mk (bqB (GS.bqX BK560.out) hb)
          have n4_ := Aside0.mk (lqT (GS.lB HB.out) hb)
          have z_BK574 := fun (h0_ : b 7 = true) (h1_ : b 8 = false) => (show w35.heap[gb574]? = some (.cells #[.int .i64 0, .int .i64 0, .slice none 0 0] 24 (0, 0)) from by first | exact (bqB (GS.bqX (Q_BK574 h0_ h1_)) hb))
          clear HO567
          clear BK559
          clear BK560
          clear HB
          have HO567 := n0_
          have HO572 := n1_
          have BK559 := n2_
          have BK560 := n3_
          have HB := n4_
          clear n0_ n1_ n2_ n3_ n4_
          (try clear hb)
          (try clear hb2)
          (try clear hk)
          (try clear hi)
          (try clear ho0)
          refine hK.out _ _ ⟨.slice Ao34 t565.length co34, v571, gb574, m1_, (.tuple #[.agg #[.int .i64 t568, .int .i64 t569, v571], .int .i64 t573]), m4_, m5_, m7_, (by rw [ha.out]; exact putSel_upk 3 hb_ rfl rfl rfl), (GS.bqX BK559.out), (GS.bqX BK560.out), (GS.lB HB.out), fun _ => (GS.rR (Kd.R_mono HO567.out (fun _ hk => GS.cj hk))), fun _ => (GS.rR (Kd.R_mono HO572.out (fun _ hk => GS.cj hk))), z_BK574, Q_GW574, Q_GE574, Q_NB559_574, Q_NB574_559, Q_NB560_574, Q_NB574_560, fun h0_ => absurd ((hoff 8 (by kernel_rfl)).symm.trans h0_) (by decide), Q_X1_, fun _ => rfl, fun h0_ => absurd ((hoff 4 (by kernel_rfl)).symm.trans h0_) (by decide), fun h0_ => absurd ((hoff 5 (by kernel_rfl)).symm.trans h0_) (by decide), Q_X7_⟩
         refine steps_cons ?_ ?_
         ·rintro b a w' ⟨v566, v571, gb574, m1_, m3_, m4_, m5_, m7_, ha, Q_BK559, Q_BK560, Q_HB, Q_HO567, Q_HO572, Q_BK574, Q_GW574, Q_GE574, Q_NB559_574, Q_NB574_559, Q_NB560_574, Q_NB574_560, Q_BK574_e8, Q_X1_, Q_X3_, Q_X4_, Q_X5_, Q_X7_⟩ hb_ hon hoff
          refine ⟨_, rfl, fun K hK => ?_⟩
          have e28 : a.tmps[28]? = some (m3_) := by rw [ha]; exact putSel_on (e := (3, 28, m3_)) 3 rfl rfl (hon 3 (by kernel_rfl)) rfl
          rw [Q_X3_ (hon 3 (by kernel_rfl))] at e28
          replace ha := Aside0.mk ha
          have BK559 := Aside0.mk Q_BK559
          have BK560 := Aside0.mk Q_BK560
          have HB := Aside0.mk Q_HB
          have HO567 := Aside0.mk (Q_HO567 (hon 1 (by kernel_rfl)))
          have HO572 := Aside0.mk (Q_HO572 (hon 3 (by kernel_rfl)))
          refine value_ (w1 := w') (v := .tuple #[.agg #[.int .i64 t568, .int .i64 t569, v571], .int .i64 t573]) (by rfl) rfl ?_ ?_
          ·go_simp
           (try simp only [i64_w])
           try rfl
          refine hK.out _ _ ⟨v566, v571, gb574, m1_, m3_, (.tuple #[.agg #[.int .i64 t568, .int .i64 t569, v571], .int .i64 t573]), m5_, m7_, (by rw [ha.out]; exact putSel_upk 4 hb_ rfl rfl rfl), Q_BK559, Q_BK560, Q_HB, Q_HO567, Q_HO572, Q_BK574, Q_GW574, Q_GE574, Q_NB559_574, Q_NB574_559, Q_NB560_574, Q_NB574_560, fun h0_ => absurd ((hoff 8 (by kernel_rfl)).symm.trans h0_) (by decide), Q_X1_, Q_X3_, fun _ => rfl, fun h0_ => absurd ((hoff 5 (by kernel_rfl)).symm.trans h0_) (by decide), Q_X7_⟩
         refine steps_cons ?_ ?_
         ·rintro b a w' ⟨v566, v571, gb574, m1_, m3_, m4_, m5_, m7_, ha, Q_BK559, Q_BK560, Q_HB, Q_HO567, Q_HO572, Q_BK574, Q_GW574, Q_GE574, Q_NB559_574, Q_NB574_559, Q_NB560_574, Q_NB574_560, Q_BK574_e8, Q_X1_, Q_X3_, Q_X4_, Q_X5_, Q_X7_⟩ hb_ hon hoff
          refine ⟨_, rfl, fun K hK => ?_⟩
          have e24 : a.tmps[24]? = some (m4_) := by rw [ha]; exact putSel_on (e := (4, 24, m4_)) 4 rfl rfl (hon 4 (by kernel_rfl)) rfl
          rw [Q_X4_ (hon 4 (by kernel_rfl))] at e24
          replace ha := Aside0.mk ha
          have BK559 := Aside0.mk Q_BK559
          have BK560 := Aside0.mk Q_BK560
          have HB := Aside0.mk Q_HB
          have HO567 := Aside0.mk (Q_HO567 (hon 1 (by kernel_rfl)))
          have HO572 := Aside0.mk (Q_HO572 (hon 3 (by kernel_rfl)))
          refine value_ (w1 := w') (v := .agg #[.int .i64 t568, .int .i64 t569, v571]) (by rfl) rfl ?_ ?_
          ·go_simp
           (try simp only [i64_w])
           try rfl
          refine hK.out _ _ ⟨v566, v571, gb574, m1_, m3_, m4_, (.agg #[.int .i64 t568, .int .i64 t569, v571]), m7_, (by rw [ha.out]; exact putSel_upk 5 hb_ rfl rfl rfl), Q_BK559, Q_BK560, Q_HB, Q_HO567, Q_HO572, Q_BK574, Q_GW574, Q_GE574, Q_NB559_574, Q_NB574_559, Q_NB560_574, Q_NB574_560, fun h0_ => absurd ((hoff 8 (by kernel_rfl)).symm.trans h0_) (by decide), Q_X1_, Q_X3_, Q_X4_, fun _ => rfl, Q_X7_⟩
         refine steps_cons ?_ ?_
         ·rintro b a w' ⟨v566, v571, gb574, m1_, m3_, m4_, m5_, m7_, ha, Q_BK559, Q_BK560, Q_HB, Q_HO567, Q_HO572, Q_BK574, Q_GW574, Q_GE574, Q_NB559_574, Q_NB574_559, Q_NB560_574, Q_NB574_560, Q_BK574_e8, Q_X1_, Q_X3_, Q_X4_, Q_X5_, Q_X7_⟩ hb_ hon hoff
          refine ⟨_, rfl, fun K hK => ?_⟩
          have e24 : a.tmps[24]? = some (m4_) := by rw [ha]; exact putSel_on (e := (4, 24, m4_)) 4 rfl rfl (hon 4 (by kernel_rfl)) rfl
          rw [Q_X4_ (hon 4 (by kernel_rfl))] at e24
          replace ha := Aside0.mk ha
          have BK559 := Aside0.mk Q_BK559
          have BK560 := Aside0.mk Q_BK560
          have HB := Aside0.mk Q_HB
          have HO567 := Aside0.mk (Q_HO567 (hon 1 (by kernel_rfl)))
          have HO572 := Aside0.mk (Q_HO572 (hon 3 (by kernel_rfl)))
          refine value_ (w1 := w') (v := .int .i64 t573) (by rfl) rfl ?_ ?_
          ·go_simp
           (try simp only [i64_w])
           try rfl
          refine hK.out _ _ ⟨v566, v571, gb574, m1_, m3_, m4_, m5_, m7_, (by rw [ha.out]; exact putSel_upk 6 hb_ rfl rfl rfl), Q_BK559, Q_BK560, Q_HB, Q_HO567, Q_HO572, Q_BK574, Q_GW574, Q_GE574, Q_NB559_574, Q_NB574_559, Q_NB560_574, Q_NB574_560, Q_BK574_e8, Q_X1_, Q_X3_, Q_X4_, Q_X5_, Q_X7_⟩
         refine steps_cons ?_ ?_
         ·rintro b a w' ⟨v566, v571, gb574, m1_, m3_, m4_, m5_, m7_, ha, Q_BK559, Q_BK560, Q_HB, Q_HO567, Q_HO572, Q_BK574, Q_GW574, Q_GE574, Q_NB559_574, Q_NB574_559, Q_NB560_574, Q_NB574_560, Q_BK574_e8, Q_X1_, Q_X3_, Q_X4_, Q_X5_, Q_X7_⟩ hb_ hon hoff
          refine ⟨_, rfl, fun K hK => ?_⟩
          replace ha := Aside0.mk ha
          have BK559 := Aside0.mk Q_BK559
          have BK560 := Aside0.mk Q_BK560
          have HB := Aside0.mk Q_HB
          refine box_step ?hg (N := 7) ?hd (cs := #[.int .i64 0, .int .i64 0, .slice none 0 0]) (t := 24) ?hr ?_; (case hd => rfl); (case hg => rfl); (case hr => first | (go_simp; done) | (go_simp; rfl))
          intro gb574 hg w32 hbox hb
          have n0_ := Aside0.mk (bqB (GS.bqX BK559.out) hb)
          have n1_ := Aside0.mk (bqB (GS.bqX BK560.out) hb)
          have n2_ := Aside0.mk (lqT (GS.lB HB.out) hb)
          have n3_ := Aside0.mk (hbox)
          have n4_ := Aside0.mk ((by rw [hg]; exact (lqZ (GS.lB HB.out)) : w.heap.size ≤ gb574))
          have n5_ := Aside0.mk ((by rw [hg]; exact (lqZ (GS.lB HB.out)) : w.heap.size ≤ gb574))
          have n6_ := Aside0.mk ((by rw [hg]; exact Nat.ne_of_lt (blk_lt (GS.bqX BK559.out)) : gb559 ≠ gb574))
          have n7_ := Aside0.mk ((by rw [hg]; exact Nat.ne_of_gt (blk_lt (GS.bqX BK559.out)) : gb574 ≠ gb559))
          have n8_ := Aside0.mk ((by rw [hg]; exact Nat.ne_of_lt (blk_lt (GS.bqX BK560.out)) : gb560 ≠ gb574))
          have n9_ := Aside0.mk ((by rw [hg]; exact Nat.ne_of_gt (blk_lt (GS.bqX BK560.out)) : gb574 ≠ gb560))
          have z_HO567 := fun (h0_ : b 1 = true) => (show Kd.R k33 33 w32 w.heap.size (fun _ => True) v566 t565 from by first | exact (Kd.R_below (GS.rR (Q_HO567 h0_)) hb) | exact Kd.R_mono (Kd.R_below (GS.rR (Q_HO567 h0_)) hb) (fun _ hk => GS.cj hk))
          have z_HO572 := fun (h0_ : b 3 = true) => (show Kd.R k33 33 w32 w.heap.size (fun _ => True) v571 t570 from by first | exact (Kd.R_below (GS.rR (Q_HO572 h0_)) hb) | exact Kd.R_mono (Kd.R_below (GS.rR (Q_HO572 h0_)) hb) (fun _ hk => GS.cj hk))
          clear BK559
          clear BK560
          clear HB
          have BK559 := n0_
          have BK560 := n1_
          have HB := n2_
          have BK574 := n3_
          have GW574 := n4_
          have GE574 := n5_
          have NB559_574 := n6_
          have NB574_559 := n7_
          have NB560_574 := n8_
          have NB574_560 := n9_
          clear n0_ n1_ n2_ n3_ n4_ n5_ n6_ n7_ n8_ n9_
          clear hb hbox hg
          refine hK.out _ _ ⟨v566, v571, gb574, m1_, m3_, m4_, m5_, (.pointer (some ⟨gb574, 0, none⟩)), (by rw [ha.out]; exact putSel_upk 7 hb_ rfl rfl rfl), (GS.bqX BK559.out), (GS.bqX BK560.out), (GS.lB HB.out), z_HO567, z_HO572, fun _ _ => (GS.bqX BK574.out), fun _ => GW574.out, fun _ => GE574.out, fun _ => NB559_574.out, fun _ => NB574_559.out, fun _ => NB560_574.out, fun _ => NB574_560.out, fun h0_ => absurd ((hoff 8 (by kernel_rfl)).symm.trans h0_) (by decide), Q_X1_, Q_X3_, Q_X4_, Q_X5_, fun _ => rfl⟩
         refine steps_cons ?_ ?_
         ·rintro b a w' ⟨v566, v571, gb574, m1_, m3_, m4_, m5_, m7_, ha, Q_BK559, Q_BK560, Q_HB, Q_HO567, Q_HO572, Q_BK574, Q_GW574, Q_GE574, Q_NB559_574, Q_NB574_559, Q_NB560_574, Q_NB574_560, Q_BK574_e8, Q_X1_, Q_X3_, Q_X4_, Q_X5_, Q_X7_⟩ hb_ hon hoff
          refine ⟨_, rfl, fun K hK => ?_⟩
          have e7 : a.tmps[7]? = some (m7_) := by rw [ha]; exact putSel_on (e := (7, 7, m7_)) 7 rfl rfl (hon 7 (by kernel_rfl)) rfl
          rw [Q_X7_ (hon 7 (by kernel_rfl))] at e7
          have e29 : a.tmps[29]? = some (m5_) := by rw [ha]; exact putSel_on (e := (5, 29, m5_)) 5 rfl rfl (hon 5 (by kernel_rfl)) rfl
          rw [Q_X5_ (hon 5 (by kernel_rfl))] at e29
          replace ha := Aside0.mk ha
          have BK559 := Aside0.mk Q_BK559
          have BK560 := Aside0.mk Q_BK560
          have HB := Aside0.mk Q_HB
          have HO567 := Aside0.mk (Q_HO567 (hon 1 (by kernel_rfl)))
          have HO572 := Aside0.mk (Q_HO572 (hon 3 (by kernel_rfl)))
          have BK574 := Aside0.mk (Q_BK574 (hon 7 (by kernel_rfl)) hb_)
          have GW574 := Aside0.mk (Q_GW574 (hon 7 (by kernel_rfl)))
          have GE574 := Aside0.mk (Q_GE574 (hon 7 (by kernel_rfl)))
          have NB559_574 := Aside0.mk (Q_NB559_574 (hon 7 (by kernel_rfl)))
          have NB574_559 := Aside0.mk (Q_NB574_559 (hon 7 (by kernel_rfl)))
          have NB560_574 := Aside0.mk (Q_NB560_574 (hon 7 (by kernel_rfl)))
          have NB574_560 := Aside0.mk (Q_NB574_560 (hon 7 (by kernel_rfl)))
          obtain ⟨Ao39, co39, eo39⟩ := Kd.R_slice HO572.out
          (first | subst eo39 | (injection eo39 with f1_ f2_ f3_; have f4_ := f1_.symm; have f5_ := f3_.symm; clear f1_ f2_ f3_; subst f4_; subst f5_))
          have hs37 : w'.cell? ⟨gb574, 0, none⟩ = some (.int .i64 0) := (bqC BK574.out 0).trans rfl
          have hfs37 := bqF BK574.out 0
          have hns37_0 := NB559_574.out
          have hns37_1 := NB560_574.out
          have hms37_0 := NB574_559.out
          have hms37_1 := NB574_560.out
          have hs38 : w'.cell? ⟨gb574, 1, none⟩ = some (.int .i64 0) := (bqC BK574.out 1).trans rfl
          have hfs38 := bqF BK574.out 1
          have hns38_0 := NB559_574.out
          have hns38_1 := NB560_574.out
          have hms38_0 := NB574_559.out
          have hms38_1 := NB574_560.out
          have hs40 : w'.cell? ⟨gb574, 2, none⟩ = some (.slice none 0 0) := (bqC BK574.out 2).trans rfl
          have hfs40 := bqF BK574.out 2
          have hns40_0 := NB559_574.out
          have hns40_1 := NB560_574.out
          have hms40_0 := NB574_559.out
          have hms40_1 := NB574_560.out
          refine skip_ (w1 := ?_) (by rfl) rfl ?_ ?_
          rotate_left
          ·go_simp
           rfl
          refine hK.out _ _ ⟨v566, .slice Ao39 t570.length co39, gb574, m1_, m3_, m4_, m5_, m7_, (by rw [ha.out]; exact putSel_none (v := undef) rfl), (GS.bqX BK559.out), (GS.bqX BK560.out), (GS.lB HB.out), fun _ => (by (with_reducible repeat (first | apply Kd.R_alloc | apply Kd.R_drewN | apply Kd.R_drew)); exact Kd.R_mono (Kd.R_far (p := ⟨gb574, 2, none⟩) (Kd.R_far (p := ⟨gb574, 1, none⟩) (Kd.R_far (p := ⟨gb574, 0, none⟩) (Kd.R_types HO567.out BK574.out (by decide)) (fun _ hk => hk.2) (.int .i64 t568)) (fun _ hk => hk.2) (.int .i64 t569)) (fun _ hk => hk.2) (.slice Ao39 t570.length co39)) (fun _ hk => GS.cj hk)), fun _ => (by (with_reducible repeat (first | apply Kd.R_alloc | apply Kd.R_drewN | apply Kd.R_drew)); exact Kd.R_mono (Kd.R_far (p := ⟨gb574, 2, none⟩) (Kd.R_far (p := ⟨gb574, 1, none⟩) (Kd.R_far (p := ⟨gb574, 0, none⟩) (Kd.R_types HO572.out BK574.out (by decide)) (fun _ hk => hk.2) (.int .i64 t568)) (fun _ hk => hk.2) (.int .i64 t569)) (fun _ hk => hk.2) (.slice Ao39 t570.length co39)) (fun _ hk => GS.cj hk)), fun _ h1_ => absurd ((up_self b 8).symm.trans h1_) (by decide), fun _ => GW574.out, fun _ => GE574.out, fun _ => NB559_574.out, fun _ => NB574_559.out, fun _ => NB560_574.out, fun _ => NB574_560.out, fun _ => (GS.bqZ BK574.out), Q_X1_, Q_X3_, Q_X4_, Q_X5_, Q_X7_⟩
         refine steps_cons ?_ ?_
         ·rintro b a w' ⟨v566, v571, gb574, m1_, m3_, m4_, m5_, m7_, ha, Q_BK559, Q_BK560, Q_HB, Q_HO567, Q_HO572, Q_BK574, Q_GW574, Q_GE574, Q_NB559_574, Q_NB574_559, Q_NB560_574, Q_NB574_560, Q_BK574_e8, Q_X1_, Q_X3_, Q_X4_, Q_X5_, Q_X7_⟩ hb_ hon hoff
          refine ⟨_, rfl, fun K hK => ?_⟩
          have e30 : a.tmps[30]? = some (.int .i64 t573) := by rw [ha]; exact putSel_on (e := (6, 30, .int .i64 t573)) 6 rfl rfl (hon 6 (by kernel_rfl)) rfl
          replace ha := Aside0.mk ha
          have BK559 := Aside0.mk Q_BK559
          have BK560 := Aside0.mk Q_BK560
          have HB := Aside0.mk Q_HB
          have HO567 := Aside0.mk (Q_HO567 (hon 1 (by kernel_rfl)))
          have HO572 := Aside0.mk (Q_HO572 (hon 3 (by kernel_rfl)))
          have GW574 := Aside0.mk (Q_GW574 (hon 7 (by kernel_rfl)))
          have GE574 := Aside0.mk (Q_GE574 (hon 7 (by kernel_rfl)))
          have NB559_574 := Aside0.mk (Q_NB559_574 (hon 7 (by kernel_rfl)))
          have NB574_559 := Aside0.mk (Q_NB574_559 (hon 7 (by kernel_rfl)))
          have NB560_574 := Aside0.mk (Q_NB560_574 (hon 7 (by kernel_rfl)))
          have NB574_560 := Aside0.mk (Q_NB574_560 (hon 7 (by kernel_rfl)))
          have BK574 := Aside0.mk (Q_BK574_e8 (hon 8 (by kernel_rfl)))
          refine value_ (w1 := w') (v := .int .i64 t573) (by rfl) rfl ?_ ?_
          ·go_simp
           (try simp only [i64_w])
           try rfl
          refine hK.out _ _ ⟨v566, v571, gb574, m1_, m3_, m4_, m5_, m7_, (by rw [ha.out]; exact putSel_upk 8 hb_ rfl rfl rfl), Q_BK559, Q_BK560, Q_HB, Q_HO567, Q_HO572, fun _ h1_ => absurd ((hon 8 (by kernel_rfl)).symm.trans h1_) (by decide), Q_GW574, Q_GE574, Q_NB559_574, Q_NB574_559, Q_NB560_574, Q_NB574_560, Q_BK574_e8, Q_X1_, Q_X3_, Q_X4_, Q_X5_, Q_X7_⟩
         exact steps_nil
        rintro b a w40 hall ⟨v566, v571, gb574, m1_, m3_, m4_, m5_, m7_, ha, Q_BK559, Q_BK560, Q_HB, Q_HO567, Q_HO572, Q_BK574, Q_GW574, Q_GE574, Q_NB559_574, Q_NB574_559, Q_NB560_574, Q_NB574_560, Q_BK574_e8, Q_X1_, Q_X3_, Q_X4_, Q_X5_, Q_X7_⟩
        clear BK559 BK560 HB
        have hb0_ := hall 0 (by kernel_rfl)
        have hb1_ := hall 1 (by kernel_rfl)
        have hb2_ := hall 2 (by kernel_rfl)
        have hb3_ := hall 3 (by kernel_rfl)
        have hb4_ := hall 4 (by kernel_rfl)
        have hb5_ := hall 5 (by kernel_rfl)
        have hb6_ := hall 6 (by kernel_rfl)
        have hb7_ := hall 7 (by kernel_rfl)
        have hb8_ := hall 8 (by kernel_rfl)
        have hb9_ := hall 9 (by kernel_rfl)
        subst ha
        obtain rfl := Q_X1_ hb1_
        obtain rfl := Q_X3_ hb3_
        obtain rfl := Q_X4_ hb4_
        obtain rfl := Q_X5_ hb5_
        obtain rfl := Q_X7_ hb7_
        simp only [putSel, hb0_, hb1_, hb2_, hb3_, hb4_, hb5_, hb6_, hb7_, hb8_, hb9_, if_true, Act.put, List.setIfInBounds_toArray, List.set_cons_zero, List.set_cons_succ]
        have BK559 := Aside0.mk Q_BK559
        clear Q_BK559
        have BK560 := Aside0.mk Q_BK560
        clear Q_BK560
        have HB := Aside0.mk Q_HB
        clear Q_HB
        have HO567 := Aside0.mk (Q_HO567 hb1_)
        clear Q_HO567
        have HO572 := Aside0.mk (Q_HO572 hb3_)
        clear Q_HO572
        clear Q_BK574
        have GW574 := Aside0.mk (Q_GW574 hb7_)
        clear Q_GW574
        have GE574 := Aside0.mk (Q_GE574 hb7_)
        clear Q_GE574
        have NB559_574 := Aside0.mk (Q_NB559_574 hb7_)
        clear Q_NB559_574
        have NB574_559 := Aside0.mk (Q_NB574_559 hb7_)
        clear Q_NB574_559
        have NB560_574 := Aside0.mk (Q_NB560_574 hb7_)
        clear Q_NB560_574
        have NB574_560 := Aside0.mk (Q_NB574_560 hb7_)
        clear Q_NB574_560
        have BK574 := Aside0.mk (Q_BK574_e8 hb8_)
        clear Q_BK574_e8
        clear hall hb0_ hb1_ hb2_ hb3_ hb4_ hb5_ hb6_ hb7_ hb8_ hb9_
        have hnb41 := NB559_574.out
        have hnc41 := NB574_559.out
        obtain ⟨hcz42_0, hcz42_1, hcz42_2, hfz42_0, hfz42_1, hfz42_2⟩ := GS.c3 BK559.out
        have hnb43 := NB560_574.out
        have hnc43 := NB574_560.out
        obtain ⟨hcz44_0, hcz44_1, hfz44_0, hfz44_1⟩ := GS.c2 BK560.out
        try go_wp2_with (first | ((with_reducible refine gqC (f := 29) rfl ?_); refine GS.gL (some 34) Try.func29 #[.agg #[.int .i64 a0_0, .int .i64 a0_1, .slice A0_2 l0_2.length c0_2], .agg #[.int .i64 a1_0, .int .i64 a1_1]] ?_; (with_reducible refine (spileref42_Heard.calls k a0_0 a0_1 _ _ l0_2 a1_0 a1_1 t575 t576 t577 t580 _ ?side1 ?side2 A10.out).mono ?_); (case side1 => exact GS.rC (Kd.C_below HR0_2.out HB.out)); (case side2 => exact HC0_2.out); rintro e w45 ⟨v578, rfl, ho0, hb⟩; refine ⟨_, rfl, ?_⟩; have n0_ := Aside0.mk (Kd.R_elder' (GS.rR HO567.out) (Kd.R_base ho0) hb); have n1_ := Aside0.mk (Kd.R_elder' (GS.rR HO572.out) (Kd.R_base ho0) hb); have n2_ := Aside0.mk (Kd.R_lower (Kd.R_new' (Kd.R_new' ho0 (Kd.R_lt (GS.rR HO567.out))) (Kd.R_lt (GS.rR HO572.out))) (lqZ (GS.lB HB.out))); have n3_ := Aside0.mk (bqB (GS.bqX BK559.out) hb); have n4_ := Aside0.mk (bqB (GS.bqX BK560.out) hb); have n5_ := Aside0.mk (bqB (GS.bqX BK574.out) hb); have n6_ := Aside0.mk (lqT (GS.lB HB.out) hb); clear HO567; clear HO572; clear BK559; clear BK560; clear BK574; clear HB; have HO567 := n0_; have HO572 := n1_; have HO579 := n2_; have BK559 := n3_; have BK560 := n4_; have BK574 := n5_; have HB := n6_; clear n0_ n1_ n2_ n3_ n4_ n5_ n6_; (try clear hb); (try clear hb2); (try clear hk); (try clear hi); (try clear ho0)) | ((with_reducible refine gqD (N := 9) rfl ?_); refine GS.bx (N := 9) (cs := #[.int .i64 0, .int .i64 0, .slice none 0 0]) (t := 24) ?_; intro gb581 hg w46 hbox hb; have n0_ := Aside0.mk (Kd.R_below (GS.rR HO567.out) hb); have n1_ := Aside0.mk (Kd.R_below (GS.rR HO572.out) hb); have n2_ := Aside0.mk (Kd.R_below (GS.rR HO579.out) hb); have n3_ := Aside0.mk (bqB (GS.bqX BK559.out) hb); have n4_ := Aside0.mk (bqB (GS.bqX BK560.out) hb); have n5_ := Aside0.mk (bqB (GS.bqX BK574.out) hb); have n6_ := Aside0.mk (lqT (GS.lB HB.out) hb); have n7_ := Aside0.mk (hbox); have n8_ := Aside0.mk ((by rw [hg]; exact (lqZ (GS.lB HB.out)) : w.heap.size ≤ gb581)); have n9_ := Aside0.mk ((by rw [hg]; exact (lqZ (GS.lB HB.out)) : w.heap.size ≤ gb581)); have n10_ := Aside0.mk ((by rw [hg]; exact Nat.ne_of_lt (blk_lt (GS.bqX BK559.out)) : gb559 ≠ gb581)); have n11_ := Aside0.mk ((by rw [hg]; exact Nat.ne_of_gt (blk_lt (GS.bqX BK559.out)) : gb581 ≠ gb559)); have n12_ := Aside0.mk ((by rw [hg]; exact Nat.ne_of_lt (blk_lt (GS.bqX BK560.out)) : gb560 ≠ gb581)); have n13_ := Aside0.mk ((by rw [hg]; exact Nat.ne_of_gt (blk_lt (GS.bqX BK560.out)) : gb581 ≠ gb560)); have n14_ := Aside0.mk ((by rw [hg]; exact Nat.ne_of_lt (blk_lt (GS.bqX BK574.out)) : gb574 ≠ gb581)); have n15_ := Aside0.mk ((by rw [hg]; exact Nat.ne_of_gt (blk_lt (GS.bqX BK574.out)) : gb581 ≠ gb574)); clear HO567; clear HO572; clear HO579; clear BK559; clear BK560; clear BK574; clear HB; have HO567 := n0_; have HO572 := n1_; have HO579 := n2_; have BK559 := n3_; have BK560 := n4_; have BK574 := n5_; have HB := n6_; have BK581 := n7_; have GW581 := n8_; have GE581 := n9_; have NB559_581 := n10_; have NB581_559 := n11_; have NB560_581 := n12_; have NB581_560 := n13_; have NB574_581 := n14_; have NB581_574 := n15_; clear n0_ n1_ n2_ n3_ n4_ n5_ n6_ n7_ n8_ n9_ n10_ n11_ n12_ n13_ n14_ n15_; clear hb hbox hg; have hnb47 := NB581_559.out; have hnc47 := NB559_581.out; have hnb48 := NB581_560.out; have hnc48 := NB560_581.out; have hnb49 := NB581_574.out; have hnc49 := NB574_581.out; obtain ⟨hcz50_0, hcz50_1, hcz50_2, hfz50_0, hfz50_1, hfz50_2⟩ := GS.c3 BK581.out; obtain ⟨Ao51, co51, eo51⟩ := Kd.R_slice HO579.out; subst eo51; obtain ⟨hcz52_0, hcz52_1, hcz52_2, hfz52_0, hfz52_1, hfz52_2⟩ := GS.c3 BK559.out) | ((with_reducible refine gqC (f := 15) rfl ?_); refine GS.gL (some 39) Try.func15 #[.agg #[.int .i64 a0_0, .int .i64 a0_1, .slice A0_2 l0_2.length c0_2]] ?_; (with_reducible refine (spileref42_Copy.calls a0_0 a0_1 _ _ l0_2 t582 t583 t584 _ ?side1 ?side2 A11.out).mono ?_); (case side1 => exact Kd.C_below HR0_2.out (GS.lB HB.out)); (case side2 => exact HC0_2.out); rintro e w53 ⟨v585, rfl, ho0, hb⟩; refine ⟨_, rfl, ?_⟩; have n0_ := Aside0.mk (Kd.R_elder' (by (with_reducible repeat (first | apply Kd.R_alloc | apply Kd.R_drewN | apply Kd.R_drew)); exact (Kd.R_mono (Kd.R_far (p := ⟨gb581, 2, none⟩) (Kd.R_far (p := ⟨gb581, 1, none⟩) (Kd.R_far (p := ⟨gb581, 0, none⟩) (Kd.R_types HO567.out BK581.out (by decide)) (fun _ hk => hk.2) (.int .i64 t575)) (fun _ hk => hk.2) (.int .i64 t576)) (fun _ hk => hk.2) (.slice Ao51 t577.length co51)) (fun _ h_ => h_.1))) (Kd.R_base ho0) hb); have n1_ := Aside0.mk (Kd.R_elder' (by (with_reducible repeat (first | apply Kd.R_alloc | apply Kd.R_drewN | apply Kd.R_drew)); exact (Kd.R_mono (Kd.R_far (p := ⟨gb581, 2, none⟩) (Kd.R_far (p := ⟨gb581, 1, none⟩) (Kd.R_far (p := ⟨gb581, 0, none⟩) (Kd.R_types HO572.out BK581.out (by decide)) (fun _ hk => hk.2) (.int .i64 t575)) (fun _ hk => hk.2) (.int .i64 t576)) (fun _ hk => hk.2) (.slice Ao51 t577.length co51)) (fun _ h_ => h_.1))) (Kd.R_base ho0) hb); have n2_ := Aside0.mk (Kd.R_elder' (by (with_reducible repeat (first | apply Kd.R_alloc | apply Kd.R_drewN | apply Kd.R_drew)); exact (Kd.R_mono (Kd.R_far (p := ⟨gb581, 2, none⟩) (Kd.R_far (p := ⟨gb581, 1, none⟩) (Kd.R_far (p := ⟨gb581, 0, none⟩) (Kd.R_types HO579.out BK581.out (by decide)) (fun _ hk => hk.2) (.int .i64 t575)) (fun _ hk => hk.2) (.int .i64 t576)) (fun _ hk => hk.2) (.slice Ao51 t577.length co51)) (fun _ h_ => h_.1))) (Kd.R_base ho0) hb); have n3_ := Aside0.mk (Kd.R_lower (Kd.R_new' (Kd.R_new' (Kd.R_new' ho0 (Kd.R_lt (by (with_reducible repeat (first | apply Kd.R_alloc | apply Kd.R_drewN | apply Kd.R_drew)); exact (Kd.R_mono (Kd.R_far (p := ⟨gb581, 2, none⟩) (Kd.R_far (p := ⟨gb581, 1, none⟩) (Kd.R_far (p := ⟨gb581, 0, none⟩) (Kd.R_types HO567.out BK581.out (by decide)) (fun _ hk => hk.2) (.int .i64 t575)) (fun _ hk => hk.2) (.int .i64 t576)) (fun _ hk => hk.2) (.slice Ao51 t577.length co51)) (fun _ h_ => h_.1))))) (Kd.R_lt (by (with_reducible repeat (first | apply Kd.R_alloc | apply Kd.R_drewN | apply Kd.R_drew)); exact (Kd.R_mono (Kd.R_far (p := ⟨gb581, 2, none⟩) (Kd.R_far (p := ⟨gb581, 1, none⟩) (Kd.R_far (p := ⟨gb581, 0, none⟩) (Kd.R_types HO572.out BK581.out (by decide)) (fun _ hk => hk.2) (.int .i64 t575)) (fun _ hk => hk.2) (.int .i64 t576)) (fun _ hk => hk.2) (.slice Ao51 t577.length co51)) (fun _ h_ => h_.1))))) (Kd.R_lt (by (with_reducible repeat (first | apply Kd.R_alloc | apply Kd.R_drewN | apply Kd.R_drew)); exact (Kd.R_mono (Kd.R_far (p := ⟨gb581, 2, none⟩) (Kd.R_far (p := ⟨gb581, 1, none⟩) (Kd.R_far (p := ⟨gb581, 0, none⟩) (Kd.R_types HO579.out BK581.out (by decide)) (fun _ hk => hk.2) (.int .i64 t575)) (fun _ hk => hk.2) (.int .i64 t576)) (fun _ hk => hk.2) (.slice Ao51 t577.length co51)) (fun _ h_ => h_.1))))) (lqZ (GS.lB HB.out))); have n4_ := Aside0.mk (bqB (GS.bqX BK559.out) hb); have n5_ := Aside0.mk (bqB (GS.bqX BK560.out) hb); have n6_ := Aside0.mk (bqB (GS.bqX BK574.out) hb); have n7_ := Aside0.mk (bqB (g := gb581) (o := .cells #[.int .i64 t575, .int .i64 t576, .slice Ao51 t577.length co51] 24 (0, 0)) (GS.bqZ BK581.out) hb); have n8_ := Aside0.mk (lqT (GS.lB HB.out) hb); clear HO567; clear HO572; clear HO579; clear BK559; clear BK560; clear BK574; clear BK581; clear HB; have HO567 := n0_; have HO572 := n1_; have HO579 := n2_; have HO586 := n3_; have BK559 := n4_; have BK560 := n5_; have BK574 := n6_; have BK581 := n7_; have HB := n8_; clear n0_ n1_ n2_ n3_ n4_ n5_ n6_ n7_ n8_; (try clear hb); (try clear hb2); (try clear hk); (try clear hi); (try clear ho0); obtain ⟨Ao54, co54, eo54⟩ := Kd.R_slice HO586.out; subst eo54) | ((with_reducible refine gqC (f := 30) rfl ?_); refine GS.gL (some 41) Try.func30 #[.agg #[.int .i64 t582, .int .i64 t583, .slice Ao54 t584.length co54], .int .i64 a2] ?_; (with_reducible refine (sender_Again.calls k t582 t583 _ _ t584 a2 t587 t590 _ ?side1 ?side2 A12.out).mono ?_); (case side1 => repeat (first | exact (Kd.R_reads' HO586.out).2.2 | (with_reducible refine Kd.C_alloc ?_ _) | (with_reducible refine Kd.C_drewN ?_ _) | (with_reducible refine Kd.C_drew ?_))); (case side2 => exact (Kd.R_reads' HO586.out).2.1); rintro e w55 ⟨v588, rfl, ho0, hb⟩; refine ⟨_, rfl, ?_⟩; have n0_ := Aside0.mk (Kd.R_elder' (GS.rR HO567.out) (Kd.R_base ho0) hb); have n1_ := Aside0.mk (Kd.R_elder' (GS.rR HO572.out) (Kd.R_base ho0) hb); have n2_ := Aside0.mk (Kd.R_elder' (GS.rR HO579.out) (Kd.R_base ho0) hb); have n3_ := Aside0.mk (Kd.R_elder' (GS.rR HO586.out) (Kd.R_base ho0) hb); have n4_ := Aside0.mk (Kd.R_lower (Kd.R_new' (Kd.R_new' (Kd.R_new' (Kd.R_new' ho0 (Kd.R_lt (GS.rR HO567.out))) (Kd.R_lt (GS.rR HO572.out))) (Kd.R_lt (GS.rR HO579.out))) (Kd.R_lt (GS.rR HO586.out))) (lqZ (GS.lB HB.out))); have n5_ := Aside0.mk (bqB (GS.bqX BK559.out) hb); have n6_ := Aside0.mk (bqB (GS.bqX BK560.out) hb); have n7_ := Aside0.mk (bqB (GS.bqX BK574.out) hb); have n8_ := Aside0.mk (bqB (GS.bqX BK581.out) hb); have n9_ := Aside0.mk (lqT (GS.lB HB.out) hb); clear HO567; clear HO572; clear HO579; clear HO586; clear BK559; clear BK560; clear BK574; clear BK581; clear HB; have HO567 := n0_; have HO572 := n1_; have HO579 := n2_; have HO586 := n3_; have HO589 := n4_; have BK559 := n5_; have BK560 := n6_; have BK574 := n7_; have BK581 := n8_; have HB := n9_; clear n0_ n1_ n2_ n3_ n4_ n5_ n6_ n7_ n8_ n9_; (try clear hb); (try clear hb2); (try clear hk); (try clear hi); (try clear ho0); obtain ⟨hcz56_0, hcz56_1, hcz56_2, hfz56_0, hfz56_1, hfz56_2⟩ := GS.c3 BK559.out) | ((with_reducible refine gqC (f := 31) rfl ?_); refine GS.gL (some 47) Try.func31 #[.agg #[.int .i64 a0_0, .int .i64 a0_1, .slice A0_2 l0_2.length c0_2], .int .i64 a2] ?_; (with_reducible refine (spileref42_Again.calls k a0_0 a0_1 _ _ l0_2 a2 t591 t594 _ ?side1 ?side2 A13.out).mono ?_); (case side1 => exact GS.rC (Kd.C_below HR0_2.out HB.out)); (case side2 => exact HC0_2.out); rintro e w57 ⟨v592, rfl, ho0, hb⟩; refine ⟨_, rfl, ?_⟩; have n0_ := Aside0.mk (Kd.R_elder' (GS.rR HO567.out) (Kd.R_base ho0) hb); have n1_ := Aside0.mk (Kd.R_elder' (GS.rR HO572.out) (Kd.R_base ho0) hb); have n2_ := Aside0.mk (Kd.R_elder' (GS.rR HO579.out) (Kd.R_base ho0) hb); have n3_ := Aside0.mk (Kd.R_elder' (GS.rR HO586.out) (Kd.R_base ho0) hb); have n4_ := Aside0.mk (Kd.R_elder' (GS.rR HO589.out) (Kd.R_base ho0) hb); have n5_ := Aside0.mk (Kd.R_lower (Kd.R_new' (Kd.R_new' (Kd.R_new' (Kd.R_new' (Kd.R_new' ho0 (Kd.R_lt (GS.rR HO567.out))) (Kd.R_lt (GS.rR HO572.out))) (Kd.R_lt (GS.rR HO579.out))) (Kd.R_lt (GS.rR HO586.out))) (Kd.R_lt (GS.rR HO589.out))) (lqZ (GS.lB HB.out))); have n6_ := Aside0.mk (bqB (GS.bqX BK559.out) hb); have n7_ := Aside0.mk (bqB (GS.bqX BK560.out) hb); have n8_ := Aside0.mk (bqB (GS.bqX BK574.out) hb); have n9_ := Aside0.mk (bqB (GS.bqX BK581.out) hb); have n10_ := Aside0.mk (lqT (GS.lB HB.out) hb); clear HO567; clear HO572; clear HO579; clear HO586; clear HO589; clear BK559; clear BK560; clear BK574; clear BK581; clear HB; have HO567 := n0_; have HO572 := n1_; have HO579 := n2_; have HO586 := n3_; have HO589 := n4_; have HO593 := n5_; have BK559 := n6_; have BK560 := n7_; have BK574 := n8_; have BK581 := n9_; have HB := n10_; clear n0_ n1_ n2_ n3_ n4_ n5_ n6_ n7_ n8_ n9_ n10_; (try clear hb); (try clear hb2); (try clear hk); (try clear hi); (try clear ho0); obtain ⟨hcz58_0, hcz58_1, hcz58_2, hfz58_0, hfz58_1, hfz58_2⟩ := GS.c3 BK559.out) | ((with_reducible refine gqC (f := 15) rfl ?_); refine GS.gL (some 52) Try.func15 #[.agg #[.int .i64 a0_0, .int .i64 a0_1, .slice A0_2 l0_2.length c0_2]] ?_; (with_reducible refine (spileref42_Copy.calls a0_0 a0_1 _ _ l0_2 t595 t596 t597 _ ?side1 ?side2 A14.out).mono ?_); (case side1 => exact GS.rC (Kd.C_below HR0_2.out HB.out)); (case side2 => exact HC0_2.out); rintro e w59 ⟨v598, rfl, ho0, hb⟩; refine ⟨_, rfl, ?_⟩; have n0_ := Aside0.mk (Kd.R_elder' (GS.rR HO567.out) (Kd.R_base ho0) hb); have n1_ := Aside0.mk (Kd.R_elder' (GS.rR HO572.out) (Kd.R_base ho0) hb); have n2_ := Aside0.mk (Kd.R_elder' (GS.rR HO579.out) (Kd.R_base ho0) hb); have n3_ := Aside0.mk (Kd.R_elder' (GS.rR HO586.out) (Kd.R_base ho0) hb); have n4_ := Aside0.mk (Kd.R_elder' (GS.rR HO589.out) (Kd.R_base ho0) hb); have n5_ := Aside0.mk (Kd.R_elder' (GS.rR HO593.out) (Kd.R_base ho0) hb); have n6_ := Aside0.mk (Kd.R_lower (Kd.R_new' (Kd.R_new' (Kd.R_new' (Kd.R_new' (Kd.R_new' (Kd.R_new' ho0 (Kd.R_lt (GS.rR HO567.out))) (Kd.R_lt (GS.rR HO572.out))) (Kd.R_lt (GS.rR HO579.out))) (Kd.R_lt (GS.rR HO586.out))) (Kd.R_lt (GS.rR HO589.out))) (Kd.R_lt (GS.rR HO593.out))) (lqZ (GS.lB HB.out))); have n7_ := Aside0.mk (bqB (GS.bqX BK559.out) hb); have n8_ := Aside0.mk (bqB (GS.bqX BK560.out) hb); have n9_ := Aside0.mk (bqB (GS.bqX BK574.out) hb); have n10_ := Aside0.mk (bqB (GS.bqX BK581.out) hb); have n11_ := Aside0.mk (lqT (GS.lB HB.out) hb); clear HO567; clear HO572; clear HO579; clear HO586; clear HO589; clear HO593; clear BK559; clear BK560; clear BK574; clear BK581; clear HB; have HO567 := n0_; have HO572 := n1_; have HO579 := n2_; have HO586 := n3_; have HO589 := n4_; have HO593 := n5_; have HO599 := n6_; have BK559 := n7_; have BK560 := n8_; have BK574 := n9_; have BK581 := n10_; have HB := n11_; clear n0_ n1_ n2_ n3_ n4_ n5_ n6_ n7_ n8_ n9_ n10_ n11_; (try clear hb); (try clear hb2); (try clear hk); (try clear hi); (try clear ho0); obtain ⟨Ao60, co60, eo60⟩ := Kd.R_slice HO599.out; subst eo60) | ((with_reducible refine gqC (f := 32) rfl ?_); refine GS.gL (some 53) Try.func32 #[.agg #[.int .i64 t595, .int .i64 t596, .slice Ao60 t597.length co60]] ?_; (with_reducible refine (sender_Waits.calls k t595 t596 _ _ t597 t600 t603 _ ?side1 ?side2 A15.out).mono ?_); (case side1 => repeat (first | exact (Kd.R_reads' HO599.out).2.2 | (with_reducible refine Kd.C_alloc ?_ _) | (with_reducible refine Kd.C_drewN ?_ _) | (with_reducible refine Kd.C_drew ?_))); (case side2 => exact (Kd.R_reads' HO599.out).2.1); rintro e w61 ⟨v601, rfl, ho0, hb⟩; refine ⟨_, rfl, ?_⟩; have n0_ := Aside0.mk (Kd.R_below (GS.rR HO567.out) hb); have n1_ := Aside0.mk (Kd.R_below (GS.rR HO572.out) hb); have n2_ := Aside0.mk (Kd.R_below (GS.rR HO579.out) hb); have n3_ := Aside0.mk (Kd.R_below (GS.rR HO586.out) hb); have n4_ := Aside0.mk (Kd.R_below (GS.rR HO589.out) hb); have n5_ := Aside0.mk (Kd.R_below (GS.rR HO593.out) hb); have n6_ := Aside0.mk (Kd.R_below (GS.rR HO599.out) hb); have n7_ := Aside0.mk (Kd.R_lower ho0 (lqZ (GS.lB HB.out))); have n8_ := Aside0.mk (bqB (GS.bqX BK559.out) hb); have n9_ := Aside0.mk (bqB (GS.bqX BK560.out) hb); have n10_ := Aside0.mk (bqB (GS.bqX BK574.out) hb); have n11_ := Aside0.mk (bqB (GS.bqX BK581.out) hb); have n12_ := Aside0.mk (lqT (GS.lB HB.out) hb); clear HO567; clear HO572; clear HO579; clear HO586; clear HO589; clear HO593; clear HO599; clear BK559; clear BK560; clear BK574; clear BK581; clear HB; have HO567 := n0_; have HO572 := n1_; have HO579 := n2_; have HO586 := n3_; have HO589 := n4_; have HO593 := n5_; have HO599 := n6_; have HO602 := n7_; have BK559 := n8_; have BK560 := n9_; have BK574 := n10_; have BK581 := n11_; have HB := n12_; clear n0_ n1_ n2_ n3_ n4_ n5_ n6_ n7_ n8_ n9_ n10_ n11_ n12_; (try clear hb); (try clear hb2); (try clear hk); (try clear hi); (try clear ho0); obtain ⟨hcz62_0, hcz62_1, hcz62_2, hfz62_0, hfz62_1, hfz62_2⟩ := GS.c3 BK559.out) | ((with_reducible refine gqC (f := 33) rfl ?_); refine GS.gL (some 58) Try.func33 #[.agg #[.int .i64 a0_0, .int .i64 a0_1, .slice A0_2 l0_2.length c0_2]] ?_; (with_reducible refine (spileref42_Waits.calls k a0_0 a0_1 _ _ l0_2 t604 t607 _ ?side1 ?side2 A16.out).mono ?_); (case side1 => exact GS.rC (Kd.C_below HR0_2.out HB.out)); (case side2 => exact HC0_2.out); rintro e w63 ⟨v605, rfl, ho0, hb⟩; refine ⟨_, rfl, ?_⟩; have n0_ := Aside0.mk (Kd.R_below (GS.rR HO567.out) hb); have n1_ := Aside0.mk (Kd.R_below (GS.rR HO572.out) hb); have n2_ := Aside0.mk (Kd.R_below (GS.rR HO579.out) hb); have n3_ := Aside0.mk (Kd.R_below (GS.rR HO586.out) hb); have n4_ := Aside0.mk (Kd.R_below (GS.rR HO589.out) hb); have n5_ := Aside0.mk (Kd.R_below (GS.rR HO593.out) hb); have n6_ := Aside0.mk (Kd.R_below (GS.rR HO599.out) hb); have n7_ := Aside0.mk (Kd.R_elder' (GS.rR HO602.out) (Kd.R_base ho0) hb); have n8_ := Aside0.mk (Kd.R_lower (Kd.R_new' ho0 (Kd.R_lt (GS.rR HO602.out))) (lqZ (GS.lB HB.out))); have n9_ := Aside0.mk (bqB (GS.bqX BK559.out) hb); have n10_ := Aside0.mk (bqB (GS.bqX BK560.out) hb); have n11_ := Aside0.mk (bqB (GS.bqX BK574.out) hb); have n12_ := Aside0.mk (bqB (GS.bqX BK581.out) hb); have n13_ := Aside0.mk (lqT (GS.lB HB.out) hb); clear HO567; clear HO572; clear HO579; clear HO586; clear HO589; clear HO593; clear HO599; clear HO602; clear BK559; clear BK560; clear BK574; clear BK581; clear HB; have HO567 := n0_; have HO572 := n1_; have HO579 := n2_; have HO586 := n3_; have HO589 := n4_; have HO593 := n5_; have HO599 := n6_; have HO602 := n7_; have HO606 := n8_; have BK559 := n9_; have BK560 := n10_; have BK574 := n11_; have BK581 := n12_; have HB := n13_; clear n0_ n1_ n2_ n3_ n4_ n5_ n6_ n7_ n8_ n9_ n10_ n11_ n12_ n13_; (try clear hb); (try clear hb2); (try clear hk); (try clear hi); (try clear ho0); obtain ⟨hcz64_0, hcz64_1, hcz64_2, hfz64_0, hfz64_1, hfz64_2⟩ := GS.c3 BK574.out; obtain ⟨hcz65_0, hcz65_1, hcz65_2, hfz65_0, hfz65_1, hfz65_2⟩ := GS.c3 BK581.out; obtain ⟨Ao66, co66, eo66⟩ := Kd.R_slice HO572.out; subst eo66) | ((with_reducible refine gqC (f := 19) rfl ?_); refine GS.gL (some 63) Try.func19 #[.agg #[.int .i64 t568, .int .i64 t569, .slice Ao66 t570.length co66], .agg #[.int .i64 t575, .int .i64 t576, .slice Ao51 t577.length co51]] ?_; (with_reducible refine (spileref42_Same.calls k t568 t569 _ _ t570 t575 t576 _ _ t577 true _ ?side1 ?side2 ?side3 ?side4 A17.out).mono ?_); (case side1 => repeat (first | exact (Kd.R_reads' HO572.out).2.2 | (with_reducible refine Kd.C_alloc ?_ _) | (with_reducible refine Kd.C_drewN ?_ _) | (with_reducible refine Kd.C_drew ?_))); (case side2 => exact (Kd.R_reads' HO572.out).2.1); (case side3 => repeat (first | exact (Kd.R_reads' HO579.out).2.2 | (with_reducible refine Kd.C_alloc ?_ _) | (with_reducible refine Kd.C_drewN ?_ _) | (with_reducible refine Kd.C_drew ?_))); (case side4 => exact (Kd.R_reads' HO579.out).2.1); rintro e w67 ⟨rfl, hb⟩; refine ⟨_, rfl, ?_⟩; have n0_ := Aside0.mk (Kd.R_below (GS.rR HO567.out) hb); have n1_ := Aside0.mk (Kd.R_below (GS.rR HO572.out) hb); have n2_ := Aside0.mk (Kd.R_below (GS.rR HO579.out) hb); have n3_ := Aside0.mk (Kd.R_below (GS.rR HO586.out) hb); have n4_ := Aside0.mk (Kd.R_below (GS.rR HO589.out) hb); have n5_ := Aside0.mk (Kd.R_below (GS.rR HO593.out) hb); have n6_ := Aside0.mk (Kd.R_below (GS.rR HO599.out) hb); have n7_ := Aside0.mk (Kd.R_below (GS.rR HO602.out) hb); have n8_ := Aside0.mk (Kd.R_below (GS.rR HO606.out) hb); have n9_ := Aside0.mk (bqB (GS.bqX BK559.out) hb); have n10_ := Aside0.mk (bqB (GS.bqX BK560.out) hb); have n11_ := Aside0.mk (bqB (GS.bqX BK574.out) hb); have n12_ := Aside0.mk (bqB (GS.bqX BK581.out) hb); have n13_ := Aside0.mk (lqT (GS.lB HB.out) hb); clear HO567; clear HO572; clear HO579; clear HO586; clear HO589; clear HO593; clear HO599; clear HO602; clear HO606; clear BK559; clear BK560; clear BK574; clear BK581; clear HB; have HO567 := n0_; have HO572 := n1_; have HO579 := n2_; have HO586 := n3_; have HO589 := n4_; have HO593 := n5_; have HO599 := n6_; have HO602 := n7_; have HO606 := n8_; have BK559 := n9_; have BK560 := n10_; have BK574 := n11_; have BK581 := n12_; have HB := n13_; clear n0_ n1_ n2_ n3_ n4_ n5_ n6_ n7_ n8_ n9_ n10_ n11_ n12_ n13_; (try clear hb); (try clear hb2); (try clear hk); (try clear hi); obtain ⟨Ao68, co68, eo68⟩ := Kd.R_slice HO589.out; subst eo68; obtain ⟨Ao69, co69, eo69⟩ := Kd.R_slice HO593.out; subst eo69) | (go_at_call 34; (with_reducible refine (spileref41_Same.calls k _ _ t587 _ _ t591 true _ ?side1 ?side2 ?side3 ?side4 A20.out).mono ?_); (case side1 => repeat (first | exact (Kd.R_reads' HO589.out).2.2 | (with_reducible refine Kd.C_alloc ?_ _) | (with_reducible refine Kd.C_drewN ?_ _) | (with_reducible refine Kd.C_drew ?_))); (case side2 => exact (Kd.R_reads' HO589.out).2.1); (case side3 => repeat (first | exact (Kd.R_reads' HO593.out).2.2 | (with_reducible refine Kd.C_alloc ?_ _) | (with_reducible refine Kd.C_drewN ?_ _) | (with_reducible refine Kd.C_drew ?_))); (case side4 => exact (Kd.R_reads' HO593.out).2.1); rintro e w' ⟨rfl, ⟨nd, rfl⟩⟩; obtain ⟨Ao70, co70, eo70⟩ := Kd.R_slice HO602.out; subst eo70; obtain ⟨Ao71, co71, eo71⟩ := Kd.R_slice HO606.out; subst eo71) | (go_at_call 35; (with_reducible refine (spileref33_Same.calls k _ _ t600 _ _ t604 true _ ?side1 ?side2 ?side3 ?side4 A23.out).mono ?_); (case side1 => repeat (first | exact (Kd.R_reads' HO602.out).2.2 | (with_reducible refine Kd.C_alloc ?_ _) | (with_reducible refine Kd.C_drewN ?_ _) | (with_reducible refine Kd.C_drew ?_))); (case side2 => exact (Kd.R_reads' HO602.out).2.1); (case side3 => repeat (first | exact (Kd.R_reads' HO606.out).2.2 | (with_reducible refine Kd.C_alloc ?_ _) | (with_reducible refine Kd.C_drewN ?_ _) | (with_reducible refine Kd.C_drew ?_))); (case side4 => exact (Kd.R_reads' HO606.out).2.1); rintro e w' ⟨rfl, ⟨nd, rfl⟩⟩))
        go_ret
        exact ⟨by first | rfl | (simp [errW_none, errW_some] <;> rfl) | (simp [*, errW_none, errW_some] <;> rfl), GS.lB HB.out⟩
       ·replace c24 := Bool.eq_false_iff.mpr c24
        subst c24
        have H1 : (none) = some r := by rw [if_neg (show ¬ (false = true) by decide)] at H; exact H
        clear H
        have H := H1
        clear H1
        exact absurd H (by simp)
      ·rw [if_neg c22] at H
       exact absurd H (by simp)
     ·replace c21 := Bool.eq_false_iff.mpr c21
      subst c21
      have H1 : (none) = some r := by rw [if_neg (show ¬ (false = true) by decide)] at H; exact H
      clear H
      have H := H1
      clear H1
      exact absurd H (by simp)
    ·rw [if_neg c19] at H
     exact absurd H (by simp)
   ·replace c18 := Bool.eq_false_iff.mpr c18
    subst c18
    have H1 : (none) = some r := by rw [if_neg (show ¬ (false = true) by decide)] at H; exact H
    clear H
    have H := H1
    clear H1
    exact absurd H (by simp)
  ·replace c7 := Bool.eq_false_iff.mpr c7
   subst c7
   have H1 : (some true) = some r := by rw [if_neg (show ¬ (false = true) by decide)] at H; exact H
   clear H
   have H := H1
   clear H1
   obtain rfl := Option.some.inj H
   go_enter Try.func8, Try.ntmps8
   go_wp2_with (first | ((with_reducible refine gqD (N := 3) rfl ?_); refine GS.bx (N := 3) (cs := #[.int .i64 a0_0, .int .i64 a0_1, .slice A0_2 l0_2.length c0_2]) (t := 24) ?_; intro gb559 hg w72 hbox hb; have n0_ := Aside0.mk (lqT (GS.lB HB.out) hb); have n1_ := Aside0.mk (hbox); have n2_ := Aside0.mk ((by rw [hg]; exact (lqZ (GS.lB HB.out)) : w.heap.size ≤ gb559)); have n3_ := Aside0.mk ((by rw [hg]; exact (lqZ (GS.lB HB.out)) : w.heap.size ≤ gb559)); clear HB; have HB := n0_; have BK559 := n1_; have GW559 := n2_; have GE559 := n3_; clear n0_ n1_ n2_ n3_; clear hb hbox hg) | ((with_reducible refine gqD (N := 4) rfl ?_); refine GS.bx (N := 4) (cs := #[.int .i64 a1_0, .int .i64 a1_1]) (t := 44) ?_; intro gb560 hg w73 hbox hb; have n0_ := Aside0.mk (bqB (GS.bqX BK559.out) hb); have n1_ := Aside0.mk (lqT (GS.lB HB.out) hb); have n2_ := Aside0.mk (hbox); have n3_ := Aside0.mk ((by rw [hg]; exact (lqZ (GS.lB HB.out)) : w.heap.size ≤ gb560)); have n4_ := Aside0.mk ((by rw [hg]; exact (lqZ (GS.lB HB.out)) : w.heap.size ≤ gb560)); have n5_ := Aside0.mk ((by rw [hg]; exact Nat.ne_of_lt (blk_lt (GS.bqX BK559.out)) : gb559 ≠ gb560)); have n6_ := Aside0.mk ((by rw [hg]; exact Nat.ne_of_gt (blk_lt (GS.bqX BK559.out)) : gb560 ≠ gb559)); clear BK559; clear HB; have BK559 := n0_; have HB := n1_; have BK560 := n2_; have GW560 := n3_; have GE560 := n4_; have NB559_560 := n5_; have NB560_559 := n6_; clear n0_ n1_ n2_ n3_ n4_ n5_ n6_; clear hb hbox hg) | ((with_reducible refine gqC (f := 10) rfl ?_); refine GS.gL (some 19) Try.func10 #[] ?_; (with_reducible refine (spilelaw42_awake.calls k  true _ A4.out).mono ?_); rintro e w74 ⟨rfl, hb⟩; refine ⟨_, rfl, ?_⟩; have n0_ := Aside0.mk (bqB (GS.bqX BK559.out) hb); have n1_ := Aside0.mk (bqB (GS.bqX BK560.out) hb); have n2_ := Aside0.mk (lqT (GS.lB HB.out) hb); clear BK559; clear BK560; clear HB; have BK559 := n0_; have BK560 := n1_; have HB := n2_; clear n0_ n1_ n2_; (try clear hb); (try clear hb2); (try clear hk); (try clear hi); have hnb75 := NB559_560.out; have hnc75 := NB560_559.out; obtain ⟨hcz76_0, hcz76_1, hcz76_2, hfz76_0, hfz76_1, hfz76_2⟩ := GS.c3 BK559.out) | ((with_reducible refine gqC (f := 11) rfl ?_); refine GS.gL (some 22) Try.func11 #[.agg #[.int .i64 a0_0, .int .i64 a0_1, .slice A0_2 l0_2.length c0_2]] ?_; (with_reducible refine (spileref42_Few.calls a0_0 a0_1 _ _ l0_2 false _ ?side1 ?side2 A6.out).mono ?_); (case side1 => exact GS.rC (Kd.C_below HR0_2.out HB.out)); (case side2 => exact HC0_2.out); rintro e w77 ⟨rfl, hb⟩; refine ⟨_, rfl, ?_⟩; have n0_ := Aside0.mk (bqB (GS.bqX BK559.out) hb); have n1_ := Aside0.mk (bqB (GS.bqX BK560.out) hb); have n2_ := Aside0.mk (lqT (GS.lB HB.out) hb); clear BK559; clear BK560; clear HB; have BK559 := n0_; have BK560 := n1_; have HB := n2_; clear n0_ n1_ n2_; (try clear hb); (try clear hb2); (try clear hk); (try clear hi)))
   go_ret
   exact ⟨by first | rfl | (simp [errW_none, errW_some] <;> rfl) | (simp [*, errW_none, errW_some] <;> rfl), GS.lB HB.out⟩
 ·replace c5 := Bool.eq_false_iff.mpr c5
  subst c5
  have H1 : (none) = some r := by rw [if_neg (show ¬ (false = true) by decide)] at H; exact H
  clear H
  have H := H1
  clear H1
  exact absurd H (by simp)

-- NOT PRINTED: function 36 (api_Envelope_36)

end Go.Proofs.Ytfafeeobjlkjnaa.K
