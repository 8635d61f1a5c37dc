-- PRINTED by print.py (a twelfth state) out of the translation. Not trusted: Lean checks it.
import Derived.Test.YtfhmjleimampeaaK0
import Derived.Test.YtfhmjleimampeaaGShort
namespace Go.Proofs.Ytfhmjleimampeaa.K
open Go.RowKit Go.Proofs.YtfhmjleimampeaaW.PrintWords Go.Proofs.YtfhmjleimampeaaW.PrintLast Go.Proofs.YtfhmjleimampeaaW.PrintMore
attribute [local go_sem] max2_int min2_int max_two min_two max_three min_three max_four min_four   -- for this text's walks alone
set_option linter.unusedVariables false
set_option linter.unusedSimpArgs false

/-! ### rank_fault: function 67 -/
def rank_fault.l0 : Nat → List Int → Int → Int → Option (Int)
 | 0, _, _, _ => none
 | k + 1, x13, x14, x15 => if x15 < x14 then (if 0 ≤ x15 then (if x15 < (x13.length : Int) then (if (rd x13 x15) < (-1099511627776) then (some 2) else (if (rd x13 x15) > 1099511627776 then (some 2) else (rank_fault.l0 k x13 x14 (wrap64 (x15 + 1))))) else (none)) else (none)) else (some 0)
def rank_fault.f (k : Nat) (l0 : List Int) : Option (Int) := if (l0.length : Int) = 0 then (some 9) else (if (l0.length : Int) > 64 then (some 8) else (rank_fault.l0 k l0 (l0.length : Int) 0))
theorem rank_fault.mono_l : ∀ k, (∀ y0 y1 y2, LeO (rank_fault.l0 k y0 y1 y2) (rank_fault.l0 (k + 1) y0 y1 y2))
 | 0 => fun _ _ _ r h => by simp [rank_fault.l0] at h
 | k + 1 => by
  have ih0 := rank_fault.mono_l k
  ·intro y0 y1 y2
   unfold rank_fault.l0
   repeat' first
   | (with_reducible exact ih0 _ _ _)
   | (with_reducible exact LeO.refl _)
   | (with_reducible exact LeO.none _)
   | (with_reducible refine LeO.ite ?_ ?_)
   | (with_reducible refine LeO.bind ?_ (fun _ => ?_))
   | exact ih0 _ _ _
   | exact LeO.none _
   | refine LeO.ite ?_ ?_
   | refine LeO.bind ?_ (fun _ => ?_)
theorem rank_fault.mono : ∀ a0 k, LeO (rank_fault.f k a0) (rank_fault.f (k + 1) a0) := by
 intro a0 k
 have ih0 := rank_fault.mono_l k
 unfold rank_fault.f
 repeat' first
   | (with_reducible exact ih0 _ _ _)
   | (with_reducible exact LeO.refl _)
   | (with_reducible exact LeO.none _)
   | (with_reducible refine LeO.ite ?_ ?_)
   | (with_reducible refine LeO.bind ?_ (fun _ => ?_))
   | exact ih0 _ _ _
   | exact LeO.none _
   | refine LeO.ite ?_ ?_
   | refine LeO.bind ?_ (fun _ => ?_)
set_option maxHeartbeats 8000000 in
set_option maxRecDepth 100000 in
theorem rank_fault.calls (k : Nat) (A0 : Option Addr) (c0 : Nat) (l0 : List Int) (r : Int) (w : World) (hr0 : Kd.C (Kd.int .i64) w A0 l0.length l0) (hc0 : l0.length ≤ c0) (h : rank_fault.f k l0 = some r) :
  Calls Try.prog 67 #[.slice A0 l0.length c0] w fun e w' => e = .returned (.int .i64 r) ∧ Drawn0 w w' := by
 have HR0 := Aside0.mk hr0
 have HC0 := Aside0.mk hc0
 clear hr0 hc0
 have H : (if (l0.length : Int) = 0 then (some 9) else (if (l0.length : Int) > 64 then (some 8) else (rank_fault.l0 k l0 (l0.length : Int) 0))) = some r := h
 clear h
 by_cases c2 : (l0.length : Int) = 0
 ·rw [if_pos c2] at H
  have c2b0 : ((l0.length : Int) == 0) = true := beq_iff_eq.mpr c2
  try simp only [beq_self_eq_true, Bool.not_true, Bool.false_or, Bool.true_and] at c2b0
  have c2b1 : ((l0.length : Int) != 0) = false := bne_eq_false_iff_eq.mpr c2
  clear c2
  obtain rfl := Option.some.inj H
  go_enter Try.func67, Try.ntmps67
  go_wp2
  go_ret
  exact ⟨by first | rfl | (simp; done) | (simp [*]; done), by repeat (first | exact Drawn0.refl _ | apply Drawn0.step)⟩
 ·rw [if_neg c2] at H
  have c2b0 : ((l0.length : Int) == 0) = false := beq_eq_false_iff_ne.mpr c2
  try simp only [beq_self_eq_true, Bool.not_true, Bool.false_or, Bool.true_and] at c2b0
  have c2b1 : ((l0.length : Int) != 0) = true := bne_iff_ne.mpr c2
  have c2b2 : ¬ (l0 = []) := fun h_ => c2 (by rw [h_]; rfl)
  by_cases c3 : (l0.length : Int) > 64
  ·rw [if_pos c3] at H
   have c3b0 : decide (64 < (l0.length : Int)) = true := decide_eq_true c3
   have c3b1 : decide (64 < l0.length) = true := decide_eq_true (by omega)
   clear c3
   obtain rfl := Option.some.inj H
   go_enter Try.func67, Try.ntmps67
   go_wp2
   go_ret
   exact ⟨by first | rfl | (simp; done) | (simp [*]; done), by repeat (first | exact Drawn0.refl _ | apply Drawn0.step)⟩
  ·rw [if_neg c3] at H
   have c3b0 : decide (64 < (l0.length : Int)) = false := decide_eq_false c3
   have c3b1 : decide (64 < l0.length) = false := decide_eq_false (by omega)
   clear c3
   have H' := Aside0.mk H
   clear H
   go_enter Try.func67, Try.ntmps67
   go_wp2
   go_loopg [15] k (fun kq v15 w' => ∃ (x15_1 : Int), v15 = .int .i64 x15_1 ∧ Aside0 (rank_fault.l0 kq l0 (l0.length : Int) x15_1 = some r) ∧ Aside0 (kq ≤ k) ∧ Drawn0 w w')
   case atStart => exact ⟨(0), (by first | rfl | (simp; done) | (simp [*]; done)), H', ⟨Nat.le_refl _⟩, by repeat (first | exact Drawn0.refl _ | apply Drawn0.step)⟩
   case round =>
    clear H'
    try clear c2
    try clear c2b0
    try clear c2b1
    try clear c2b2
    try clear p2
    try clear c3
    try clear c3b0
    try clear c3b1
    obtain ⟨x15_1, rfl, HA, HK1, ⟨m1, rfl⟩⟩ := hrel
    cases gk with
    | zero => exact absurd HA.out (by simp [rank_fault.l0])
    | succ k1 =>
     have H := HA.out
     clear HA
     simp only [rank_fault.l0] at H
     by_cases c4 : x15_1 < (l0.length : Int)
     ·rw [if_pos c4] at H
      have c4b0 : decide (x15_1 < (l0.length : Int)) = true := decide_eq_true c4
      clear c4
      by_cases c5 : 0 ≤ x15_1
      ·rw [if_pos c5] at H
       have c5b0 : decide (0 ≤ x15_1) = true := decide_eq_true c5
       clear c5
       by_cases c6 : x15_1 < (l0.length : Int)
       ·rw [if_pos c6] at H
        have c6b0 : decide (x15_1 < (l0.length : Int)) = true := decide_eq_true c6
        clear c6
        by_cases c7 : (rd l0 x15_1) < (-1099511627776)
        ·rw [if_pos c7] at H
         have c7b0 : decide ((rd l0 x15_1) < (-1099511627776)) = true := decide_eq_true c7
         clear c7
         obtain rfl := Option.some.inj H
         have p108 : 0 ≤ (x15_1 : Int) := of_decide_eq_true (by first | (with_reducible assumption) | assumption)
         have q108 : x15_1 < (l0.length : Int) := of_decide_eq_true (by first | (with_reducible assumption) | assumption)
         obtain ⟨ad108, e108, hx108_0⟩ := Kd.at_int HR0.out x15_1 p108 q108
         cases e108
         replace p108 := eq_true p108
         replace q108 := eq_true q108
         go_wp2
         go_ret
         exact ⟨by first | rfl | (simp; done) | (simp [*]; done), by repeat (first | exact Drawn0.refl _ | apply Drawn0.step)⟩
        ·rw [if_neg c7] at H
         have c7b0 : decide ((rd l0 x15_1) < (-1099511627776)) = false := decide_eq_false c7
         clear c7
         by_cases c8 : (rd l0 x15_1) > 1099511627776
         ·rw [if_pos c8] at H
          have c8b0 : decide (1099511627776 < (rd l0 x15_1)) = true := decide_eq_true c8
          clear c8
          obtain rfl := Option.some.inj H
          have p108 : 0 ≤ (x15_1 : Int) := of_decide_eq_true (by first | (with_reducible assumption) | assumption)
          have q108 : x15_1 < (l0.length : Int) := of_decide_eq_true (by first | (with_reducible assumption) | assumption)
          obtain ⟨ad108, e108, hx108_0⟩ := Kd.at_int HR0.out x15_1 p108 q108
          cases e108
          replace p108 := eq_true p108
          replace q108 := eq_true q108
          go_wp2
          go_ret
          exact ⟨by first | rfl | (simp; done) | (simp [*]; done), by repeat (first | exact Drawn0.refl _ | apply Drawn0.step)⟩
         ·rw [if_neg c8] at H
          have c8b0 : decide (1099511627776 < (rd l0 x15_1)) = false := decide_eq_false c8
          clear c8
          have H' := Aside0.mk H
          clear H
          have p108 : 0 ≤ (x15_1 : Int) := of_decide_eq_true (by first | (with_reducible assumption) | assumption)
          have q108 : x15_1 < (l0.length : Int) := of_decide_eq_true (by first | (with_reducible assumption) | assumption)
          obtain ⟨ad108, e108, hx108_0⟩ := Kd.at_int HR0.out x15_1 p108 q108
          cases e108
          replace p108 := eq_true p108
          replace q108 := eq_true q108
          go_wp2
          go_roundg k1
          case measure => have := HK1.out; omega
          case rel => exact ⟨(wrap64 (x15_1 + 1)), (by first | rfl | (simp; done) | (simp [*]; done)), H', ⟨by have := HK1.out; omega⟩, by repeat (first | exact Drawn0.refl _ | apply Drawn0.step)⟩
       ·rw [if_neg c6] at H
        exact absurd H (by simp)
      ·rw [if_neg c5] at H
       exact absurd H (by simp)
     ·rw [if_neg c4] at H
      have c4b0 : decide (x15_1 < (l0.length : Int)) = false := decide_eq_false c4
      clear c4
      obtain rfl := Option.some.inj H
      go_wp2
      go_ret
      exact ⟨by first | rfl | (simp; done) | (simp [*]; done), by repeat (first | exact Drawn0.refl _ | apply Drawn0.step)⟩

/-! ### rank_two: function 60 -/
def rank_two.f (k : Nat) (l0 : List Int) (l1 : List Int) : Option (Int) := (rank_fault.f k l0).bind fun t109 => (if t109 = 0 then ((rank_fault.f k l1).bind fun t110 => (if t110 = 0 then (if (wrap64 ((l0.length : Int) + (l1.length : Int))) > 24 then (some 8) else (some 0)) else (some t110))) else (some t109))
theorem rank_two.mono : ∀ a0 a1 k, LeO (rank_two.f k a0 a1) (rank_two.f (k + 1) a0 a1) := by
 intro a0 a1 k
 unfold rank_two.f
 repeat' first
   | (with_reducible exact rank_fault.mono _ _)
   | (with_reducible exact LeO.refl _)
   | (with_reducible exact LeO.none _)
   | (with_reducible refine LeO.ite ?_ ?_)
   | (with_reducible refine LeO.bind ?_ (fun _ => ?_))
   | exact rank_fault.mono _ _
   | exact LeO.none _
   | refine LeO.ite ?_ ?_
   | refine LeO.bind ?_ (fun _ => ?_)
set_option maxHeartbeats 8000000 in
set_option maxRecDepth 100000 in
theorem rank_two.calls (k : Nat) (A0 : Option Addr) (c0 : Nat) (l0 : List Int) (A1 : Option Addr) (c1 : Nat) (l1 : List Int) (r : Int) (w : World) (hr0 : Kd.C (Kd.int .i64) w A0 l0.length l0) (hc0 : l0.length ≤ c0) (hr1 : Kd.C (Kd.int .i64) w A1 l1.length l1) (hc1 : l1.length ≤ c1) (h : rank_two.f k l0 l1 = some r) :
  Calls Try.prog 60 #[.slice A0 l0.length c0, .slice A1 l1.length c1] w fun e w' => e = .returned (.int .i64 r) ∧ Drawn0 w w' := by
 have HR0 := Aside0.mk hr0
 have HC0 := Aside0.mk hc0
 clear hr0 hc0
 have HR1 := Aside0.mk hr1
 have HC1 := Aside0.mk hc1
 clear hr1 hc1
 have H : ((rank_fault.f k l0).bind fun t109 => (if t109 = 0 then ((rank_fault.f k l1).bind fun t110 => (if t110 = 0 then (if (wrap64 ((l0.length : Int) + (l1.length : Int))) > 24 then (some 8) else (some 0)) else (some t110))) else (some t109))) = some r := h
 clear h
 replace H := Option.bind_eq_some_iff.mp H
 obtain ⟨t109, A30, H⟩ := H
 replace H : (if t109 = 0 then ((rank_fault.f k l1).bind fun t110 => (if t110 = 0 then (if (wrap64 ((l0.length : Int) + (l1.length : Int))) > 24 then (some 8) else (some 0)) else (some t110))) else (some t109)) = some r := H
 have A3 := Aside0.mk A30
 clear A30
 by_cases c4 : t109 = 0
 ·rw [if_pos c4] at H
  have c4b0 : (t109 == 0) = true := beq_iff_eq.mpr c4
  try simp only [beq_self_eq_true, Bool.not_true, Bool.false_or, Bool.true_and] at c4b0
  have c4b1 : (t109 != 0) = false := bne_eq_false_iff_eq.mpr c4
  clear c4
  replace H := Option.bind_eq_some_iff.mp H
  obtain ⟨t110, A50, H⟩ := H
  replace H : (if t110 = 0 then (if (wrap64 ((l0.length : Int) + (l1.length : Int))) > 24 then (some 8) else (some 0)) else (some t110)) = some r := H
  have A5 := Aside0.mk A50
  clear A50
  by_cases c6 : t110 = 0
  ·rw [if_pos c6] at H
   have c6b0 : (t110 == 0) = true := beq_iff_eq.mpr c6
   try simp only [beq_self_eq_true, Bool.not_true, Bool.false_or, Bool.true_and] at c6b0
   have c6b1 : (t110 != 0) = false := bne_eq_false_iff_eq.mpr c6
   clear c6
   by_cases c7 : (wrap64 ((l0.length : Int) + (l1.length : Int))) > 24
   ·rw [if_pos c7] at H
    have c7b0 : decide (24 < (wrap64 ((l0.length : Int) + (l1.length : Int)))) = true := decide_eq_true c7
    clear c7
    obtain rfl := Option.some.inj H
    go_enter Try.func60, Try.ntmps60
    go_wp2_with (first | ((with_reducible refine gqC (f := 67) rfl ?_); refine GS.gL (some 8) Try.func67 #[.slice A0 l0.length c0] ?_; (with_reducible refine (rank_fault.calls k _ _ l0 t109 _ ?side1 ?side2 A3.out).mono ?_); (case side1 => exact GS.rC HR0.out); (case side2 => exact HC0.out); rintro e w' ⟨rfl, ⟨nd, rfl⟩⟩; refine ⟨_, rfl, ?_⟩) | ((with_reducible refine gqC (f := 67) rfl ?_); refine GS.gL (some 13) Try.func67 #[.slice A1 l1.length c1] ?_; (with_reducible refine (rank_fault.calls k _ _ l1 t110 _ ?side1 ?side2 A5.out).mono ?_); (case side1 => exact GS.rC HR1.out); (case side2 => exact HC1.out); rintro e w' ⟨rfl, ⟨nd, rfl⟩⟩; refine ⟨_, rfl, ?_⟩))
    go_ret
    exact ⟨by first | rfl | (simp; done) | (simp [*]; done), by repeat (first | exact Drawn0.refl _ | apply Drawn0.step)⟩
   ·rw [if_neg c7] at H
    have c7b0 : decide (24 < (wrap64 ((l0.length : Int) + (l1.length : Int)))) = false := decide_eq_false c7
    clear c7
    obtain rfl := Option.some.inj H
    go_enter Try.func60, Try.ntmps60
    go_wp2_with (first | ((with_reducible refine gqC (f := 67) rfl ?_); refine GS.gL (some 8) Try.func67 #[.slice A0 l0.length c0] ?_; (with_reducible refine (rank_fault.calls k _ _ l0 t109 _ ?side1 ?side2 A3.out).mono ?_); (case side1 => exact GS.rC HR0.out); (case side2 => exact HC0.out); rintro e w' ⟨rfl, ⟨nd, rfl⟩⟩; refine ⟨_, rfl, ?_⟩) | ((with_reducible refine gqC (f := 67) rfl ?_); refine GS.gL (some 13) Try.func67 #[.slice A1 l1.length c1] ?_; (with_reducible refine (rank_fault.calls k _ _ l1 t110 _ ?side1 ?side2 A5.out).mono ?_); (case side1 => exact GS.rC HR1.out); (case side2 => exact HC1.out); rintro e w' ⟨rfl, ⟨nd, rfl⟩⟩; refine ⟨_, rfl, ?_⟩))
    go_ret
    exact ⟨by first | rfl | (simp; done) | (simp [*]; done), by repeat (first | exact Drawn0.refl _ | apply Drawn0.step)⟩
  ·rw [if_neg c6] at H
   have c6b0 : (t110 == 0) = false := beq_eq_false_iff_ne.mpr c6
   try simp only [beq_self_eq_true, Bool.not_true, Bool.false_or, Bool.true_and] at c6b0
   have c6b1 : (t110 != 0) = true := bne_iff_ne.mpr c6
   obtain rfl := Option.some.inj H
   go_enter Try.func60, Try.ntmps60
   go_wp2_with (first | ((with_reducible refine gqC (f := 67) rfl ?_); refine GS.gL (some 8) Try.func67 #[.slice A0 l0.length c0] ?_; (with_reducible refine (rank_fault.calls k _ _ l0 t109 _ ?side1 ?side2 A3.out).mono ?_); (case side1 => exact GS.rC HR0.out); (case side2 => exact HC0.out); rintro e w' ⟨rfl, ⟨nd, rfl⟩⟩; refine ⟨_, rfl, ?_⟩) | ((with_reducible refine gqC (f := 67) rfl ?_); refine GS.gL (some 13) Try.func67 #[.slice A1 l1.length c1] ?_; (with_reducible refine (rank_fault.calls k _ _ l1 t110 _ ?side1 ?side2 A5.out).mono ?_); (case side1 => exact GS.rC HR1.out); (case side2 => exact HC1.out); rintro e w' ⟨rfl, ⟨nd, rfl⟩⟩; refine ⟨_, rfl, ?_⟩))
   go_ret
   exact ⟨by first | rfl | (simp; done) | (simp [*]; done), by repeat (first | exact Drawn0.refl _ | apply Drawn0.step)⟩
 ·rw [if_neg c4] at H
  have c4b0 : (t109 == 0) = false := beq_eq_false_iff_ne.mpr c4
  try simp only [beq_self_eq_true, Bool.not_true, Bool.false_or, Bool.true_and] at c4b0
  have c4b1 : (t109 != 0) = true := bne_iff_ne.mpr c4
  obtain rfl := Option.some.inj H
  go_enter Try.func60, Try.ntmps60
  go_wp2_with (first | ((with_reducible refine gqC (f := 67) rfl ?_); refine GS.gL (some 8) Try.func67 #[.slice A0 l0.length c0] ?_; (with_reducible refine (rank_fault.calls k _ _ l0 t109 _ ?side1 ?side2 A3.out).mono ?_); (case side1 => exact GS.rC HR0.out); (case side2 => exact HC0.out); rintro e w' ⟨rfl, ⟨nd, rfl⟩⟩; refine ⟨_, rfl, ?_⟩))
  go_ret
  exact ⟨by first | rfl | (simp; done) | (simp [*]; done), by repeat (first | exact Drawn0.refl _ | apply Drawn0.step)⟩

-- NOT PRINTED: function 73 (slices_Grow_int_int)

-- NOT PRINTED: function 61 (slices_Concat_int_int)

/-! ### rank_ranks: function 62 -/
mutual
def rank_ranks.l0 : Nat → List Int → List Int → List Int → Int → Int → Option (List Int)
 | 0, _, _, _, _, _ => none
 | k + 1, x1, x5, x11, x12, x13 => if x13 < x12 then (if 0 ≤ x13 then (if x13 < (x11.length : Int) then (rank_ranks.l1 k x1 x5 (rd x11 x13) 1 x11 x12 x13 x1 (x1.length : Int) 0) else (none)) else (none)) else (some x5)
def rank_ranks.l1 : Nat → List Int → List Int → Int → Int → List Int → Int → Int → List Int → Int → Int → Option (List Int)
 | 0, _, _, _, _, _, _, _, _, _, _ => none
 | k + 1, x1, x5, x7, x8, x11, x12, x13, x17, x18, x19 => if x19 < x18 then (if 0 ≤ x19 then (if x19 < (x17.length : Int) then (if (rd x17 x19) < x7 then (rank_ranks.l1 k x1 x5 x7 (wrap64 (x8 + 2)) x11 x12 x13 x17 x18 (wrap64 (x19 + 1))) else (if (rd x17 x19) = x7 then (rank_ranks.l1 k x1 x5 x7 (wrap64 (x8 + 1)) x11 x12 x13 x17 x18 (wrap64 (x19 + 1))) else (rank_ranks.l1 k x1 x5 x7 x8 x11 x12 x13 x17 x18 (wrap64 (x19 + 1))))) else (none)) else (none)) else (if x5.length < 17592186044416 then (rank_ranks.l0 k x1 (x5 ++ [x8]) x11 x12 (wrap64 (x13 + 1))) else (none))
end
def rank_ranks.f (k : Nat) (l0 : List Int) (l1 : List Int) : Option (List Int) := rank_ranks.l0 k l1 ([] : List Int) l0 (l0.length : Int) 0
theorem rank_ranks.mono_l : ∀ k, (∀ y0 y1 y2 y3 y4, LeO (rank_ranks.l0 k y0 y1 y2 y3 y4) (rank_ranks.l0 (k + 1) y0 y1 y2 y3 y4)) ∧ (∀ y0 y1 y2 y3 y4 y5 y6 y7 y8 y9, LeO (rank_ranks.l1 k y0 y1 y2 y3 y4 y5 y6 y7 y8 y9) (rank_ranks.l1 (k + 1) y0 y1 y2 y3 y4 y5 y6 y7 y8 y9))
 | 0 => ⟨fun _ _ _ _ _ r h => by simp [rank_ranks.l0] at h, fun _ _ _ _ _ _ _ _ _ _ r h => by simp [rank_ranks.l1] at h⟩
 | k + 1 => by
  obtain ⟨ih0, ih1⟩ := rank_ranks.mono_l k
  refine ⟨?_, ?_⟩
  ·intro y0 y1 y2 y3 y4
   unfold rank_ranks.l0
   repeat' first
   | (with_reducible exact ih0 _ _ _ _ _)
   | (with_reducible exact ih1 _ _ _ _ _ _ _ _ _ _)
   | (with_reducible exact LeO.refl _)
   | (with_reducible exact LeO.none _)
   | (with_reducible refine LeO.ite ?_ ?_)
   | (with_reducible refine LeO.bind ?_ (fun _ => ?_))
   | exact ih0 _ _ _ _ _
   | exact ih1 _ _ _ _ _ _ _ _ _ _
   | exact LeO.none _
   | refine LeO.ite ?_ ?_
   | refine LeO.bind ?_ (fun _ => ?_)
  ·intro y0 y1 y2 y3 y4 y5 y6 y7 y8 y9
   unfold rank_ranks.l1
   repeat' first
   | (with_reducible exact ih0 _ _ _ _ _)
   | (with_reducible exact ih1 _ _ _ _ _ _ _ _ _ _)
   | (with_reducible exact LeO.refl _)
   | (with_reducible exact LeO.none _)
   | (with_reducible refine LeO.ite ?_ ?_)
   | (with_reducible refine LeO.bind ?_ (fun _ => ?_))
   | exact ih0 _ _ _ _ _
   | exact ih1 _ _ _ _ _ _ _ _ _ _
   | exact LeO.none _
   | refine LeO.ite ?_ ?_
   | refine LeO.bind ?_ (fun _ => ?_)
theorem rank_ranks.mono : ∀ a0 a1 k, LeO (rank_ranks.f k a0 a1) (rank_ranks.f (k + 1) a0 a1) := by
 intro a0 a1 k
 obtain ⟨ih0, ih1⟩ := rank_ranks.mono_l k
 unfold rank_ranks.f
 repeat' first
   | (with_reducible exact ih0 _ _ _ _ _)
   | (with_reducible exact ih1 _ _ _ _ _ _ _ _ _ _)
   | (with_reducible exact LeO.refl _)
   | (with_reducible exact LeO.none _)
   | (with_reducible refine LeO.ite ?_ ?_)
   | (with_reducible refine LeO.bind ?_ (fun _ => ?_))
   | exact ih0 _ _ _ _ _
   | exact ih1 _ _ _ _ _ _ _ _ _ _
   | exact LeO.none _
   | refine LeO.ite ?_ ?_
   | refine LeO.bind ?_ (fun _ => ?_)
set_option maxHeartbeats 8000000 in
set_option maxRecDepth 100000 in
theorem rank_ranks.calls (k : Nat) (A0 : Option Addr) (c0 : Nat) (l0 : List Int) (A1 : Option Addr) (c1 : Nat) (l1 : List Int) (r : List Int) (w : World) (hr0 : Kd.C (Kd.int .i64) w A0 l0.length l0) (hc0 : l0.length ≤ c0) (hr1 : Kd.C (Kd.int .i64) w A1 l1.length l1) (hc1 : l1.length ≤ c1) (h : rank_ranks.f k l0 l1 = some r) :
  Calls Try.prog 62 #[.slice A0 l0.length c0, .slice A1 l1.length c1] w fun e w' => ∃ v0_ : Value, e = .returned (v0_) ∧ Kd.R (Kd.int .i64) 3 w' w.heap.size (fun _ => True) v0_ r ∧ Below w.heap.size w w' := by
 have HR0 := Aside0.mk hr0
 have HC0 := Aside0.mk hc0
 clear hr0 hc0
 have HR1 := Aside0.mk hr1
 have HC1 := Aside0.mk hc1
 clear hr1 hc1
 have HB := Aside0.mk (Below.refl w.heap.size w)
 have H : (rank_ranks.l0 k l1 ([] : List Int) l0 (l0.length : Int) 0) = some r := h
 clear h
 have H' := Aside0.mk H
 clear H
 go_enter Try.func62, Try.ntmps62
 go_wp2
 go_loopg [5, 13] k (fun kq v5 v13 w' => ∃ (x5_1 : List Int) (x13_1 : Int), v13 = .int .i64 x13_1 ∧ Aside0 (rank_ranks.l0 kq l1 x5_1 l0 (l0.length : Int) x13_1 = some r) ∧ Aside0 (kq ≤ k) ∧ Aside0 (Kd.R (Kd.int .i64) 3 w' w.heap.size (fun _ => True) v5 x5_1) ∧ Aside0 (Below w.heap.size w w'))
 case atStart => exact ⟨(([] : List Int)), (0), (by first | rfl | (simp; done) | (simp [*]; done)), H', ⟨Nat.le_refl _⟩, ⟨by first | exact Kd.R_nil _ _ _ _ _ | exact Kd.N_nil _ _ _ _ _ | exact Kd.V_nil _ _ _ _ _ | exact Kd.Q_nil _ _ _ _ _ | exact Kd.S_nil _ _ _ _ _⟩, ⟨GS.lB HB.out⟩⟩
 case round =>
  clear H'
  try clear c1
  try clear p2
  obtain ⟨x5_1, x13_1, rfl, HA, HK1, HO_5, HB⟩ := hrel
  cases gk with
  | zero => exact absurd HA.out (by simp [rank_ranks.l0])
  | succ k1 =>
   have H := HA.out
   clear HA
   simp only [rank_ranks.l0] at H
   by_cases c3 : x13_1 < (l0.length : Int)
   ·rw [if_pos c3] at H
    have c3b0 : decide (x13_1 < (l0.length : Int)) = true := decide_eq_true c3
    clear c3
    by_cases c4 : 0 ≤ x13_1
    ·rw [if_pos c4] at H
     have c4b0 : decide (0 ≤ x13_1) = true := decide_eq_true c4
     clear c4
     by_cases c5 : x13_1 < (l0.length : Int)
     ·rw [if_pos c5] at H
      have c5b0 : decide (x13_1 < (l0.length : Int)) = true := decide_eq_true c5
      clear c5
      have H' := Aside0.mk H
      clear H
      have p112 : 0 ≤ (x13_1 : Int) := of_decide_eq_true (by first | (with_reducible assumption) | assumption)
      have q112 : x13_1 < (l0.length : Int) := of_decide_eq_true (by first | (with_reducible assumption) | assumption)
      obtain ⟨ad112, e112, hx112_0⟩ := Kd.at_int HR0.out x13_1 p112 q112
      cases e112
      replace hx112_0 := (HB.out.cell (World.block_lt_of_cell? w _ hx112_0)).trans hx112_0
      replace p112 := eq_true p112
      replace q112 := eq_true q112
      go_wp2
      go_loopg [8, 19] k1 (fun kq v8 v19 w' => ∃ (x8_2 : Int) (x19_2 : Int), v8 = .int .i64 x8_2 ∧ v19 = .int .i64 x19_2 ∧ Aside0 (rank_ranks.l1 kq l1 x5_1 (rd l0 x13_1) x8_2 l0 (l0.length : Int) x13_1 l1 (l1.length : Int) x19_2 = some r) ∧ Aside0 (kq ≤ k1) ∧ Aside0 (Kd.R (Kd.int .i64) 3 w' w.heap.size (fun _ => True) u5 x5_1) ∧ Aside0 (Below w.heap.size w w'))
      case atStart => exact ⟨(1), (0), (by first | rfl | (simp; done) | (simp [*]; done)), (by first | rfl | (simp; done) | (simp [*]; done)), H', ⟨Nat.le_refl _⟩, ⟨by (with_reducible repeat (first | apply Kd.R_alloc | apply Kd.R_drewN | apply Kd.R_drew)); exact HO_5.out⟩, ⟨GS.lB HB.out⟩⟩
      case round =>
       clear H'
       try clear c1
       try clear p1
       try clear q1
       try clear hx1
       try clear p2
       try clear c3
       try clear c3b0
       try clear c4
       try clear c4b0
       try clear c5
       try clear c5b0
       try clear hx112_0
       try clear p112
       try clear p2
       try clear q112
       obtain ⟨x8_2, x19_2, rfl, rfl, HA, HK2, HO_5, HB⟩ := hrel
       cases gk with
       | zero => exact absurd HA.out (by simp [rank_ranks.l1])
       | succ k2 =>
        have H := HA.out
        clear HA
        simp only [rank_ranks.l1] at H
        by_cases c6 : x19_2 < (l1.length : Int)
        ·rw [if_pos c6] at H
         have c6b0 : decide (x19_2 < (l1.length : Int)) = true := decide_eq_true c6
         clear c6
         by_cases c7 : 0 ≤ x19_2
         ·rw [if_pos c7] at H
          have c7b0 : decide (0 ≤ x19_2) = true := decide_eq_true c7
          clear c7
          by_cases c8 : x19_2 < (l1.length : Int)
          ·rw [if_pos c8] at H
           have c8b0 : decide (x19_2 < (l1.length : Int)) = true := decide_eq_true c8
           clear c8
           by_cases c9 : (rd l1 x19_2) < (rd l0 x13_1)
           ·rw [if_pos c9] at H
            have c9b0 : decide ((rd l1 x19_2) < (rd l0 x13_1)) = true := decide_eq_true c9
            clear c9
            have H' := Aside0.mk H
            clear H
            have p116 : 0 ≤ (x19_2 : Int) := of_decide_eq_true (by first | (with_reducible assumption) | assumption)
            have q116 : x19_2 < (l1.length : Int) := of_decide_eq_true (by first | (with_reducible assumption) | assumption)
            obtain ⟨ad116, e116, hx116_0⟩ := Kd.at_int HR1.out x19_2 p116 q116
            cases e116
            replace hx116_0 := (HB.out.cell (World.block_lt_of_cell? w _ hx116_0)).trans hx116_0
            replace p116 := eq_true p116
            replace q116 := eq_true q116
            go_wp2
            go_roundg k2
            case measure => have := HK1.out; have := HK2.out; omega
            case rel => exact ⟨(wrap64 (x8_2 + 2)), (wrap64 (x19_2 + 1)), (by first | rfl | (simp; done) | (simp [*]; done)), (by first | rfl | (simp; done) | (simp [*]; done)), H', ⟨by have := HK1.out; have := HK2.out; omega⟩, ⟨by (with_reducible repeat (first | apply Kd.R_alloc | apply Kd.R_drewN | apply Kd.R_drew)); exact HO_5.out⟩, ⟨GS.lB HB.out⟩⟩
           ·rw [if_neg c9] at H
            have c9b0 : decide ((rd l1 x19_2) < (rd l0 x13_1)) = false := decide_eq_false c9
            clear c9
            by_cases c10 : (rd l1 x19_2) = (rd l0 x13_1)
            ·rw [if_pos c10] at H
             have c10b0 : ((rd l1 x19_2) == (rd l0 x13_1)) = true := beq_iff_eq.mpr c10
             try simp only [beq_self_eq_true, Bool.not_true, Bool.false_or, Bool.true_and] at c10b0
             have c10b1 : ((rd l1 x19_2) != (rd l0 x13_1)) = false := bne_eq_false_iff_eq.mpr c10
             clear c10
             have H' := Aside0.mk H
             clear H
             have p116 : 0 ≤ (x19_2 : Int) := of_decide_eq_true (by first | (with_reducible assumption) | assumption)
             have q116 : x19_2 < (l1.length : Int) := of_decide_eq_true (by first | (with_reducible assumption) | assumption)
             obtain ⟨ad116, e116, hx116_0⟩ := Kd.at_int HR1.out x19_2 p116 q116
             cases e116
             replace hx116_0 := (HB.out.cell (World.block_lt_of_cell? w _ hx116_0)).trans hx116_0
             replace p116 := eq_true p116
             replace q116 := eq_true q116
             go_wp2
             go_roundg k2
             case measure => have := HK1.out; have := HK2.out; omega
             case rel => exact ⟨(wrap64 (x8_2 + 1)), (wrap64 (x19_2 + 1)), (by first | rfl | (simp; done) | (simp [*]; done)), (by first | rfl | (simp; done) | (simp [*]; done)), H', ⟨by have := HK1.out; have := HK2.out; omega⟩, ⟨by (with_reducible repeat (first | apply Kd.R_alloc | apply Kd.R_drewN | apply Kd.R_drew)); exact HO_5.out⟩, ⟨GS.lB HB.out⟩⟩
            ·rw [if_neg c10] at H
             have c10b0 : ((rd l1 x19_2) == (rd l0 x13_1)) = false := beq_eq_false_iff_ne.mpr c10
             try simp only [beq_self_eq_true, Bool.not_true, Bool.false_or, Bool.true_and] at c10b0
             have c10b1 : ((rd l1 x19_2) != (rd l0 x13_1)) = true := bne_iff_ne.mpr c10
             have H' := Aside0.mk H
             clear H
             have p116 : 0 ≤ (x19_2 : Int) := of_decide_eq_true (by first | (with_reducible assumption) | assumption)
             have q116 : x19_2 < (l1.length : Int) := of_decide_eq_true (by first | (with_reducible assumption) | assumption)
             obtain ⟨ad116, e116, hx116_0⟩ := Kd.at_int HR1.out x19_2 p116 q116
             cases e116
             replace hx116_0 := (HB.out.cell (World.block_lt_of_cell? w _ hx116_0)).trans hx116_0
             replace p116 := eq_true p116
             replace q116 := eq_true q116
             go_wp2
             go_roundg k2
             case measure => have := HK1.out; have := HK2.out; omega
             case rel => exact ⟨(x8_2), (wrap64 (x19_2 + 1)), (by first | rfl | (simp; done) | (simp [*]; done)), (by first | rfl | (simp; done) | (simp [*]; done)), H', ⟨by have := HK1.out; have := HK2.out; omega⟩, ⟨by (with_reducible repeat (first | apply Kd.R_alloc | apply Kd.R_drewN | apply Kd.R_drew)); exact HO_5.out⟩, ⟨GS.lB HB.out⟩⟩
          ·rw [if_neg c8] at H
           exact absurd H (by simp)
         ·rw [if_neg c7] at H
          exact absurd H (by simp)
        ·rw [if_neg c6] at H
         have c6b0 : decide (x19_2 < (l1.length : Int)) = false := decide_eq_false c6
         clear c6
         by_cases c11 : x5_1.length < 17592186044416
         ·rw [if_pos c11] at H
          have LMc11 := Aside0.mk c11
          clear c11
          obtain ⟨y113, hy113⟩ : ∃ y_ : List Int, y_ = (x5_1 ++ [x8_2]) := ⟨_, rfl⟩
          replace H : (rank_ranks.l0 k2 l1 y113 l0 (l0.length : Int) (wrap64 (x13_1 + 1))) = some r := by first | (rw [hy113]; with_reducible exact H) | (have H2_ := (Option.bind_some _ _).symm.trans H; rw [hy113]; with_reducible exact H2_) | (have H2_ := (Option.bind_some _ _).symm.trans H; with_reducible exact H2_) | with_reducible exact H | (rw [hy113]; exact H) | exact H
          have Ny113 := Aside0.mk hy113
          clear hy113
          have H' := Aside0.mk H
          clear H
          go_wp2_with (first | ((with_reducible refine gate_builtin (b := .append) (xs := #[.tmp 36, .tmp 38]) rfl ?_); at_builtin; refine Kd.R_append (Kd.int .i64) (w0 := w) w.heap.size rfl (.tmp 36) (.tmp 38) 31 3 (.int .i64 0) 8 rfl Try.underlying31 info3 rfl (by decide) (by omega) u5 x5_1 x8_2 [.int .i64 x8_2] (fun _ => True) (fun _ => False) rfl rfl ?aP (fun _ hk => hk.elim) ?aF ?aO ?aB ?aS ?aL ?_; (case aP => exact rfl); (case aB => exact (GS.lB HB.out)); (case aF => exact (fun _ _ => trivial)); (case aO => exact (GS.rR HO_5.out)); (case aS => exact (lqZ (GS.lB HB.out))); (case aL => have := LMc11.out; omega); intro v114 w12 ho hb hg hat; rw [← Ny113.out] at ho; have n0_ := Aside0.mk (hb); have n1_ := Aside0.mk (ho); clear HB; clear HO_5; have HB := n0_; have HO115 := n1_; clear n0_ n1_; clear ho hb hg hat))
          go_roundg k2
          case measure => have := HK1.out; have := HK2.out; omega
          case rel => exact ⟨(y113), (wrap64 (x13_1 + 1)), (by first | rfl | (simp; done) | (simp [*]; done)), H', ⟨by have := HK1.out; have := HK2.out; omega⟩, ⟨by (with_reducible repeat (first | apply Kd.R_alloc | apply Kd.R_drewN | apply Kd.R_drew)); exact HO115.out⟩, ⟨GS.lB HB.out⟩⟩
         ·rw [if_neg c11] at H
          exact absurd H (by simp)
     ·rw [if_neg c5] at H
      exact absurd H (by simp)
    ·rw [if_neg c4] at H
     exact absurd H (by simp)
   ·rw [if_neg c3] at H
    have c3b0 : decide (x13_1 < (l0.length : Int)) = false := decide_eq_false c3
    clear c3
    obtain rfl := Option.some.inj H
    go_wp2
    go_ret
    exact ⟨_, by first | rfl | (simp [errW_none, errW_some] <;> rfl) | (simp [*, errW_none, errW_some] <;> rfl), by (with_reducible repeat (first | apply Kd.R_alloc | apply Kd.R_drewN | apply Kd.R_drew)); exact HO_5.out, GS.lB HB.out⟩

-- GIVEN: function 63 (rank_statistic)

-- GIVEN: function 45 (rank_AtLeast)

end Go.Proofs.Ytfhmjleimampeaa.K
