-- PRINTED by print.py (a twelfth state) out of the translation. Not trusted: Lean checks it.
import Derived.Test.YtfhmjleimampeaaK0
import Derived.Test.YtfhmjleimampeaaGShort
namespace Go.Proofs.Ytfhmjleimampeaa.K
open Go.RowKit Go.Proofs.YtfhmjleimampeaaW.PrintWords Go.Proofs.YtfhmjleimampeaaW.PrintLast Go.Proofs.YtfhmjleimampeaaW.PrintMore
attribute [local go_sem] max2_int min2_int max_two min_two max_three min_three max_four min_four   -- for this text's walks alone
set_option linter.unusedVariables false
set_option linter.unusedSimpArgs false

/-! ### spileref33_Check: function 68 -/
def spileref33_Check.l0 : Nat → List Int → Int → Option (Int)
 | 0, _, _ => none
 | k + 1, x0, x3 => if x3 < (x0.length : Int) then (if 0 ≤ x3 then (if (rd x0 x3) < (-1099511627776) then (some 2) else (if (rd x0 x3) > 1099511627776 then (some 2) else (spileref33_Check.l0 k x0 (wrap64 (x3 + 1))))) else (none)) else (some 0)
def spileref33_Check.f (k : Nat) (l0 : List Int) : Option (Int) := if (l0.length : Int) = 0 then (some 9) else (if (l0.length : Int) > 64 then (some 8) else (spileref33_Check.l0 k l0 0))
theorem spileref33_Check.mono_l : ∀ k, (∀ y0 y1, LeO (spileref33_Check.l0 k y0 y1) (spileref33_Check.l0 (k + 1) y0 y1))
 | 0 => fun _ _ r h => by simp [spileref33_Check.l0] at h
 | k + 1 => by
  have ih0 := spileref33_Check.mono_l k
  ·intro y0 y1
   unfold spileref33_Check.l0
   repeat' first
   | (with_reducible exact ih0 _ _)
   | (with_reducible exact LeO.refl _)
   | (with_reducible exact LeO.none _)
   | (with_reducible refine LeO.ite ?_ ?_)
   | (with_reducible refine LeO.bind ?_ (fun _ => ?_))
   | exact ih0 _ _
   | exact LeO.none _
   | refine LeO.ite ?_ ?_
   | refine LeO.bind ?_ (fun _ => ?_)
theorem spileref33_Check.mono : ∀ a0 k, LeO (spileref33_Check.f k a0) (spileref33_Check.f (k + 1) a0) := by
 intro a0 k
 have ih0 := spileref33_Check.mono_l k
 unfold spileref33_Check.f
 repeat' first
   | (with_reducible exact ih0 _ _)
   | (with_reducible exact LeO.refl _)
   | (with_reducible exact LeO.none _)
   | (with_reducible refine LeO.ite ?_ ?_)
   | (with_reducible refine LeO.bind ?_ (fun _ => ?_))
   | exact ih0 _ _
   | exact LeO.none _
   | refine LeO.ite ?_ ?_
   | refine LeO.bind ?_ (fun _ => ?_)
set_option maxHeartbeats 8000000 in
set_option maxRecDepth 100000 in
theorem spileref33_Check.calls (k : Nat) (A0 : Option Addr) (c0 : Nat) (l0 : List Int) (r : Int) (w : World) (hr0 : Kd.C (Kd.int .i64) w A0 l0.length l0) (hc0 : l0.length ≤ c0) (h : spileref33_Check.f k l0 = some r) :
  Calls Try.prog 68 #[.slice A0 l0.length c0] w fun e w' => e = .returned (.int .i64 r) ∧ Drawn0 w w' := by
 have HR0 := Aside0.mk hr0
 have HC0 := Aside0.mk hc0
 clear hr0 hc0
 have H : (if (l0.length : Int) = 0 then (some 9) else (if (l0.length : Int) > 64 then (some 8) else (spileref33_Check.l0 k l0 0))) = some r := h
 clear h
 by_cases c2 : (l0.length : Int) = 0
 ·rw [if_pos c2] at H
  have c2b0 : ((l0.length : Int) == 0) = true := beq_iff_eq.mpr c2
  try simp only [beq_self_eq_true, Bool.not_true, Bool.false_or, Bool.true_and] at c2b0
  have c2b1 : ((l0.length : Int) != 0) = false := bne_eq_false_iff_eq.mpr c2
  clear c2
  obtain rfl := Option.some.inj H
  go_enter Try.func68, Try.ntmps68
  go_wp2
  go_ret
  exact ⟨by first | rfl | (simp; done) | (simp [*]; done), by repeat (first | exact Drawn0.refl _ | apply Drawn0.step)⟩
 ·rw [if_neg c2] at H
  have c2b0 : ((l0.length : Int) == 0) = false := beq_eq_false_iff_ne.mpr c2
  try simp only [beq_self_eq_true, Bool.not_true, Bool.false_or, Bool.true_and] at c2b0
  have c2b1 : ((l0.length : Int) != 0) = true := bne_iff_ne.mpr c2
  have c2b2 : ¬ (l0 = []) := fun h_ => c2 (by rw [h_]; rfl)
  by_cases c3 : (l0.length : Int) > 64
  ·rw [if_pos c3] at H
   have c3b0 : decide (64 < (l0.length : Int)) = true := decide_eq_true c3
   have c3b1 : decide (64 < l0.length) = true := decide_eq_true (by omega)
   clear c3
   obtain rfl := Option.some.inj H
   go_enter Try.func68, Try.ntmps68
   go_wp2
   go_ret
   exact ⟨by first | rfl | (simp; done) | (simp [*]; done), by repeat (first | exact Drawn0.refl _ | apply Drawn0.step)⟩
  ·rw [if_neg c3] at H
   have c3b0 : decide (64 < (l0.length : Int)) = false := decide_eq_false c3
   have c3b1 : decide (64 < l0.length) = false := decide_eq_false (by omega)
   clear c3
   have H' := Aside0.mk H
   clear H
   go_enter Try.func68, Try.ntmps68
   go_wp2
   go_loopg [3] k (fun kq v3 w' => ∃ (x3_1 : Int), v3 = .int .i64 x3_1 ∧ Aside0 (spileref33_Check.l0 kq l0 x3_1 = some r) ∧ Aside0 (kq ≤ k) ∧ Drawn0 w w')
   case atStart => exact ⟨(0), (by first | rfl | (simp; done) | (simp [*]; done)), H', ⟨Nat.le_refl _⟩, by repeat (first | exact Drawn0.refl _ | apply Drawn0.step)⟩
   case round =>
    clear H'
    try clear c2
    try clear c2b0
    try clear c2b1
    try clear c2b2
    try clear p2
    try clear c3
    try clear c3b0
    try clear c3b1
    obtain ⟨x3_1, rfl, HA, HK1, ⟨m1, rfl⟩⟩ := hrel
    cases gk with
    | zero => exact absurd HA.out (by simp [spileref33_Check.l0])
    | succ k1 =>
     have H := HA.out
     clear HA
     simp only [spileref33_Check.l0] at H
     by_cases c4 : x3_1 < (l0.length : Int)
     ·rw [if_pos c4] at H
      have c4b0 : decide (x3_1 < (l0.length : Int)) = true := decide_eq_true c4
      clear c4
      by_cases c5 : 0 ≤ x3_1
      ·rw [if_pos c5] at H
       have c5b0 : decide (0 ≤ x3_1) = true := decide_eq_true c5
       clear c5
       by_cases c6 : (rd l0 x3_1) < (-1099511627776)
       ·rw [if_pos c6] at H
        have c6b0 : decide ((rd l0 x3_1) < (-1099511627776)) = true := decide_eq_true c6
        clear c6
        obtain rfl := Option.some.inj H
        have p373 : 0 ≤ (x3_1 : Int) := of_decide_eq_true (by first | (with_reducible assumption) | assumption)
        have q373 : x3_1 < (l0.length : Int) := of_decide_eq_true (by first | (with_reducible assumption) | assumption)
        obtain ⟨ad373, e373, hx373_0⟩ := Kd.at_int HR0.out x3_1 p373 q373
        cases e373
        replace p373 := eq_true p373
        replace q373 := eq_true q373
        go_wp2
        go_ret
        exact ⟨by first | rfl | (simp; done) | (simp [*]; done), by repeat (first | exact Drawn0.refl _ | apply Drawn0.step)⟩
       ·rw [if_neg c6] at H
        have c6b0 : decide ((rd l0 x3_1) < (-1099511627776)) = false := decide_eq_false c6
        clear c6
        by_cases c7 : (rd l0 x3_1) > 1099511627776
        ·rw [if_pos c7] at H
         have c7b0 : decide (1099511627776 < (rd l0 x3_1)) = true := decide_eq_true c7
         clear c7
         obtain rfl := Option.some.inj H
         have p373 : 0 ≤ (x3_1 : Int) := of_decide_eq_true (by first | (with_reducible assumption) | assumption)
         have q373 : x3_1 < (l0.length : Int) := of_decide_eq_true (by first | (with_reducible assumption) | assumption)
         obtain ⟨ad373, e373, hx373_0⟩ := Kd.at_int HR0.out x3_1 p373 q373
         cases e373
         replace p373 := eq_true p373
         replace q373 := eq_true q373
         have p374 : 0 ≤ (x3_1 : Int) := of_decide_eq_true (by first | (with_reducible assumption) | assumption)
         have q374 : x3_1 < (l0.length : Int) := of_decide_eq_true (by first | (with_reducible assumption) | assumption)
         obtain ⟨ad374, e374, hx374_0⟩ := Kd.at_int HR0.out x3_1 p374 q374
         obtain rfl : ad373 = ad374 := (by injection e374)
         replace p374 := eq_true p374
         replace q374 := eq_true q374
         go_wp2
         go_ret
         exact ⟨by first | rfl | (simp; done) | (simp [*]; done), by repeat (first | exact Drawn0.refl _ | apply Drawn0.step)⟩
        ·rw [if_neg c7] at H
         have c7b0 : decide (1099511627776 < (rd l0 x3_1)) = false := decide_eq_false c7
         clear c7
         have H' := Aside0.mk H
         clear H
         have p373 : 0 ≤ (x3_1 : Int) := of_decide_eq_true (by first | (with_reducible assumption) | assumption)
         have q373 : x3_1 < (l0.length : Int) := of_decide_eq_true (by first | (with_reducible assumption) | assumption)
         obtain ⟨ad373, e373, hx373_0⟩ := Kd.at_int HR0.out x3_1 p373 q373
         cases e373
         replace p373 := eq_true p373
         replace q373 := eq_true q373
         have p374 : 0 ≤ (x3_1 : Int) := of_decide_eq_true (by first | (with_reducible assumption) | assumption)
         have q374 : x3_1 < (l0.length : Int) := of_decide_eq_true (by first | (with_reducible assumption) | assumption)
         obtain ⟨ad374, e374, hx374_0⟩ := Kd.at_int HR0.out x3_1 p374 q374
         obtain rfl : ad373 = ad374 := (by injection e374)
         replace p374 := eq_true p374
         replace q374 := eq_true q374
         go_wp2
         go_roundg k1
         case measure => have := HK1.out; omega
         case rel => exact ⟨(wrap64 (x3_1 + 1)), (by first | rfl | (simp; done) | (simp [*]; done)), H', ⟨by have := HK1.out; omega⟩, by repeat (first | exact Drawn0.refl _ | apply Drawn0.step)⟩
      ·rw [if_neg c5] at H
       exact absurd H (by simp)
     ·rw [if_neg c4] at H
      have c4b0 : decide (x3_1 < (l0.length : Int)) = false := decide_eq_false c4
      clear c4
      obtain rfl := Option.some.inj H
      go_wp2
      go_ret
      exact ⟨by first | rfl | (simp; done) | (simp [*]; done), by repeat (first | exact Drawn0.refl _ | apply Drawn0.step)⟩

/-! ### spileref33_rank: function 78 -/
mutual
def spileref33_rank.l0 : Nat → List Int → Int → Int → Int → Option (Int)
 | 0, _, _, _, _ => none
 | k + 1, x0, x1, x5, x6 => if x6 < (x0.length : Int) then (if 0 ≤ x6 then (if (rd x0 x6) < x1 then (spileref33_rank.j1 k x0 x1 (wrap64 (x5 + 2)) x6) else (spileref33_rank.j1 k x0 x1 x5 x6)) else (none)) else (some x5)
def spileref33_rank.j1 : Nat → List Int → Int → Int → Int → Option (Int)
 | 0, _, _, _, _ => none
 | k + 1, x0, x1, x5, x6 => if 0 ≤ x6 then (if x6 < (x0.length : Int) then (if (rd x0 x6) = x1 then (spileref33_rank.l0 k x0 x1 (wrap64 (x5 + 1)) (wrap64 (x6 + 1))) else (spileref33_rank.l0 k x0 x1 x5 (wrap64 (x6 + 1)))) else (none)) else (none)
end
def spileref33_rank.f (k : Nat) (l0 : List Int) (a1 : Int) : Option (Int) := spileref33_rank.l0 k l0 a1 1 0
theorem spileref33_rank.mono_l : ∀ k, (∀ y0 y1 y2 y3, LeO (spileref33_rank.l0 k y0 y1 y2 y3) (spileref33_rank.l0 (k + 1) y0 y1 y2 y3)) ∧ (∀ y0 y1 y2 y3, LeO (spileref33_rank.j1 k y0 y1 y2 y3) (spileref33_rank.j1 (k + 1) y0 y1 y2 y3))
 | 0 => ⟨fun _ _ _ _ r h => by simp [spileref33_rank.l0] at h, fun _ _ _ _ r h => by simp [spileref33_rank.j1] at h⟩
 | k + 1 => by
  obtain ⟨ih0, ih1⟩ := spileref33_rank.mono_l k
  refine ⟨?_, ?_⟩
  ·intro y0 y1 y2 y3
   unfold spileref33_rank.l0
   repeat' first
   | (with_reducible exact ih0 _ _ _ _)
   | (with_reducible exact ih1 _ _ _ _)
   | (with_reducible exact LeO.refl _)
   | (with_reducible exact LeO.none _)
   | (with_reducible refine LeO.ite ?_ ?_)
   | (with_reducible refine LeO.bind ?_ (fun _ => ?_))
   | exact ih0 _ _ _ _
   | exact ih1 _ _ _ _
   | exact LeO.none _
   | refine LeO.ite ?_ ?_
   | refine LeO.bind ?_ (fun _ => ?_)
  ·intro y0 y1 y2 y3
   unfold spileref33_rank.j1
   repeat' first
   | (with_reducible exact ih0 _ _ _ _)
   | (with_reducible exact ih1 _ _ _ _)
   | (with_reducible exact LeO.refl _)
   | (with_reducible exact LeO.none _)
   | (with_reducible refine LeO.ite ?_ ?_)
   | (with_reducible refine LeO.bind ?_ (fun _ => ?_))
   | exact ih0 _ _ _ _
   | exact ih1 _ _ _ _
   | exact LeO.none _
   | refine LeO.ite ?_ ?_
   | refine LeO.bind ?_ (fun _ => ?_)
theorem spileref33_rank.mono : ∀ a0 a1 k, LeO (spileref33_rank.f k a0 a1) (spileref33_rank.f (k + 1) a0 a1) := by
 intro a0 a1 k
 obtain ⟨ih0, ih1⟩ := spileref33_rank.mono_l k
 unfold spileref33_rank.f
 repeat' first
   | (with_reducible exact ih0 _ _ _ _)
   | (with_reducible exact ih1 _ _ _ _)
   | (with_reducible exact LeO.refl _)
   | (with_reducible exact LeO.none _)
   | (with_reducible refine LeO.ite ?_ ?_)
   | (with_reducible refine LeO.bind ?_ (fun _ => ?_))
   | exact ih0 _ _ _ _
   | exact ih1 _ _ _ _
   | exact LeO.none _
   | refine LeO.ite ?_ ?_
   | refine LeO.bind ?_ (fun _ => ?_)
set_option maxHeartbeats 8000000 in
set_option maxRecDepth 100000 in
theorem spileref33_rank.calls (k : Nat) (A0 : Option Addr) (c0 : Nat) (l0 : List Int) (a1 : Int) (r : Int) (w : World) (hr0 : Kd.C (Kd.int .i64) w A0 l0.length l0) (hc0 : l0.length ≤ c0) (h : spileref33_rank.f k l0 a1 = some r) :
  Calls Try.prog 78 #[.slice A0 l0.length c0, .int .i64 a1] w fun e w' => e = .returned (.int .i64 r) ∧ Drawn0 w w' := by
 have HR0 := Aside0.mk hr0
 have HC0 := Aside0.mk hc0
 clear hr0 hc0
 have H : (spileref33_rank.l0 k l0 a1 1 0) = some r := h
 clear h
 have H' := Aside0.mk H
 clear H
 go_enter Try.func78, Try.ntmps78
 go_wp2
 go_loopg [5, 6] k (fun kq v5 v6 w' => ∃ (x5_1 : Int) (x6_1 : Int), v5 = .int .i64 x5_1 ∧ v6 = .int .i64 x6_1 ∧ Aside0 (spileref33_rank.l0 kq l0 a1 x5_1 x6_1 = some r) ∧ Aside0 (kq ≤ k) ∧ Drawn0 w w')
 case atStart => exact ⟨(1), (0), (by first | rfl | (simp; done) | (simp [*]; done)), (by first | rfl | (simp; done) | (simp [*]; done)), H', ⟨Nat.le_refl _⟩, by repeat (first | exact Drawn0.refl _ | apply Drawn0.step)⟩
 case round =>
  clear H'
  try clear p2
  obtain ⟨x5_1, x6_1, rfl, rfl, HA, HK1, ⟨m1, rfl⟩⟩ := hrel
  cases gk with
  | zero => exact absurd HA.out (by simp [spileref33_rank.l0])
  | succ k1 =>
   have H := HA.out
   clear HA
   simp only [spileref33_rank.l0] at H
   by_cases c3 : x6_1 < (l0.length : Int)
   ·rw [if_pos c3] at H
    have c3b0 : decide (x6_1 < (l0.length : Int)) = true := decide_eq_true c3
    clear c3
    by_cases c4 : 0 ≤ x6_1
    ·rw [if_pos c4] at H
     have c4b0 : decide (0 ≤ x6_1) = true := decide_eq_true c4
     clear c4
     have HC5 := Aside0.mk H
     clear H
     have p375 : 0 ≤ (x6_1 : Int) := of_decide_eq_true (by first | (with_reducible assumption) | assumption)
     have q375 : x6_1 < (l0.length : Int) := of_decide_eq_true (by first | (with_reducible assumption) | assumption)
     obtain ⟨ad375, e375, hx375_0⟩ := Kd.at_int HR0.out x6_1 p375 q375
     cases e375
     replace p375 := eq_true p375
     replace q375 := eq_true q375
     go_upto_if 18 with (fail)
     go_cut [5] (fun v5 wc => ∃ (kq : Nat) (x5_4 : Int), v5 = .int .i64 x5_4 ∧ Aside0 (spileref33_rank.j1 kq l0 a1 x5_4 x6_1 = some r) ∧ Aside0 (kq ≤ k1) ∧ Drawn0 w wc)
     case first =>
      have H := HC5.out
      clear HC5
      by_cases c6 : (rd l0 x6_1) < a1
      ·rw [if_pos c6] at H
       have c6b0 : decide ((rd l0 x6_1) < a1) = true := decide_eq_true c6
       clear c6
       (first | rw [c6b0] | (simp only [i64_w, i32_w]; rw [c6b0]) | skip)
       have H' := Aside0.mk H
       clear H
       go_wp2
       go_meet
       case rel => exact ⟨_, (wrap64 (x5_1 + 2)), (by first | rfl | (simp; done) | (simp [*]; done)), H', ⟨by have := HK1.out; first | omega | exact Nat.le_refl _⟩, by repeat (first | exact Drawn0.refl _ | apply Drawn0.step)⟩
      ·rw [if_neg c6] at H
       have c6b0 : decide ((rd l0 x6_1) < a1) = false := decide_eq_false c6
       clear c6
       (first | rw [c6b0] | (simp only [i64_w, i32_w]; rw [c6b0]) | skip)
       have H' := Aside0.mk H
       clear H
       go_wp2
       go_meet
       case rel => exact ⟨_, (x5_1), (by first | rfl | (simp; done) | (simp [*]; done)), H', ⟨by have := HK1.out; first | omega | exact Nat.le_refl _⟩, by repeat (first | exact Drawn0.refl _ | apply Drawn0.step)⟩
     case rest =>
      clear HC5
      try clear p2
      try clear c3
      try clear c3b0
      try clear p3
      try clear q3
      try clear hx3
      try clear c4
      try clear c4b0
      try clear c6
      try clear c6b0
      try clear p6
      try clear hx375_0
      try clear p2
      try clear p375
      try clear q375
      obtain ⟨kq, x5_4, rfl, HA, HJ4, ⟨mc4, rfl⟩⟩ := hcut
      cases kq with
      | zero => exact absurd HA.out (by simp [spileref33_rank.j1])
      | succ kj4 =>
       have H := HA.out
       clear HA
       simp only [spileref33_rank.j1] at H
       by_cases c7 : 0 ≤ x6_1
       ·rw [if_pos c7] at H
        have c7b0 : decide (0 ≤ x6_1) = true := decide_eq_true c7
        clear c7
        by_cases c8 : x6_1 < (l0.length : Int)
        ·rw [if_pos c8] at H
         have c8b0 : decide (x6_1 < (l0.length : Int)) = true := decide_eq_true c8
         clear c8
         by_cases c9 : (rd l0 x6_1) = a1
         ·rw [if_pos c9] at H
          have c9b0 : ((rd l0 x6_1) == a1) = true := beq_iff_eq.mpr c9
          try simp only [beq_self_eq_true, Bool.not_true, Bool.false_or, Bool.true_and] at c9b0
          have c9b1 : ((rd l0 x6_1) != a1) = false := bne_eq_false_iff_eq.mpr c9
          clear c9
          have H' := Aside0.mk H
          clear H
          have p376 : 0 ≤ (x6_1 : Int) := of_decide_eq_true (by first | (with_reducible assumption) | assumption)
          have q376 : x6_1 < (l0.length : Int) := of_decide_eq_true (by first | (with_reducible assumption) | assumption)
          obtain ⟨ad376, e376, hx376_0⟩ := Kd.at_int HR0.out x6_1 p376 q376
          obtain rfl : ad375 = ad376 := (by injection e376)
          replace p376 := eq_true p376
          replace q376 := eq_true q376
          go_wp2
          go_roundg kj4
          case measure => have := HK1.out; have := HJ4.out; omega
          case rel => exact ⟨(wrap64 (x5_4 + 1)), (wrap64 (x6_1 + 1)), (by first | rfl | (simp; done) | (simp [*]; done)), (by first | rfl | (simp; done) | (simp [*]; done)), H', ⟨by have := HK1.out; have := HJ4.out; omega⟩, by repeat (first | exact Drawn0.refl _ | apply Drawn0.step)⟩
         ·rw [if_neg c9] at H
          have c9b0 : ((rd l0 x6_1) == a1) = false := beq_eq_false_iff_ne.mpr c9
          try simp only [beq_self_eq_true, Bool.not_true, Bool.false_or, Bool.true_and] at c9b0
          have c9b1 : ((rd l0 x6_1) != a1) = true := bne_iff_ne.mpr c9
          have H' := Aside0.mk H
          clear H
          have p376 : 0 ≤ (x6_1 : Int) := of_decide_eq_true (by first | (with_reducible assumption) | assumption)
          have q376 : x6_1 < (l0.length : Int) := of_decide_eq_true (by first | (with_reducible assumption) | assumption)
          obtain ⟨ad376, e376, hx376_0⟩ := Kd.at_int HR0.out x6_1 p376 q376
          obtain rfl : ad375 = ad376 := (by injection e376)
          replace p376 := eq_true p376
          replace q376 := eq_true q376
          go_wp2
          go_roundg kj4
          case measure => have := HK1.out; have := HJ4.out; omega
          case rel => exact ⟨(x5_4), (wrap64 (x6_1 + 1)), (by first | rfl | (simp; done) | (simp [*]; done)), (by first | rfl | (simp; done) | (simp [*]; done)), H', ⟨by have := HK1.out; have := HJ4.out; omega⟩, by repeat (first | exact Drawn0.refl _ | apply Drawn0.step)⟩
        ·rw [if_neg c8] at H
         exact absurd H (by simp)
       ·rw [if_neg c7] at H
        exact absurd H (by simp)
    ·rw [if_neg c4] at H
     exact absurd H (by simp)
   ·rw [if_neg c3] at H
    have c3b0 : decide (x6_1 < (l0.length : Int)) = false := decide_eq_false c3
    clear c3
    obtain rfl := Option.some.inj H
    go_wp2
    go_ret
    exact ⟨by first | rfl | (simp; done) | (simp [*]; done), by repeat (first | exact Drawn0.refl _ | apply Drawn0.step)⟩

/-! ### spileref33_ranks: function 74 -/
def spileref33_ranks.l0 : Nat → List Int → List Int → Int → Option (List Int)
 | 0, _, _, _ => none
 | k + 1, x0, x3, x4 => if x4 < (x0.length : Int) then (if 0 ≤ x4 then ((spileref33_rank.f k x0 (rd x0 x4)).bind fun t381 => (if x3.length < 17592186044416 then (spileref33_ranks.l0 k x0 (x3 ++ [t381]) (wrap64 (x4 + 1))) else (none))) else (none)) else (some x3)
def spileref33_ranks.f (k : Nat) (l0 : List Int) : Option (List Int) := spileref33_ranks.l0 k l0 (([] : List Int)) 0
theorem spileref33_ranks.mono_l : ∀ k, (∀ y0 y1 y2, LeO (spileref33_ranks.l0 k y0 y1 y2) (spileref33_ranks.l0 (k + 1) y0 y1 y2))
 | 0 => fun _ _ _ r h => by simp [spileref33_ranks.l0] at h
 | k + 1 => by
  have ih0 := spileref33_ranks.mono_l k
  ·intro y0 y1 y2
   unfold spileref33_ranks.l0
   repeat' first
   | (with_reducible exact ih0 _ _ _)
   | (with_reducible exact spileref33_rank.mono _ _ _)
   | (with_reducible exact LeO.refl _)
   | (with_reducible exact LeO.none _)
   | (with_reducible refine LeO.ite ?_ ?_)
   | (with_reducible refine LeO.bind ?_ (fun _ => ?_))
   | exact ih0 _ _ _
   | exact spileref33_rank.mono _ _ _
   | exact LeO.none _
   | refine LeO.ite ?_ ?_
   | refine LeO.bind ?_ (fun _ => ?_)
theorem spileref33_ranks.mono : ∀ a0 k, LeO (spileref33_ranks.f k a0) (spileref33_ranks.f (k + 1) a0) := by
 intro a0 k
 have ih0 := spileref33_ranks.mono_l k
 unfold spileref33_ranks.f
 repeat' first
   | (with_reducible exact ih0 _ _ _)
   | (with_reducible exact spileref33_rank.mono _ _ _)
   | (with_reducible exact LeO.refl _)
   | (with_reducible exact LeO.none _)
   | (with_reducible refine LeO.ite ?_ ?_)
   | (with_reducible refine LeO.bind ?_ (fun _ => ?_))
   | exact ih0 _ _ _
   | exact spileref33_rank.mono _ _ _
   | exact LeO.none _
   | refine LeO.ite ?_ ?_
   | refine LeO.bind ?_ (fun _ => ?_)
set_option maxHeartbeats 8000000 in
set_option maxRecDepth 100000 in
theorem spileref33_ranks.calls (k : Nat) (A0 : Option Addr) (c0 : Nat) (l0 : List Int) (r : List Int) (w : World) (hr0 : Kd.C (Kd.int .i64) w A0 l0.length l0) (hc0 : l0.length ≤ c0) (h : spileref33_ranks.f k l0 = some r) :
  Calls Try.prog 74 #[.slice A0 l0.length c0] w fun e w' => ∃ v0_ : Value, e = .returned (v0_) ∧ Kd.R (Kd.int .i64) 3 w' w.heap.size (fun _ => True) v0_ r ∧ Below w.heap.size w w' := by
 have HR0 := Aside0.mk hr0
 have HC0 := Aside0.mk hc0
 clear hr0 hc0
 have HB := Aside0.mk (Below.refl w.heap.size w)
 have H : (spileref33_ranks.l0 k l0 (([] : List Int)) 0) = some r := h
 clear h
 obtain ⟨y377, hy377⟩ : ∃ y_ : List Int, y_ = (([] : List Int)) := ⟨_, rfl⟩
 replace H : (spileref33_ranks.l0 k l0 y377 0) = some r := by first | (rw [hy377]; with_reducible exact H) | (have H2_ := (Option.bind_some _ _).symm.trans H; rw [hy377]; with_reducible exact H2_) | (have H2_ := (Option.bind_some _ _).symm.trans H; with_reducible exact H2_) | with_reducible exact H | (rw [hy377]; exact H) | exact H
 have Ny377 := Aside0.mk hy377
 clear hy377
 have H' := Aside0.mk H
 clear H
 go_enter Try.func74, Try.ntmps74
 go_wp2_with (first | ((with_reducible refine gqD (N := 5) rfl ?_); refine Kd.R_lit (Kd.int .i64) _ 3 ?hg (N := 5) ?hd (xs := ([] : List Int)) (inner := []) (ok := fun _ => True) (okp := fun _ => True) ?hr ?hp (fun _ hk => hk) trivial (Below.refl _ _) (Nat.le_refl _) (by simp) ?_; (case hd => rfl); (case hg => rfl); (case hr => first | (go_simp; done) | (go_simp; rfl)); (case hp => exact (Reps.none _ _)); intro v378 w2 ho3 hb hg_ hnew_; clear hg_ hnew_; (first | rw [← Ny377.out] at ho3 | (simp only [Int.reduceToNat] at ho3; rw [← Ny377.out] at ho3)); have n0_ := Aside0.mk (Kd.R_lower ho3 (lqZ (GS.lB HB.out))); have n1_ := Aside0.mk (lqT (GS.lB HB.out) hb); clear HB; have HO379 := n0_; have HB := n1_; clear n0_ n1_; clear hb ho3))
 go_loopg [3, 4] k (fun kq v3 v4 w' => ∃ (x3_1 : List Int) (x4_1 : Int), v4 = .int .i64 x4_1 ∧ Aside0 (spileref33_ranks.l0 kq l0 x3_1 x4_1 = some r) ∧ Aside0 (kq ≤ k) ∧ Aside0 (Kd.R (Kd.int .i64) 3 w' w.heap.size (fun _ => True) v3 x3_1) ∧ Aside0 (Below w.heap.size w w'))
 case atStart => exact ⟨(y377), (0), (by first | rfl | (simp; done) | (simp [*]; done)), H', ⟨Nat.le_refl _⟩, ⟨by (with_reducible repeat (first | apply Kd.R_alloc | apply Kd.R_drewN | apply Kd.R_drew)); exact HO379.out⟩, ⟨GS.lB HB.out⟩⟩
 case round =>
  clear H'
  try clear p2
  obtain ⟨x3_1, x4_1, rfl, HA, HK1, HO_3, HB⟩ := hrel
  cases gk with
  | zero => exact absurd HA.out (by simp [spileref33_ranks.l0])
  | succ k1 =>
   have H := HA.out
   clear HA
   simp only [spileref33_ranks.l0] at H
   by_cases c4 : x4_1 < (l0.length : Int)
   ·rw [if_pos c4] at H
    have c4b0 : decide (x4_1 < (l0.length : Int)) = true := decide_eq_true c4
    clear c4
    by_cases c5 : 0 ≤ x4_1
    ·rw [if_pos c5] at H
     have c5b0 : decide (0 ≤ x4_1) = true := decide_eq_true c5
     clear c5
     replace H := Option.bind_eq_some_iff.mp H
     obtain ⟨t381, A60, H⟩ := H
     replace H : (if x3_1.length < 17592186044416 then (spileref33_ranks.l0 k1 l0 (x3_1 ++ [t381]) (wrap64 (x4_1 + 1))) else (none)) = some r := H
     have A6 := Aside0.mk A60
     clear A60
     by_cases c7 : x3_1.length < 17592186044416
     ·rw [if_pos c7] at H
      have LMc7 := Aside0.mk c7
      clear c7
      obtain ⟨y382, hy382⟩ : ∃ y_ : List Int, y_ = (x3_1 ++ [t381]) := ⟨_, rfl⟩
      replace H : (spileref33_ranks.l0 k1 l0 y382 (wrap64 (x4_1 + 1))) = some r := by first | (rw [hy382]; with_reducible exact H) | (have H2_ := (Option.bind_some _ _).symm.trans H; rw [hy382]; with_reducible exact H2_) | (have H2_ := (Option.bind_some _ _).symm.trans H; with_reducible exact H2_) | with_reducible exact H | (rw [hy382]; exact H) | exact H
      have Ny382 := Aside0.mk hy382
      clear hy382
      have H' := Aside0.mk H
      clear H
      have p380 : 0 ≤ (x4_1 : Int) := of_decide_eq_true (by first | (with_reducible assumption) | assumption)
      have q380 : x4_1 < (l0.length : Int) := of_decide_eq_true (by first | (with_reducible assumption) | assumption)
      obtain ⟨ad380, e380, hx380_0⟩ := Kd.at_int HR0.out x4_1 p380 q380
      cases e380
      replace hx380_0 := (HB.out.cell (World.block_lt_of_cell? w _ hx380_0)).trans hx380_0
      replace p380 := eq_true p380
      replace q380 := eq_true q380
      go_wp2_with (first | ((with_reducible refine gqC (f := 78) rfl ?_); refine GS.gL (some 18) Try.func78 #[.slice (some ad380) l0.length c0, .int .i64 (rd l0 x4_1)] ?_; (with_reducible refine (spileref33_rank.calls k1 _ _ l0 (rd l0 x4_1) t381 _ ?side1 ?side2 A6.out).mono ?_); (case side1 => exact GS.rC (Kd.C_below HR0.out HB.out)); (case side2 => exact HC0.out); rintro e w' ⟨rfl, ⟨nd, rfl⟩⟩; refine ⟨_, rfl, ?_⟩) | ((with_reducible refine gate_builtin (b := .append) (xs := #[.tmp 12, .tmp 19]) rfl ?_); at_builtin; refine Kd.R_append (Kd.int .i64) (w0 := w) w.heap.size rfl (.tmp 12) (.tmp 19) 31 3 (.int .i64 0) 8 rfl Try.underlying31 info3 rfl (by decide) (by omega) u3 x3_1 t381 [.int .i64 t381] (fun _ => True) (fun _ => False) rfl rfl ?aP (fun _ hk => hk.elim) ?aF ?aO ?aB ?aS ?aL ?_; (case aP => exact rfl); (case aB => exact (GS.lB HB.out)); (case aF => exact (fun _ _ => trivial)); (case aO => exact (GS.rR HO_3.out)); (case aS => exact (lqZ (GS.lB HB.out))); (case aL => have := LMc7.out; omega); intro v383 w8 ho hb hg hat; rw [← Ny382.out] at ho; have n0_ := Aside0.mk (hb); have n1_ := Aside0.mk (ho); clear HB; clear HO_3; have HB := n0_; have HO384 := n1_; clear n0_ n1_; clear ho hb hg hat))
      go_roundg k1
      case measure => have := HK1.out; omega
      case rel => exact ⟨(y382), (wrap64 (x4_1 + 1)), (by first | rfl | (simp; done) | (simp [*]; done)), H', ⟨by have := HK1.out; omega⟩, ⟨by (with_reducible repeat (first | apply Kd.R_alloc | apply Kd.R_drewN | apply Kd.R_drew)); exact HO384.out⟩, ⟨GS.lB HB.out⟩⟩
     ·rw [if_neg c7] at H
      exact absurd H (by simp)
    ·rw [if_neg c5] at H
     exact absurd H (by simp)
   ·rw [if_neg c4] at H
    have c4b0 : decide (x4_1 < (l0.length : Int)) = false := decide_eq_false c4
    clear c4
    obtain rfl := Option.some.inj H
    go_wp2
    go_ret
    exact ⟨_, by first | rfl | (simp [errW_none, errW_some] <;> rfl) | (simp [*, errW_none, errW_some] <;> rfl), by (with_reducible repeat (first | apply Kd.R_alloc | apply Kd.R_drewN | apply Kd.R_drew)); exact HO_3.out, GS.lB HB.out⟩

/-! ### spileref33_start: function 64 -/
def spileref33_start.f (k : Nat) (l0 : List Int) (l1 : List Int) : Option (List Int × Int) := (spileref33_Check.f k l0).bind fun t385 => (if t385 = 0 then ((spileref33_Check.f k l1).bind fun t386 => (if t386 = 0 then (if (wrap64 ((l0.length : Int) + (l1.length : Int))) > 24 then (some (([] : List Int), 8)) else ((some (([] : List Int) : List Int)).bind fun y387 => (if y387.length + l0.length < 17592186044416 then ((some (y387 ++ l0 : List Int)).bind fun y390 => (if y390.length + l1.length < 17592186044416 then ((spileref33_ranks.f k (y390 ++ l1)).bind fun t396 => (some (t396, 0))) else (none))) else (none)))) else (some (([] : List Int), t386)))) else (some (([] : List Int), t385)))
theorem spileref33_start.mono : ∀ a0 a1 k, LeO (spileref33_start.f k a0 a1) (spileref33_start.f (k + 1) a0 a1) := by
 intro a0 a1 k
 unfold spileref33_start.f
 repeat' first
   | (with_reducible exact spileref33_Check.mono _ _)
   | (with_reducible exact spileref33_ranks.mono _ _)
   | (with_reducible exact LeO.refl _)
   | (with_reducible exact LeO.none _)
   | (with_reducible refine LeO.ite ?_ ?_)
   | (with_reducible refine LeO.bind ?_ (fun _ => ?_))
   | exact spileref33_Check.mono _ _
   | exact spileref33_ranks.mono _ _
   | exact LeO.none _
   | refine LeO.ite ?_ ?_
   | refine LeO.bind ?_ (fun _ => ?_)
set_option maxHeartbeats 8000000 in
set_option maxRecDepth 100000 in
theorem spileref33_start.calls (k : Nat) (A0 : Option Addr) (c0 : Nat) (l0 : List Int) (A1 : Option Addr) (c1 : Nat) (l1 : List Int) (r1 : List Int) (r2 : Int) (w : World) (hr0 : Kd.C (Kd.int .i64) w A0 l0.length l0) (hc0 : l0.length ≤ c0) (hr1 : Kd.C (Kd.int .i64) w A1 l1.length l1) (hc1 : l1.length ≤ c1) (h : spileref33_start.f k l0 l1 = some (r1, r2)) :
  Calls Try.prog 64 #[.slice A0 l0.length c0, .slice A1 l1.length c1] w fun e w' => ∃ v0_ : Value, e = .returned (.tuple #[v0_, .int .i64 r2]) ∧ Kd.R (Kd.int .i64) 3 w' w.heap.size (fun _ => True) v0_ r1 ∧ Below w.heap.size w w' := by
 have HR0 := Aside0.mk hr0
 have HC0 := Aside0.mk hc0
 clear hr0 hc0
 have HR1 := Aside0.mk hr1
 have HC1 := Aside0.mk hc1
 clear hr1 hc1
 have HB := Aside0.mk (Below.refl w.heap.size w)
 have H : ((spileref33_Check.f k l0).bind fun t385 => (if t385 = 0 then ((spileref33_Check.f k l1).bind fun t386 => (if t386 = 0 then (if (wrap64 ((l0.length : Int) + (l1.length : Int))) > 24 then (some (([] : List Int), 8)) else ((some (([] : List Int) : List Int)).bind fun y387 => (if y387.length + l0.length < 17592186044416 then ((some (y387 ++ l0 : List Int)).bind fun y390 => (if y390.length + l1.length < 17592186044416 then ((spileref33_ranks.f k (y390 ++ l1)).bind fun t396 => (some (t396, 0))) else (none))) else (none)))) else (some (([] : List Int), t386)))) else (some (([] : List Int), t385)))) = some (r1, r2) := h
 clear h
 replace H := Option.bind_eq_some_iff.mp H
 obtain ⟨t385, A30, H⟩ := H
 replace H : (if t385 = 0 then ((spileref33_Check.f k l1).bind fun t386 => (if t386 = 0 then (if (wrap64 ((l0.length : Int) + (l1.length : Int))) > 24 then (some (([] : List Int), 8)) else ((some (([] : List Int) : List Int)).bind fun y387 => (if y387.length + l0.length < 17592186044416 then ((some (y387 ++ l0 : List Int)).bind fun y390 => (if y390.length + l1.length < 17592186044416 then ((spileref33_ranks.f k (y390 ++ l1)).bind fun t396 => (some (t396, 0))) else (none))) else (none)))) else (some (([] : List Int), t386)))) else (some (([] : List Int), t385))) = some (r1, r2) := H
 have A3 := Aside0.mk A30
 clear A30
 by_cases c4 : t385 = 0
 ·rw [if_pos c4] at H
  have c4b0 : (t385 == 0) = true := beq_iff_eq.mpr c4
  try simp only [beq_self_eq_true, Bool.not_true, Bool.false_or, Bool.true_and] at c4b0
  have c4b1 : (t385 != 0) = false := bne_eq_false_iff_eq.mpr c4
  clear c4
  replace H := Option.bind_eq_some_iff.mp H
  obtain ⟨t386, A50, H⟩ := H
  replace H : (if t386 = 0 then (if (wrap64 ((l0.length : Int) + (l1.length : Int))) > 24 then (some (([] : List Int), 8)) else ((some (([] : List Int) : List Int)).bind fun y387 => (if y387.length + l0.length < 17592186044416 then ((some (y387 ++ l0 : List Int)).bind fun y390 => (if y390.length + l1.length < 17592186044416 then ((spileref33_ranks.f k (y390 ++ l1)).bind fun t396 => (some (t396, 0))) else (none))) else (none)))) else (some (([] : List Int), t386))) = some (r1, r2) := H
  have A5 := Aside0.mk A50
  clear A50
  by_cases c6 : t386 = 0
  ·rw [if_pos c6] at H
   have c6b0 : (t386 == 0) = true := beq_iff_eq.mpr c6
   try simp only [beq_self_eq_true, Bool.not_true, Bool.false_or, Bool.true_and] at c6b0
   have c6b1 : (t386 != 0) = false := bne_eq_false_iff_eq.mpr c6
   clear c6
   by_cases c7 : (wrap64 ((l0.length : Int) + (l1.length : Int))) > 24
   ·rw [if_pos c7] at H
    have c7b0 : decide (24 < (wrap64 ((l0.length : Int) + (l1.length : Int)))) = true := decide_eq_true c7
    clear c7
    simp only [Option.some.injEq, Prod.mk.injEq] at H
    obtain ⟨rfl, rfl⟩ := H
    go_enter Try.func64, Try.ntmps64
    go_wp2_with (first | ((with_reducible refine gqC (f := 68) rfl ?_); refine GS.gL (some 9) Try.func68 #[.slice A0 l0.length c0] ?_; (with_reducible refine (spileref33_Check.calls k _ _ l0 t385 _ ?side1 ?side2 A3.out).mono ?_); (case side1 => exact GS.rC HR0.out); (case side2 => exact HC0.out); rintro e w' ⟨rfl, ⟨nd, rfl⟩⟩; refine ⟨_, rfl, ?_⟩) | ((with_reducible refine gqC (f := 68) rfl ?_); refine GS.gL (some 14) Try.func68 #[.slice A1 l1.length c1] ?_; (with_reducible refine (spileref33_Check.calls k _ _ l1 t386 _ ?side1 ?side2 A5.out).mono ?_); (case side1 => exact GS.rC HR1.out); (case side2 => exact HC1.out); rintro e w' ⟨rfl, ⟨nd, rfl⟩⟩; refine ⟨_, rfl, ?_⟩))
    go_ret2
    exact ⟨_, by first | rfl | (simp [errW_none, errW_some] <;> rfl) | (simp [*, errW_none, errW_some] <;> rfl), by first | exact Kd.R_nil _ _ _ _ _ | exact Kd.N_nil _ _ _ _ _ | exact Kd.V_nil _ _ _ _ _ | exact Kd.Q_nil _ _ _ _ _ | exact Kd.S_nil _ _ _ _ _, GS.lB HB.out⟩
   ·rw [if_neg c7] at H
    have c7b0 : decide (24 < (wrap64 ((l0.length : Int) + (l1.length : Int)))) = false := decide_eq_false c7
    clear c7
    obtain ⟨y387, hy387⟩ : ∃ y_ : List Int, y_ = (([] : List Int)) := ⟨_, rfl⟩
    replace H : (if y387.length + l0.length < 17592186044416 then ((some (y387 ++ l0 : List Int)).bind fun y390 => (if y390.length + l1.length < 17592186044416 then ((spileref33_ranks.f k (y390 ++ l1)).bind fun t396 => (some (t396, 0))) else (none))) else (none)) = some (r1, r2) := by first | (rw [hy387]; with_reducible exact H) | (have H2_ := (Option.bind_some _ _).symm.trans H; rw [hy387]; with_reducible exact H2_) | (have H2_ := (Option.bind_some _ _).symm.trans H; with_reducible exact H2_) | with_reducible exact H | (rw [hy387]; exact H) | exact H
    have Ny387 := Aside0.mk hy387
    clear hy387
    by_cases c8 : y387.length + l0.length < 17592186044416
    ·rw [if_pos c8] at H
     have LMc8 := Aside0.mk c8
     clear c8
     obtain ⟨y390, hy390⟩ : ∃ y_ : List Int, y_ = (y387 ++ l0) := ⟨_, rfl⟩
     replace H : (if y390.length + l1.length < 17592186044416 then ((spileref33_ranks.f k (y390 ++ l1)).bind fun t396 => (some (t396, 0))) else (none)) = some (r1, r2) := by first | (rw [hy390]; with_reducible exact H) | (have H2_ := (Option.bind_some _ _).symm.trans H; rw [hy390]; with_reducible exact H2_) | (have H2_ := (Option.bind_some _ _).symm.trans H; with_reducible exact H2_) | with_reducible exact H | (rw [hy390]; exact H) | exact H
     have Ny390 := Aside0.mk hy390
     clear hy390
     by_cases c9 : y390.length + l1.length < 17592186044416
     ·rw [if_pos c9] at H
      have LMc9 := Aside0.mk c9
      clear c9
      obtain ⟨y393, hy393⟩ : ∃ y_ : List Int, y_ = (y390 ++ l1) := ⟨_, rfl⟩
      replace H : ((spileref33_ranks.f k y393).bind fun t396 => (some (t396, 0))) = some (r1, r2) := by first | (rw [hy393]; with_reducible exact H) | (have H2_ := (Option.bind_some _ _).symm.trans H; rw [hy393]; with_reducible exact H2_) | (have H2_ := (Option.bind_some _ _).symm.trans H; with_reducible exact H2_) | with_reducible exact H | (rw [hy393]; exact H) | exact H
      have Ny393 := Aside0.mk hy393
      clear hy393
      replace H := Option.bind_eq_some_iff.mp H
      obtain ⟨t396, A100, H⟩ := H
      replace H : (some (t396, 0)) = some (r1, r2) := H
      have A10 := Aside0.mk A100
      clear A100
      simp only [Option.some.injEq, Prod.mk.injEq] at H
      obtain ⟨rfl, rfl⟩ := H
      go_enter Try.func64, Try.ntmps64
      go_wp2_with (first | ((with_reducible refine gqC (f := 68) rfl ?_); refine GS.gL (some 9) Try.func68 #[.slice A0 l0.length c0] ?_; (with_reducible refine (spileref33_Check.calls k _ _ l0 t385 _ ?side1 ?side2 A3.out).mono ?_); (case side1 => exact GS.rC HR0.out); (case side2 => exact HC0.out); rintro e w' ⟨rfl, ⟨nd, rfl⟩⟩; refine ⟨_, rfl, ?_⟩) | ((with_reducible refine gqC (f := 68) rfl ?_); refine GS.gL (some 14) Try.func68 #[.slice A1 l1.length c1] ?_; (with_reducible refine (spileref33_Check.calls k _ _ l1 t386 _ ?side1 ?side2 A5.out).mono ?_); (case side1 => exact GS.rC HR1.out); (case side2 => exact HC1.out); rintro e w' ⟨rfl, ⟨nd, rfl⟩⟩; refine ⟨_, rfl, ?_⟩) | ((with_reducible refine gqD (N := 24) rfl ?_); refine Kd.R_lit (Kd.int .i64) _ 3 ?hg (N := 24) ?hd (xs := ([] : List Int)) (inner := []) (ok := fun _ => True) (okp := fun _ => True) ?hr ?hp (fun _ hk => hk) trivial (Below.refl _ _) (Nat.le_refl _) (by simp) ?_; (case hd => rfl); (case hg => rfl); (case hr => first | (go_simp; done) | (go_simp; rfl)); (case hp => exact (Reps.none _ _)); intro v388 w11 ho12 hb hg_ hnew_; clear hg_ hnew_; (first | rw [← Ny387.out] at ho12 | (simp only [Int.reduceToNat] at ho12; rw [← Ny387.out] at ho12)); have n0_ := Aside0.mk (Kd.R_lower ho12 (lqZ (GS.lB HB.out))); have n1_ := Aside0.mk (lqT (GS.lB HB.out) hb); clear HB; have HO389 := n0_; have HB := n1_; clear n0_ n1_; clear hb ho12) | ((with_reducible refine gate_builtin (b := .append) (xs := #[.tmp 24, .tmp 25]) rfl ?_); at_builtin; refine Kd.R_append_rows (Kd.int .i64) (w0 := w) w.heap.size rfl (.tmp 24) (.tmp 25) 31 3 (.int .i64 0) 8 rfl Try.underlying31 info3 rfl (by decide) (by omega) v388 y387 l0 _ _ _ (fun _ => True) (fun _ => False) rfl rfl ?aO ?aR (fun _ _ h => h) (fun _ h => h.elim) ?aF ?aB ?aS ?aL ?_; (case aR => repeat (first | exact (Kd.C_below HR0.out HB.out) | (with_reducible refine Kd.C_alloc ?_ _) | (with_reducible refine Kd.C_drewN ?_ _) | (with_reducible refine Kd.C_drew ?_))); (case aB => exact (GS.lB HB.out)); (case aF => exact (fun _ _ => trivial)); (case aO => exact (GS.rR HO389.out)); (case aS => exact (lqZ (GS.lB HB.out))); (case aL => have := LMc8.out; omega); intro v391 w13 ho hb hg hat; rw [← Ny390.out] at ho; have n0_ := Aside0.mk (hb); have n1_ := Aside0.mk (ho); clear HB; clear HO389; have HB := n0_; have HO392 := n1_; clear n0_ n1_; clear ho hb hg hat) | ((with_reducible refine gate_builtin (b := .append) (xs := #[.tmp 26, .tmp 27]) rfl ?_); at_builtin; refine Kd.R_append_rows (Kd.int .i64) (w0 := w) w.heap.size rfl (.tmp 26) (.tmp 27) 31 3 (.int .i64 0) 8 rfl Try.underlying31 info3 rfl (by decide) (by omega) v391 y390 l1 _ _ _ (fun _ => True) (fun _ => False) rfl rfl ?aO ?aR (fun _ _ h => h) (fun _ h => h.elim) ?aF ?aB ?aS ?aL ?_; (case aR => repeat (first | exact (Kd.C_below HR1.out HB.out) | (with_reducible refine Kd.C_alloc ?_ _) | (with_reducible refine Kd.C_drewN ?_ _) | (with_reducible refine Kd.C_drew ?_))); (case aB => exact (GS.lB HB.out)); (case aF => exact (fun _ _ => trivial)); (case aO => exact (GS.rR HO392.out)); (case aS => exact (lqZ (GS.lB HB.out))); (case aL => have := LMc9.out; omega); intro v394 w14 ho hb hg hat; rw [← Ny393.out] at ho; have n0_ := Aside0.mk (hb); have n1_ := Aside0.mk (ho); clear HB; clear HO392; have HB := n0_; have HO395 := n1_; clear n0_ n1_; clear ho hb hg hat; obtain ⟨Ao15, co15, eo15⟩ := Kd.R_slice HO395.out; subst eo15) | ((with_reducible refine gqC (f := 74) rfl ?_); refine GS.gL (some 29) Try.func74 #[.slice Ao15 y393.length co15] ?_; (with_reducible refine (spileref33_ranks.calls k _ _ y393 t396 _ ?side1 ?side2 A10.out).mono ?_); (case side1 => repeat (first | exact (Kd.R_reads' HO395.out).2.2 | (with_reducible refine Kd.C_alloc ?_ _) | (with_reducible refine Kd.C_drewN ?_ _) | (with_reducible refine Kd.C_drew ?_))); (case side2 => exact (Kd.R_reads' HO395.out).2.1); rintro e w16 ⟨v397, rfl, ho0, hb⟩; refine ⟨_, rfl, ?_⟩; have n0_ := Aside0.mk (Kd.R_elder' (GS.rR HO395.out) (Kd.R_base ho0) hb); have n1_ := Aside0.mk (Kd.R_lower (Kd.R_new' ho0 (Kd.R_lt (GS.rR HO395.out))) (lqZ (GS.lB HB.out))); have n2_ := Aside0.mk (lqT (GS.lB HB.out) hb); clear HO395; clear HB; have HO395 := n0_; have HO398 := n1_; have HB := n2_; clear n0_ n1_ n2_; (try clear hb); (try clear hb2); (try clear hk); (try clear hi); (try clear ho0)))
      go_ret2
      exact ⟨_, by first | rfl | (simp [errW_none, errW_some] <;> rfl) | (simp [*, errW_none, errW_some] <;> rfl), by (with_reducible repeat (first | apply Kd.R_alloc | apply Kd.R_drewN | apply Kd.R_drew)); exact Kd.R_mono HO398.out (fun _ hk => trivial), GS.lB HB.out⟩
     ·rw [if_neg c9] at H
      exact absurd H (by simp)
    ·rw [if_neg c8] at H
     exact absurd H (by simp)
  ·rw [if_neg c6] at H
   have c6b0 : (t386 == 0) = false := beq_eq_false_iff_ne.mpr c6
   try simp only [beq_self_eq_true, Bool.not_true, Bool.false_or, Bool.true_and] at c6b0
   have c6b1 : (t386 != 0) = true := bne_iff_ne.mpr c6
   simp only [Option.some.injEq, Prod.mk.injEq] at H
   obtain ⟨rfl, rfl⟩ := H
   go_enter Try.func64, Try.ntmps64
   go_wp2_with (first | ((with_reducible refine gqC (f := 68) rfl ?_); refine GS.gL (some 9) Try.func68 #[.slice A0 l0.length c0] ?_; (with_reducible refine (spileref33_Check.calls k _ _ l0 t385 _ ?side1 ?side2 A3.out).mono ?_); (case side1 => exact GS.rC HR0.out); (case side2 => exact HC0.out); rintro e w' ⟨rfl, ⟨nd, rfl⟩⟩; refine ⟨_, rfl, ?_⟩) | ((with_reducible refine gqC (f := 68) rfl ?_); refine GS.gL (some 14) Try.func68 #[.slice A1 l1.length c1] ?_; (with_reducible refine (spileref33_Check.calls k _ _ l1 t386 _ ?side1 ?side2 A5.out).mono ?_); (case side1 => exact GS.rC HR1.out); (case side2 => exact HC1.out); rintro e w' ⟨rfl, ⟨nd, rfl⟩⟩; refine ⟨_, rfl, ?_⟩))
   go_ret2
   exact ⟨_, by first | rfl | (simp [errW_none, errW_some] <;> rfl) | (simp [*, errW_none, errW_some] <;> rfl), by first | exact Kd.R_nil _ _ _ _ _ | exact Kd.N_nil _ _ _ _ _ | exact Kd.V_nil _ _ _ _ _ | exact Kd.Q_nil _ _ _ _ _ | exact Kd.S_nil _ _ _ _ _, GS.lB HB.out⟩
 ·rw [if_neg c4] at H
  have c4b0 : (t385 == 0) = false := beq_eq_false_iff_ne.mpr c4
  try simp only [beq_self_eq_true, Bool.not_true, Bool.false_or, Bool.true_and] at c4b0
  have c4b1 : (t385 != 0) = true := bne_iff_ne.mpr c4
  simp only [Option.some.injEq, Prod.mk.injEq] at H
  obtain ⟨rfl, rfl⟩ := H
  go_enter Try.func64, Try.ntmps64
  go_wp2_with (first | ((with_reducible refine gqC (f := 68) rfl ?_); refine GS.gL (some 9) Try.func68 #[.slice A0 l0.length c0] ?_; (with_reducible refine (spileref33_Check.calls k _ _ l0 t385 _ ?side1 ?side2 A3.out).mono ?_); (case side1 => exact GS.rC HR0.out); (case side2 => exact HC0.out); rintro e w' ⟨rfl, ⟨nd, rfl⟩⟩; refine ⟨_, rfl, ?_⟩))
  go_ret2
  exact ⟨_, by first | rfl | (simp [errW_none, errW_some] <;> rfl) | (simp [*, errW_none, errW_some] <;> rfl), by first | exact Kd.R_nil _ _ _ _ _ | exact Kd.N_nil _ _ _ _ _ | exact Kd.V_nil _ _ _ _ _ | exact Kd.Q_nil _ _ _ _ _ | exact Kd.S_nil _ _ _ _ _, GS.lB HB.out⟩

end Go.Proofs.Ytfhmjleimampeaa.K
