-- PRINTED by print.py (a twelfth state) out of the translation. Not trusted: Lean checks it.
import Derived.Test.YthboaobgipodiaaK0
import Derived.Test.YthboaobgipodiaaGPu
import Derived.Test.YthboaobgipodiaaGShort
import Derived.Test.YthboaobgipodiaaK20
namespace Go.Proofs.Ythboaobgipodiaa.K
open Go.RowKit Go.Proofs.YthboaobgipodiaaW.PrintWords Go.Proofs.YthboaobgipodiaaW.PrintLast Go.Proofs.YthboaobgipodiaaW.PrintMore
attribute [local go_sem] max2_int min2_int max_two min_two max_three min_three max_four min_four   -- for this text's walks alone
set_option linter.unusedVariables false
set_option linter.unusedSimpArgs false

/-! ### spileref46_Amount: function 49 -/
def spileref46_Amount.j0 : Nat → Int → Bool → Option (Int)
 | 0, _, _ => none
 | k + 1, x9, x11 => if x11 = true then (some (wrap64 (x9 + 1))) else (some x9)
def spileref46_Amount.f (k : Nat) (a0 : Int) (a1 : Int) (a2 : Int) : Option (Int) := if a0 = 2 then (spileref46_Amount.j0 k (wrap64 ((wrap64 (a1 * (wrap64 (Int.tdiv a2 10000000)))) + (wrap64 (Int.tdiv (wrap64 (a1 * (Int.tmod a2 10000000))) 10000000)))) (decide ((Int.tmod (wrap64 (a1 * (Int.tmod a2 10000000))) 10000000) > 0))) else (if a0 = 3 then (spileref46_Amount.j0 k (wrap64 ((wrap64 (a1 * (wrap64 (Int.tdiv a2 10000000)))) + (wrap64 (Int.tdiv (wrap64 (a1 * (Int.tmod a2 10000000))) 10000000)))) (decide ((wrap64 (2 * (Int.tmod (wrap64 (a1 * (Int.tmod a2 10000000))) 10000000))) ≥ 10000000))) else (if a0 = 4 then (if (wrap64 (2 * (Int.tmod (wrap64 (a1 * (Int.tmod a2 10000000))) 10000000))) > 10000000 then (spileref46_Amount.j0 k (wrap64 ((wrap64 (a1 * (wrap64 (Int.tdiv a2 10000000)))) + (wrap64 (Int.tdiv (wrap64 (a1 * (Int.tmod a2 10000000))) 10000000)))) true) else (if (wrap64 (2 * (Int.tmod (wrap64 (a1 * (Int.tmod a2 10000000))) 10000000))) = 10000000 then (spileref46_Amount.j0 k (wrap64 ((wrap64 (a1 * (wrap64 (Int.tdiv a2 10000000)))) + (wrap64 (Int.tdiv (wrap64 (a1 * (Int.tmod a2 10000000))) 10000000)))) ((Int.tmod (wrap64 ((wrap64 (a1 * (wrap64 (Int.tdiv a2 10000000)))) + (wrap64 (Int.tdiv (wrap64 (a1 * (Int.tmod a2 10000000))) 10000000)))) 2) == 1)) else (spileref46_Amount.j0 k (wrap64 ((wrap64 (a1 * (wrap64 (Int.tdiv a2 10000000)))) + (wrap64 (Int.tdiv (wrap64 (a1 * (Int.tmod a2 10000000))) 10000000)))) false))) else (spileref46_Amount.j0 k (wrap64 ((wrap64 (a1 * (wrap64 (Int.tdiv a2 10000000)))) + (wrap64 (Int.tdiv (wrap64 (a1 * (Int.tmod a2 10000000))) 10000000)))) false)))
theorem spileref46_Amount.mono_l : ∀ k, (∀ y0 y1, LeO (spileref46_Amount.j0 k y0 y1) (spileref46_Amount.j0 (k + 1) y0 y1))
 | 0 => fun _ _ r h => by simp [spileref46_Amount.j0] at h
 | k + 1 => by
  have ih0 := spileref46_Amount.mono_l k
  ·intro y0 y1
   unfold spileref46_Amount.j0
   repeat' first
   | (with_reducible exact ih0 _ _)
   | (with_reducible exact LeO.refl _)
   | (with_reducible exact LeO.none _)
   | (with_reducible refine LeO.ite ?_ ?_)
   | (with_reducible refine LeO.bind ?_ (fun _ => ?_))
   | exact ih0 _ _
   | exact LeO.none _
   | refine LeO.ite ?_ ?_
   | refine LeO.bind ?_ (fun _ => ?_)
theorem spileref46_Amount.mono : ∀ a0 a1 a2 k, LeO (spileref46_Amount.f k a0 a1 a2) (spileref46_Amount.f (k + 1) a0 a1 a2) := by
 intro a0 a1 a2 k
 have ih0 := spileref46_Amount.mono_l k
 unfold spileref46_Amount.f
 repeat' first
   | (with_reducible exact ih0 _ _)
   | (with_reducible exact LeO.refl _)
   | (with_reducible exact LeO.none _)
   | (with_reducible refine LeO.ite ?_ ?_)
   | (with_reducible refine LeO.bind ?_ (fun _ => ?_))
   | exact ih0 _ _
   | exact LeO.none _
   | refine LeO.ite ?_ ?_
   | refine LeO.bind ?_ (fun _ => ?_)
set_option maxHeartbeats 8000000 in
set_option maxRecDepth 100000 in
theorem spileref46_Amount.calls (k : Nat) (a0 : Int) (a1 : Int) (a2 : Int) (r : Int) (w : World) (h : spileref46_Amount.f k a0 a1 a2 = some r) :
  Calls Try.prog 49 #[.int .i64 a0, .int .i64 a1, .int .i64 a2] w fun e w' => e = .returned (.int .i64 r) ∧ Drawn0 w w' := by
 have H : (if a0 = 2 then (spileref46_Amount.j0 k (wrap64 ((wrap64 (a1 * (wrap64 (Int.tdiv a2 10000000)))) + (wrap64 (Int.tdiv (wrap64 (a1 * (Int.tmod a2 10000000))) 10000000)))) (decide ((Int.tmod (wrap64 (a1 * (Int.tmod a2 10000000))) 10000000) > 0))) else (if a0 = 3 then (spileref46_Amount.j0 k (wrap64 ((wrap64 (a1 * (wrap64 (Int.tdiv a2 10000000)))) + (wrap64 (Int.tdiv (wrap64 (a1 * (Int.tmod a2 10000000))) 10000000)))) (decide ((wrap64 (2 * (Int.tmod (wrap64 (a1 * (Int.tmod a2 10000000))) 10000000))) ≥ 10000000))) else (if a0 = 4 then (if (wrap64 (2 * (Int.tmod (wrap64 (a1 * (Int.tmod a2 10000000))) 10000000))) > 10000000 then (spileref46_Amount.j0 k (wrap64 ((wrap64 (a1 * (wrap64 (Int.tdiv a2 10000000)))) + (wrap64 (Int.tdiv (wrap64 (a1 * (Int.tmod a2 10000000))) 10000000)))) true) else (if (wrap64 (2 * (Int.tmod (wrap64 (a1 * (Int.tmod a2 10000000))) 10000000))) = 10000000 then (spileref46_Amount.j0 k (wrap64 ((wrap64 (a1 * (wrap64 (Int.tdiv a2 10000000)))) + (wrap64 (Int.tdiv (wrap64 (a1 * (Int.tmod a2 10000000))) 10000000)))) ((Int.tmod (wrap64 ((wrap64 (a1 * (wrap64 (Int.tdiv a2 10000000)))) + (wrap64 (Int.tdiv (wrap64 (a1 * (Int.tmod a2 10000000))) 10000000)))) 2) == 1)) else (spileref46_Amount.j0 k (wrap64 ((wrap64 (a1 * (wrap64 (Int.tdiv a2 10000000)))) + (wrap64 (Int.tdiv (wrap64 (a1 * (Int.tmod a2 10000000))) 10000000)))) false))) else (spileref46_Amount.j0 k (wrap64 ((wrap64 (a1 * (wrap64 (Int.tdiv a2 10000000)))) + (wrap64 (Int.tdiv (wrap64 (a1 * (Int.tmod a2 10000000))) 10000000)))) false)))) = some r := h
 clear h
 have HC4 := Aside0.mk H
 clear H
 go_enter Try.func49, Try.ntmps49
 go_upto_block 0 with (fail)
 go_cut [11] (fun v11 wc => ∃ (kq : Nat) (x11_3 : Bool), v11 = .bool x11_3 ∧ Aside0 (spileref46_Amount.j0 kq (wrap64 ((wrap64 (a1 * (wrap64 (Int.tdiv a2 10000000)))) + (wrap64 (Int.tdiv (wrap64 (a1 * (Int.tmod a2 10000000))) 10000000)))) x11_3 = some r) ∧ Aside0 (kq ≤ k) ∧ Drawn0 w wc)
 case first =>
  have H := HC4.out
  clear HC4
  by_cases c5 : a0 = 2
  ·rw [if_pos c5] at H
   have c5b0 : (a0 == 2) = true := beq_iff_eq.mpr c5
   try simp only [beq_self_eq_true, Bool.not_true, Bool.false_or, Bool.true_and] at c5b0
   have c5b1 : (a0 != 2) = false := bne_eq_false_iff_eq.mpr c5
   clear c5
   (first | rw [c5b0] | (simp only [i64_w, i32_w]; rw [c5b0]) | skip)
   have H' := Aside0.mk H
   clear H
   go_wp2
   go_meet
   case rel => exact ⟨_, (decide ((Int.tmod (wrap64 (a1 * (Int.tmod a2 10000000))) 10000000) > 0)), (by first | rfl | (simp; done) | (simp [*]; done)), H', ⟨by first | omega | exact Nat.le_refl _⟩, by repeat (first | exact Drawn0.refl _ | apply Drawn0.step)⟩
  ·rw [if_neg c5] at H
   have c5b0 : (a0 == 2) = false := beq_eq_false_iff_ne.mpr c5
   try simp only [beq_self_eq_true, Bool.not_true, Bool.false_or, Bool.true_and] at c5b0
   have c5b1 : (a0 != 2) = true := bne_iff_ne.mpr c5
   (first | rw [c5b0] | (simp only [i64_w, i32_w]; rw [c5b0]) | skip)
   by_cases c6 : a0 = 3
   ·rw [if_pos c6] at H
    have c6b0 : (a0 == 3) = true := beq_iff_eq.mpr c6
    try simp only [beq_self_eq_true, Bool.not_true, Bool.false_or, Bool.true_and] at c6b0
    have c6b1 : (a0 != 3) = false := bne_eq_false_iff_eq.mpr c6
    clear c6
    have H' := Aside0.mk H
    clear H
    go_wp2
    go_meet
    case rel => exact ⟨_, (decide ((wrap64 (2 * (Int.tmod (wrap64 (a1 * (Int.tmod a2 10000000))) 10000000))) ≥ 10000000)), (by first | rfl | (simp; done) | (simp [*]; done)), H', ⟨by first | omega | exact Nat.le_refl _⟩, by repeat (first | exact Drawn0.refl _ | apply Drawn0.step)⟩
   ·rw [if_neg c6] at H
    have c6b0 : (a0 == 3) = false := beq_eq_false_iff_ne.mpr c6
    try simp only [beq_self_eq_true, Bool.not_true, Bool.false_or, Bool.true_and] at c6b0
    have c6b1 : (a0 != 3) = true := bne_iff_ne.mpr c6
    by_cases c7 : a0 = 4
    ·rw [if_pos c7] at H
     have c7b0 : (a0 == 4) = true := beq_iff_eq.mpr c7
     try simp only [beq_self_eq_true, Bool.not_true, Bool.false_or, Bool.true_and] at c7b0
     have c7b1 : (a0 != 4) = false := bne_eq_false_iff_eq.mpr c7
     clear c7
     by_cases c8 : (wrap64 (2 * (Int.tmod (wrap64 (a1 * (Int.tmod a2 10000000))) 10000000))) > 10000000
     ·rw [if_pos c8] at H
      have c8b0 : decide (10000000 < (wrap64 (2 * (Int.tmod (wrap64 (a1 * (Int.tmod a2 10000000))) 10000000)))) = true := decide_eq_true c8
      clear c8
      have H' := Aside0.mk H
      clear H
      go_wp2
      go_meet
      case rel => exact ⟨_, (true), (by first | rfl | (simp; done) | (simp [*]; done)), H', ⟨by first | omega | exact Nat.le_refl _⟩, by repeat (first | exact Drawn0.refl _ | apply Drawn0.step)⟩
     ·rw [if_neg c8] at H
      have c8b0 : decide (10000000 < (wrap64 (2 * (Int.tmod (wrap64 (a1 * (Int.tmod a2 10000000))) 10000000)))) = false := decide_eq_false c8
      clear c8
      by_cases c9 : (wrap64 (2 * (Int.tmod (wrap64 (a1 * (Int.tmod a2 10000000))) 10000000))) = 10000000
      ·rw [if_pos c9] at H
       have c9b0 : ((wrap64 (2 * (Int.tmod (wrap64 (a1 * (Int.tmod a2 10000000))) 10000000))) == 10000000) = true := beq_iff_eq.mpr c9
       try simp only [beq_self_eq_true, Bool.not_true, Bool.false_or, Bool.true_and] at c9b0
       have c9b1 : ((wrap64 (2 * (Int.tmod (wrap64 (a1 * (Int.tmod a2 10000000))) 10000000))) != 10000000) = false := bne_eq_false_iff_eq.mpr c9
       clear c9
       have H' := Aside0.mk H
       clear H
       go_wp2
       go_meet
       case rel => exact ⟨_, (((Int.tmod (wrap64 ((wrap64 (a1 * (wrap64 (Int.tdiv a2 10000000)))) + (wrap64 (Int.tdiv (wrap64 (a1 * (Int.tmod a2 10000000))) 10000000)))) 2) == 1)), (by first | rfl | (simp; done) | (simp [*]; done)), H', ⟨by first | omega | exact Nat.le_refl _⟩, by repeat (first | exact Drawn0.refl _ | apply Drawn0.step)⟩
      ·rw [if_neg c9] at H
       have c9b0 : ((wrap64 (2 * (Int.tmod (wrap64 (a1 * (Int.tmod a2 10000000))) 10000000))) == 10000000) = false := beq_eq_false_iff_ne.mpr c9
       try simp only [beq_self_eq_true, Bool.not_true, Bool.false_or, Bool.true_and] at c9b0
       have c9b1 : ((wrap64 (2 * (Int.tmod (wrap64 (a1 * (Int.tmod a2 10000000))) 10000000))) != 10000000) = true := bne_iff_ne.mpr c9
       have H' := Aside0.mk H
       clear H
       go_wp2
       go_meet
       case rel => exact ⟨_, (false), (by first | rfl | (simp; done) | (simp [*]; done)), H', ⟨by first | omega | exact Nat.le_refl _⟩, by repeat (first | exact Drawn0.refl _ | apply Drawn0.step)⟩
    ·rw [if_neg c7] at H
     have c7b0 : (a0 == 4) = false := beq_eq_false_iff_ne.mpr c7
     try simp only [beq_self_eq_true, Bool.not_true, Bool.false_or, Bool.true_and] at c7b0
     have c7b1 : (a0 != 4) = true := bne_iff_ne.mpr c7
     have H' := Aside0.mk H
     clear H
     go_wp2
     go_meet
     case rel => exact ⟨_, (false), (by first | rfl | (simp; done) | (simp [*]; done)), H', ⟨by first | omega | exact Nat.le_refl _⟩, by repeat (first | exact Drawn0.refl _ | apply Drawn0.step)⟩
 case rest =>
  clear HC4
  try clear p2
  try clear c4
  try clear c5
  try clear c5b0
  try clear c5b1
  try clear c6
  try clear c6b0
  try clear c6b1
  try clear p6
  try clear c7
  try clear c7b0
  try clear c7b1
  try clear c8
  try clear c8b0
  try clear c9
  try clear c9b0
  try clear c9b1
  obtain ⟨kq, x11_3, rfl, HA, HJ3, ⟨mc3, rfl⟩⟩ := hcut
  cases kq with
  | zero => exact absurd HA.out (by simp [spileref46_Amount.j0])
  | succ kj3 =>
   have H := HA.out
   clear HA
   simp only [spileref46_Amount.j0] at H
   by_cases c10 : x11_3 = true
   ·subst c10
    have H1 : (some (wrap64 ((wrap64 ((wrap64 (a1 * (wrap64 (Int.tdiv a2 10000000)))) + (wrap64 (Int.tdiv (wrap64 (a1 * (Int.tmod a2 10000000))) 10000000)))) + 1))) = some r := by rw [if_pos rfl] at H; exact H
    clear H
    have H := H1
    clear H1
    obtain rfl := Option.some.inj H
    go_wp2
    go_ret
    exact ⟨by first | rfl | (simp; done) | (simp [*]; done), by repeat (first | exact Drawn0.refl _ | apply Drawn0.step)⟩
   ·replace c10 := Bool.eq_false_iff.mpr c10
    subst c10
    have H1 : (some (wrap64 ((wrap64 (a1 * (wrap64 (Int.tdiv a2 10000000)))) + (wrap64 (Int.tdiv (wrap64 (a1 * (Int.tmod a2 10000000))) 10000000))))) = some r := by rw [if_neg (show ¬ (false = true) by decide)] at H; exact H
    clear H
    have H := H1
    clear H1
    obtain rfl := Option.some.inj H
    go_wp2
    go_ret
    exact ⟨by first | rfl | (simp; done) | (simp [*]; done), by repeat (first | exact Drawn0.refl _ | apply Drawn0.step)⟩

/-! ### spileref51_most: function 34 -/
def spileref51_most.f (k : Nat) (a0_0 : Int) (l0_1 : List (S60)) (a1_0 : Int) (a1_1 : Int) (a1_2 : Int) (a1_3 : Int) (a1_4 : Int) (a2 : Int) : Option (Int × Int) := if a2 < a1_3 then (some (0, a1_3)) else ((spileref46_Most.f k a0_0 l0_1 a1_2 a1_3 a2).bind fun bt498 => (if bt498.2.2.2 = true then ((spileref46_Amount.f k a0_0 bt498.2.2.1 a1_4).bind fun t503 => (some (t503, mx bt498.2.1 a1_3))) else (some (0, a1_3))))
theorem spileref51_most.mono : ∀ a0 a1 a2 a3 a4 a5 a6 a7 k, LeO (spileref51_most.f k a0 a1 a2 a3 a4 a5 a6 a7) (spileref51_most.f (k + 1) a0 a1 a2 a3 a4 a5 a6 a7) := by
 intro a0 a1 a2 a3 a4 a5 a6 a7 k
 unfold spileref51_most.f
 repeat' first
   | (with_reducible exact spileref46_Amount.mono _ _ _ _)
   | (with_reducible exact spileref46_Most.mono _ _ _ _ _ _)
   | (with_reducible exact LeO.refl _)
   | (with_reducible exact LeO.none _)
   | (with_reducible refine LeO.ite ?_ ?_)
   | (with_reducible refine LeO.bind ?_ (fun _ => ?_))
   | exact spileref46_Amount.mono _ _ _ _
   | exact spileref46_Most.mono _ _ _ _ _ _
   | exact LeO.none _
   | refine LeO.ite ?_ ?_
   | refine LeO.bind ?_ (fun _ => ?_)
set_option maxHeartbeats 8000000 in
set_option maxRecDepth 100000 in
theorem spileref51_most.calls (k : Nat) (a0_0 : Int) (A0_1 : Option Addr) (c0_1 : Nat) (l0_1 : List (S60)) (a1_0 : Int) (a1_1 : Int) (a1_2 : Int) (a1_3 : Int) (a1_4 : Int) (a2 : Int) (r1 : Int) (r2 : Int) (w : World) (hr0_1 : Kd.C k60 w A0_1 l0_1.length l0_1) (hc0_1 : l0_1.length ≤ c0_1) (h : spileref51_most.f k a0_0 l0_1 a1_0 a1_1 a1_2 a1_3 a1_4 a2 = some (r1, r2)) :
  Calls Try.prog 34 #[.agg #[.int .i64 a0_0, .slice A0_1 l0_1.length c0_1], .agg #[.int .i64 a1_0, .int .i64 a1_1, .int .i64 a1_2, .int .i64 a1_3, .int .i64 a1_4], .int .i64 a2] w fun e w' => e = .returned (.tuple #[.int .i64 r1, .int .i64 r2]) ∧ Below w.heap.size w w' := by
 have hu24 := Try.underlying24
 have hu35 := Try.underlying35
 have hu60 := Try.underlying60
 have HR0_1 := Aside0.mk hr0_1
 have HC0_1 := Aside0.mk hc0_1
 clear hr0_1 hc0_1
 have HB := Aside0.mk (Below.refl w.heap.size w)
 have H : (if a2 < a1_3 then (some (0, a1_3)) else ((spileref46_Most.f k a0_0 l0_1 a1_2 a1_3 a2).bind fun bt498 => (if bt498.2.2.2 = true then ((spileref46_Amount.f k a0_0 bt498.2.2.1 a1_4).bind fun t503 => (some (t503, mx bt498.2.1 a1_3))) else (some (0, a1_3))))) = some (r1, r2) := h
 clear h
 by_cases c4 : a2 < a1_3
 ·rw [if_pos c4] at H
  have c4b0 : decide (a2 < a1_3) = true := decide_eq_true c4
  clear c4
  simp only [Option.some.injEq, Prod.mk.injEq] at H
  obtain ⟨rfl, rfl⟩ := H
  go_enter Try.func34, Try.ntmps34
  go_wp2_with (first | ((with_reducible refine gqD (N := 3) rfl ?_); refine GS.bx (N := 3) (cs := #[.int .i64 a0_0, .slice A0_1 l0_1.length c0_1]) (t := 24) ?_; intro gb496 hg w5 hbox hb; have n0_ := Aside0.mk (lqT (GS.lB HB.out) hb); have n1_ := Aside0.mk (hbox); have n2_ := Aside0.mk ((by rw [hg]; exact (lqZ (GS.lB HB.out)) : w.heap.size ≤ gb496)); have n3_ := Aside0.mk ((by rw [hg]; exact (lqZ (GS.lB HB.out)) : w.heap.size ≤ gb496)); clear HB; have HB := n0_; have BK496 := n1_; have GW496 := n2_; have GE496 := n3_; clear n0_ n1_ n2_ n3_; clear hb hbox hg) | ((with_reducible refine gqD (N := 4) rfl ?_); refine GS.bx (N := 4) (cs := #[.int .i64 a1_0, .int .i64 a1_1, .int .i64 a1_2, .int .i64 a1_3, .int .i64 a1_4]) (t := 35) ?_; intro gb497 hg w6 hbox hb; have n0_ := Aside0.mk (bqB (GS.bqX BK496.out) hb); have n1_ := Aside0.mk (lqT (GS.lB HB.out) hb); have n2_ := Aside0.mk (hbox); have n3_ := Aside0.mk ((by rw [hg]; exact (lqZ (GS.lB HB.out)) : w.heap.size ≤ gb497)); have n4_ := Aside0.mk ((by rw [hg]; exact (lqZ (GS.lB HB.out)) : w.heap.size ≤ gb497)); have n5_ := Aside0.mk ((by rw [hg]; exact Nat.ne_of_lt (blk_lt (GS.bqX BK496.out)) : gb496 ≠ gb497)); have n6_ := Aside0.mk ((by rw [hg]; exact Nat.ne_of_gt (blk_lt (GS.bqX BK496.out)) : gb497 ≠ gb496)); clear BK496; clear HB; have BK496 := n0_; have HB := n1_; have BK497 := n2_; have GW497 := n3_; have GE497 := n4_; have NB496_497 := n5_; have NB497_496 := n6_; clear n0_ n1_ n2_ n3_ n4_ n5_ n6_; clear hb hbox hg; have hnb7 := NB497_496.out; have hnc7 := NB496_497.out; obtain ⟨hcz8_0, hcz8_1, hcz8_2, hcz8_3, hcz8_4, hfz8_0, hfz8_1, hfz8_2, hfz8_3, hfz8_4⟩ := GS.c5 BK497.out))
  repeat (go_quiet (first | ((with_reducible refine gqD (N := 3) rfl ?_); refine GS.bx (N := 3) (cs := #[.int .i64 a0_0, .slice A0_1 l0_1.length c0_1]) (t := 24) ?_; intro gb496 hg w5 hbox hb; have n0_ := Aside0.mk (lqT (GS.lB HB.out) hb); have n1_ := Aside0.mk (hbox); have n2_ := Aside0.mk ((by rw [hg]; exact (lqZ (GS.lB HB.out)) : w.heap.size ≤ gb496)); have n3_ := Aside0.mk ((by rw [hg]; exact (lqZ (GS.lB HB.out)) : w.heap.size ≤ gb496)); clear HB; have HB := n0_; have BK496 := n1_; have GW496 := n2_; have GE496 := n3_; clear n0_ n1_ n2_ n3_; clear hb hbox hg) | ((with_reducible refine gqD (N := 4) rfl ?_); refine GS.bx (N := 4) (cs := #[.int .i64 a1_0, .int .i64 a1_1, .int .i64 a1_2, .int .i64 a1_3, .int .i64 a1_4]) (t := 35) ?_; intro gb497 hg w6 hbox hb; have n0_ := Aside0.mk (bqB (GS.bqX BK496.out) hb); have n1_ := Aside0.mk (lqT (GS.lB HB.out) hb); have n2_ := Aside0.mk (hbox); have n3_ := Aside0.mk ((by rw [hg]; exact (lqZ (GS.lB HB.out)) : w.heap.size ≤ gb497)); have n4_ := Aside0.mk ((by rw [hg]; exact (lqZ (GS.lB HB.out)) : w.heap.size ≤ gb497)); have n5_ := Aside0.mk ((by rw [hg]; exact Nat.ne_of_lt (blk_lt (GS.bqX BK496.out)) : gb496 ≠ gb497)); have n6_ := Aside0.mk ((by rw [hg]; exact Nat.ne_of_gt (blk_lt (GS.bqX BK496.out)) : gb497 ≠ gb496)); clear BK496; clear HB; have BK496 := n0_; have HB := n1_; have BK497 := n2_; have GW497 := n3_; have GE497 := n4_; have NB496_497 := n5_; have NB497_496 := n6_; clear n0_ n1_ n2_ n3_ n4_ n5_ n6_; clear hb hbox hg; have hnb7 := NB497_496.out; have hnc7 := NB496_497.out; obtain ⟨hcz8_0, hcz8_1, hcz8_2, hcz8_3, hcz8_4, hfz8_0, hfz8_1, hfz8_2, hfz8_3, hfz8_4⟩ := GS.c5 BK497.out)); try go_wp2_with (first | ((with_reducible refine gqD (N := 3) rfl ?_); refine GS.bx (N := 3) (cs := #[.int .i64 a0_0, .slice A0_1 l0_1.length c0_1]) (t := 24) ?_; intro gb496 hg w5 hbox hb; have n0_ := Aside0.mk (lqT (GS.lB HB.out) hb); have n1_ := Aside0.mk (hbox); have n2_ := Aside0.mk ((by rw [hg]; exact (lqZ (GS.lB HB.out)) : w.heap.size ≤ gb496)); have n3_ := Aside0.mk ((by rw [hg]; exact (lqZ (GS.lB HB.out)) : w.heap.size ≤ gb496)); clear HB; have HB := n0_; have BK496 := n1_; have GW496 := n2_; have GE496 := n3_; clear n0_ n1_ n2_ n3_; clear hb hbox hg) | ((with_reducible refine gqD (N := 4) rfl ?_); refine GS.bx (N := 4) (cs := #[.int .i64 a1_0, .int .i64 a1_1, .int .i64 a1_2, .int .i64 a1_3, .int .i64 a1_4]) (t := 35) ?_; intro gb497 hg w6 hbox hb; have n0_ := Aside0.mk (bqB (GS.bqX BK496.out) hb); have n1_ := Aside0.mk (lqT (GS.lB HB.out) hb); have n2_ := Aside0.mk (hbox); have n3_ := Aside0.mk ((by rw [hg]; exact (lqZ (GS.lB HB.out)) : w.heap.size ≤ gb497)); have n4_ := Aside0.mk ((by rw [hg]; exact (lqZ (GS.lB HB.out)) : w.heap.size ≤ gb497)); have n5_ := Aside0.mk ((by rw [hg]; exact Nat.ne_of_lt (blk_lt (GS.bqX BK496.out)) : gb496 ≠ gb497)); have n6_ := Aside0.mk ((by rw [hg]; exact Nat.ne_of_gt (blk_lt (GS.bqX BK496.out)) : gb497 ≠ gb496)); clear BK496; clear HB; have BK496 := n0_; have HB := n1_; have BK497 := n2_; have GW497 := n3_; have GE497 := n4_; have NB496_497 := n5_; have NB497_496 := n6_; clear n0_ n1_ n2_ n3_ n4_ n5_ n6_; clear hb hbox hg; have hnb7 := NB497_496.out; have hnc7 := NB496_497.out; obtain ⟨hcz8_0, hcz8_1, hcz8_2, hcz8_3, hcz8_4, hfz8_0, hfz8_1, hfz8_2, hfz8_3, hfz8_4⟩ := GS.c5 BK497.out)))
  go_ret2
  exact ⟨by first | rfl | (simp [errW_none, errW_some] <;> rfl) | (simp [*, errW_none, errW_some] <;> rfl), GS.lB HB.out⟩
 ·rw [if_neg c4] at H
  have c4b0 : decide (a2 < a1_3) = false := decide_eq_false c4
  clear c4
  replace H := Option.bind_eq_some_iff.mp H
  obtain ⟨⟨t498, t499, t500, t501⟩, A90, H⟩ := H
  replace H : (if t501 = true then ((spileref46_Amount.f k a0_0 t500 a1_4).bind fun t503 => (some (t503, mx t499 a1_3))) else (some (0, a1_3))) = some (r1, r2) := H
  have A9 := Aside0.mk A90
  clear A90
  by_cases c10 : t501 = true
  ·subst c10
   have H1 : ((spileref46_Amount.f k a0_0 t500 a1_4).bind fun t503 => (some (t503, mx t499 a1_3))) = some (r1, r2) := by rw [if_pos rfl] at H; exact H
   clear H
   have H := H1
   clear H1
   replace H := Option.bind_eq_some_iff.mp H
   obtain ⟨t503, A110, H⟩ := H
   replace H : (some (t503, mx t499 a1_3)) = some (r1, r2) := H
   have A11 := Aside0.mk A110
   clear A110
   obtain ⟨ji12, hji12⟩ : ∃ j_ : Int, (mx t499 a1_3) = j_ := ⟨_, rfl⟩
   replace H : (some (t503, ji12)) = some (r1, r2) := by first | (rw [hji12] at H; exact H) | (simp only [hji12] at H ⊢; exact H)
   (try rw [hji12] at A9)
   (try rw [hji12] at A11)
   have hji12_ : (if t499 < a1_3 then a1_3 else t499) = ji12 := hji12
   simp only [Option.some.injEq, Prod.mk.injEq] at H
   obtain ⟨rfl, rfl⟩ := H
   go_enter Try.func34, Try.ntmps34
   go_wp2_with (first | ((with_reducible refine gqD (N := 3) rfl ?_); refine GS.bx (N := 3) (cs := #[.int .i64 a0_0, .slice A0_1 l0_1.length c0_1]) (t := 24) ?_; intro gb496 hg w13 hbox hb; have n0_ := Aside0.mk (lqT (GS.lB HB.out) hb); have n1_ := Aside0.mk (hbox); have n2_ := Aside0.mk ((by rw [hg]; exact (lqZ (GS.lB HB.out)) : w.heap.size ≤ gb496)); have n3_ := Aside0.mk ((by rw [hg]; exact (lqZ (GS.lB HB.out)) : w.heap.size ≤ gb496)); clear HB; have HB := n0_; have BK496 := n1_; have GW496 := n2_; have GE496 := n3_; clear n0_ n1_ n2_ n3_; clear hb hbox hg) | ((with_reducible refine gqD (N := 4) rfl ?_); refine GS.bx (N := 4) (cs := #[.int .i64 a1_0, .int .i64 a1_1, .int .i64 a1_2, .int .i64 a1_3, .int .i64 a1_4]) (t := 35) ?_; intro gb497 hg w14 hbox hb; have n0_ := Aside0.mk (bqB (GS.bqX BK496.out) hb); have n1_ := Aside0.mk (lqT (GS.lB HB.out) hb); have n2_ := Aside0.mk (hbox); have n3_ := Aside0.mk ((by rw [hg]; exact (lqZ (GS.lB HB.out)) : w.heap.size ≤ gb497)); have n4_ := Aside0.mk ((by rw [hg]; exact (lqZ (GS.lB HB.out)) : w.heap.size ≤ gb497)); have n5_ := Aside0.mk ((by rw [hg]; exact Nat.ne_of_lt (blk_lt (GS.bqX BK496.out)) : gb496 ≠ gb497)); have n6_ := Aside0.mk ((by rw [hg]; exact Nat.ne_of_gt (blk_lt (GS.bqX BK496.out)) : gb497 ≠ gb496)); clear BK496; clear HB; have BK496 := n0_; have HB := n1_; have BK497 := n2_; have GW497 := n3_; have GE497 := n4_; have NB496_497 := n5_; have NB497_496 := n6_; clear n0_ n1_ n2_ n3_ n4_ n5_ n6_; clear hb hbox hg; have hnb15 := NB497_496.out; have hnc15 := NB496_497.out; obtain ⟨hcz16_0, hcz16_1, hcz16_2, hcz16_3, hcz16_4, hfz16_0, hfz16_1, hfz16_2, hfz16_3, hfz16_4⟩ := GS.c5 BK497.out; obtain ⟨hcz17_0, hcz17_1, hfz17_0, hfz17_1⟩ := GS.c2 BK496.out) | (go_at_call 48; (with_reducible refine (spileref46_Most.calls k a0_0 _ _ l0_1 a1_2 a1_3 a2 t498 t499 t500 true _ ?side1 ?side2 A9.out).mono ?_); (case side1 => exact GS.rC (Kd.C_below HR0_1.out HB.out)); (case side2 => exact HC0_1.out); rintro e w18 ⟨rfl, hb⟩; have n0_ := Aside0.mk (bqB (GS.bqX BK496.out) hb); have n1_ := Aside0.mk (bqB (GS.bqX BK497.out) hb); have n2_ := Aside0.mk (lqT (GS.lB HB.out) hb); clear BK496; clear BK497; clear HB; have BK496 := n0_; have BK497 := n1_; have HB := n2_; clear n0_ n1_ n2_; (try clear hb); (try clear hb2); (try clear hk); (try clear hi)) | ((with_reducible refine gqD (N := 8) rfl ?_); refine GS.bx (N := 8) (cs := #[.int .i64 0, .int .i64 0, .int .i64 0]) (t := 60) ?_; intro gb502 hg w19 hbox hb; have n0_ := Aside0.mk (bqB (GS.bqX BK496.out) hb); have n1_ := Aside0.mk (bqB (GS.bqX BK497.out) hb); have n2_ := Aside0.mk (lqT (GS.lB HB.out) hb); have n3_ := Aside0.mk (hbox); have n4_ := Aside0.mk ((by rw [hg]; exact (lqZ (GS.lB HB.out)) : w.heap.size ≤ gb502)); have n5_ := Aside0.mk ((by rw [hg]; exact (lqZ (GS.lB HB.out)) : w.heap.size ≤ gb502)); have n6_ := Aside0.mk ((by rw [hg]; exact Nat.ne_of_lt (blk_lt (GS.bqX BK496.out)) : gb496 ≠ gb502)); have n7_ := Aside0.mk ((by rw [hg]; exact Nat.ne_of_gt (blk_lt (GS.bqX BK496.out)) : gb502 ≠ gb496)); have n8_ := Aside0.mk ((by rw [hg]; exact Nat.ne_of_lt (blk_lt (GS.bqX BK497.out)) : gb497 ≠ gb502)); have n9_ := Aside0.mk ((by rw [hg]; exact Nat.ne_of_gt (blk_lt (GS.bqX BK497.out)) : gb502 ≠ gb497)); clear BK496; clear BK497; clear HB; have BK496 := n0_; have BK497 := n1_; have HB := n2_; have BK502 := n3_; have GW502 := n4_; have GE502 := n5_; have NB496_502 := n6_; have NB502_496 := n7_; have NB497_502 := n8_; have NB502_497 := n9_; clear n0_ n1_ n2_ n3_ n4_ n5_ n6_ n7_ n8_ n9_; clear hb hbox hg; have hnb20 := NB502_496.out; have hnc20 := NB496_502.out; have hnb21 := NB502_497.out; have hnc21 := NB497_502.out; obtain ⟨hcz22_0, hcz22_1, hcz22_2, hfz22_0, hfz22_1, hfz22_2⟩ := GS.c3 BK502.out; obtain ⟨hcz23_0, hcz23_1, hfz23_0, hfz23_1⟩ := GS.c2 BK496.out; obtain ⟨hcz24_0, hcz24_1, hcz24_2, hcz24_3, hcz24_4, hfz24_0, hfz24_1, hfz24_2, hfz24_3, hfz24_4⟩ := GS.c5 BK497.out) | (go_at_call 49; (with_reducible refine (spileref46_Amount.calls k a0_0 t500 a1_4 t503 _ A11.out).mono ?_); rintro e w' ⟨rfl, ⟨nd, rfl⟩⟩; (try first | exact ⟨rfl, _, World.drewN_drewN _ _ _⟩ | exact ⟨rfl, _, Eq.trans (World.drewN_drewN _ _ _) (congrArg (World.drewN _) (Nat.add_assoc _ _ _))⟩)))
   repeat (go_quiet (first | ((with_reducible refine gqD (N := 3) rfl ?_); refine GS.bx (N := 3) (cs := #[.int .i64 a0_0, .slice A0_1 l0_1.length c0_1]) (t := 24) ?_; intro gb496 hg w13 hbox hb; have n0_ := Aside0.mk (lqT (GS.lB HB.out) hb); have n1_ := Aside0.mk (hbox); have n2_ := Aside0.mk ((by rw [hg]; exact (lqZ (GS.lB HB.out)) : w.heap.size ≤ gb496)); have n3_ := Aside0.mk ((by rw [hg]; exact (lqZ (GS.lB HB.out)) : w.heap.size ≤ gb496)); clear HB; have HB := n0_; have BK496 := n1_; have GW496 := n2_; have GE496 := n3_; clear n0_ n1_ n2_ n3_; clear hb hbox hg) | ((with_reducible refine gqD (N := 4) rfl ?_); refine GS.bx (N := 4) (cs := #[.int .i64 a1_0, .int .i64 a1_1, .int .i64 a1_2, .int .i64 a1_3, .int .i64 a1_4]) (t := 35) ?_; intro gb497 hg w14 hbox hb; have n0_ := Aside0.mk (bqB (GS.bqX BK496.out) hb); have n1_ := Aside0.mk (lqT (GS.lB HB.out) hb); have n2_ := Aside0.mk (hbox); have n3_ := Aside0.mk ((by rw [hg]; exact (lqZ (GS.lB HB.out)) : w.heap.size ≤ gb497)); have n4_ := Aside0.mk ((by rw [hg]; exact (lqZ (GS.lB HB.out)) : w.heap.size ≤ gb497)); have n5_ := Aside0.mk ((by rw [hg]; exact Nat.ne_of_lt (blk_lt (GS.bqX BK496.out)) : gb496 ≠ gb497)); have n6_ := Aside0.mk ((by rw [hg]; exact Nat.ne_of_gt (blk_lt (GS.bqX BK496.out)) : gb497 ≠ gb496)); clear BK496; clear HB; have BK496 := n0_; have HB := n1_; have BK497 := n2_; have GW497 := n3_; have GE497 := n4_; have NB496_497 := n5_; have NB497_496 := n6_; clear n0_ n1_ n2_ n3_ n4_ n5_ n6_; clear hb hbox hg; have hnb15 := NB497_496.out; have hnc15 := NB496_497.out; obtain ⟨hcz16_0, hcz16_1, hcz16_2, hcz16_3, hcz16_4, hfz16_0, hfz16_1, hfz16_2, hfz16_3, hfz16_4⟩ := GS.c5 BK497.out; obtain ⟨hcz17_0, hcz17_1, hfz17_0, hfz17_1⟩ := GS.c2 BK496.out) | (go_at_call 48; (with_reducible refine (spileref46_Most.calls k a0_0 _ _ l0_1 a1_2 a1_3 a2 t498 t499 t500 true _ ?side1 ?side2 A9.out).mono ?_); (case side1 => exact GS.rC (Kd.C_below HR0_1.out HB.out)); (case side2 => exact HC0_1.out); rintro e w18 ⟨rfl, hb⟩; have n0_ := Aside0.mk (bqB (GS.bqX BK496.out) hb); have n1_ := Aside0.mk (bqB (GS.bqX BK497.out) hb); have n2_ := Aside0.mk (lqT (GS.lB HB.out) hb); clear BK496; clear BK497; clear HB; have BK496 := n0_; have BK497 := n1_; have HB := n2_; clear n0_ n1_ n2_; (try clear hb); (try clear hb2); (try clear hk); (try clear hi)) | ((with_reducible refine gqD (N := 8) rfl ?_); refine GS.bx (N := 8) (cs := #[.int .i64 0, .int .i64 0, .int .i64 0]) (t := 60) ?_; intro gb502 hg w19 hbox hb; have n0_ := Aside0.mk (bqB (GS.bqX BK496.out) hb); have n1_ := Aside0.mk (bqB (GS.bqX BK497.out) hb); have n2_ := Aside0.mk (lqT (GS.lB HB.out) hb); have n3_ := Aside0.mk (hbox); have n4_ := Aside0.mk ((by rw [hg]; exact (lqZ (GS.lB HB.out)) : w.heap.size ≤ gb502)); have n5_ := Aside0.mk ((by rw [hg]; exact (lqZ (GS.lB HB.out)) : w.heap.size ≤ gb502)); have n6_ := Aside0.mk ((by rw [hg]; exact Nat.ne_of_lt (blk_lt (GS.bqX BK496.out)) : gb496 ≠ gb502)); have n7_ := Aside0.mk ((by rw [hg]; exact Nat.ne_of_gt (blk_lt (GS.bqX BK496.out)) : gb502 ≠ gb496)); have n8_ := Aside0.mk ((by rw [hg]; exact Nat.ne_of_lt (blk_lt (GS.bqX BK497.out)) : gb497 ≠ gb502)); have n9_ := Aside0.mk ((by rw [hg]; exact Nat.ne_of_gt (blk_lt (GS.bqX BK497.out)) : gb502 ≠ gb497)); clear BK496; clear BK497; clear HB; have BK496 := n0_; have BK497 := n1_; have HB := n2_; have BK502 := n3_; have GW502 := n4_; have GE502 := n5_; have NB496_502 := n6_; have NB502_496 := n7_; have NB497_502 := n8_; have NB502_497 := n9_; clear n0_ n1_ n2_ n3_ n4_ n5_ n6_ n7_ n8_ n9_; clear hb hbox hg; have hnb20 := NB502_496.out; have hnc20 := NB496_502.out; have hnb21 := NB502_497.out; have hnc21 := NB497_502.out; obtain ⟨hcz22_0, hcz22_1, hcz22_2, hfz22_0, hfz22_1, hfz22_2⟩ := GS.c3 BK502.out; obtain ⟨hcz23_0, hcz23_1, hfz23_0, hfz23_1⟩ := GS.c2 BK496.out; obtain ⟨hcz24_0, hcz24_1, hcz24_2, hcz24_3, hcz24_4, hfz24_0, hfz24_1, hfz24_2, hfz24_3, hfz24_4⟩ := GS.c5 BK497.out) | (go_at_call 49; (with_reducible refine (spileref46_Amount.calls k a0_0 t500 a1_4 t503 _ A11.out).mono ?_); rintro e w' ⟨rfl, ⟨nd, rfl⟩⟩; (try first | exact ⟨rfl, _, World.drewN_drewN _ _ _⟩ | exact ⟨rfl, _, Eq.trans (World.drewN_drewN _ _ _) (congrArg (World.drewN _) (Nat.add_assoc _ _ _))⟩))); try go_wp2_with (first | ((with_reducible refine gqD (N := 3) rfl ?_); refine GS.bx (N := 3) (cs := #[.int .i64 a0_0, .slice A0_1 l0_1.length c0_1]) (t := 24) ?_; intro gb496 hg w13 hbox hb; have n0_ := Aside0.mk (lqT (GS.lB HB.out) hb); have n1_ := Aside0.mk (hbox); have n2_ := Aside0.mk ((by rw [hg]; exact (lqZ (GS.lB HB.out)) : w.heap.size ≤ gb496)); have n3_ := Aside0.mk ((by rw [hg]; exact (lqZ (GS.lB HB.out)) : w.heap.size ≤ gb496)); clear HB; have HB := n0_; have BK496 := n1_; have GW496 := n2_; have GE496 := n3_; clear n0_ n1_ n2_ n3_; clear hb hbox hg) | ((with_reducible refine gqD (N := 4) rfl ?_); refine GS.bx (N := 4) (cs := #[.int .i64 a1_0, .int .i64 a1_1, .int .i64 a1_2, .int .i64 a1_3, .int .i64 a1_4]) (t := 35) ?_; intro gb497 hg w14 hbox hb; have n0_ := Aside0.mk (bqB (GS.bqX BK496.out) hb); have n1_ := Aside0.mk (lqT (GS.lB HB.out) hb); have n2_ := Aside0.mk (hbox); have n3_ := Aside0.mk ((by rw [hg]; exact (lqZ (GS.lB HB.out)) : w.heap.size ≤ gb497)); have n4_ := Aside0.mk ((by rw [hg]; exact (lqZ (GS.lB HB.out)) : w.heap.size ≤ gb497)); have n5_ := Aside0.mk ((by rw [hg]; exact Nat.ne_of_lt (blk_lt (GS.bqX BK496.out)) : gb496 ≠ gb497)); have n6_ := Aside0.mk ((by rw [hg]; exact Nat.ne_of_gt (blk_lt (GS.bqX BK496.out)) : gb497 ≠ gb496)); clear BK496; clear HB; have BK496 := n0_; have HB := n1_; have BK497 := n2_; have GW497 := n3_; have GE497 := n4_; have NB496_497 := n5_; have NB497_496 := n6_; clear n0_ n1_ n2_ n3_ n4_ n5_ n6_; clear hb hbox hg; have hnb15 := NB497_496.out; have hnc15 := NB496_497.out; obtain ⟨hcz16_0, hcz16_1, hcz16_2, hcz16_3, hcz16_4, hfz16_0, hfz16_1, hfz16_2, hfz16_3, hfz16_4⟩ := GS.c5 BK497.out; obtain ⟨hcz17_0, hcz17_1, hfz17_0, hfz17_1⟩ := GS.c2 BK496.out) | (go_at_call 48; (with_reducible refine (spileref46_Most.calls k a0_0 _ _ l0_1 a1_2 a1_3 a2 t498 t499 t500 true _ ?side1 ?side2 A9.out).mono ?_); (case side1 => exact GS.rC (Kd.C_below HR0_1.out HB.out)); (case side2 => exact HC0_1.out); rintro e w18 ⟨rfl, hb⟩; have n0_ := Aside0.mk (bqB (GS.bqX BK496.out) hb); have n1_ := Aside0.mk (bqB (GS.bqX BK497.out) hb); have n2_ := Aside0.mk (lqT (GS.lB HB.out) hb); clear BK496; clear BK497; clear HB; have BK496 := n0_; have BK497 := n1_; have HB := n2_; clear n0_ n1_ n2_; (try clear hb); (try clear hb2); (try clear hk); (try clear hi)) | ((with_reducible refine gqD (N := 8) rfl ?_); refine GS.bx (N := 8) (cs := #[.int .i64 0, .int .i64 0, .int .i64 0]) (t := 60) ?_; intro gb502 hg w19 hbox hb; have n0_ := Aside0.mk (bqB (GS.bqX BK496.out) hb); have n1_ := Aside0.mk (bqB (GS.bqX BK497.out) hb); have n2_ := Aside0.mk (lqT (GS.lB HB.out) hb); have n3_ := Aside0.mk (hbox); have n4_ := Aside0.mk ((by rw [hg]; exact (lqZ (GS.lB HB.out)) : w.heap.size ≤ gb502)); have n5_ := Aside0.mk ((by rw [hg]; exact (lqZ (GS.lB HB.out)) : w.heap.size ≤ gb502)); have n6_ := Aside0.mk ((by rw [hg]; exact Nat.ne_of_lt (blk_lt (GS.bqX BK496.out)) : gb496 ≠ gb502)); have n7_ := Aside0.mk ((by rw [hg]; exact Nat.ne_of_gt (blk_lt (GS.bqX BK496.out)) : gb502 ≠ gb496)); have n8_ := Aside0.mk ((by rw [hg]; exact Nat.ne_of_lt (blk_lt (GS.bqX BK497.out)) : gb497 ≠ gb502)); have n9_ := Aside0.mk ((by rw [hg]; exact Nat.ne_of_gt (blk_lt (GS.bqX BK497.out)) : gb502 ≠ gb497)); clear BK496; clear BK497; clear HB; have BK496 := n0_; have BK497 := n1_; have HB := n2_; have BK502 := n3_; have GW502 := n4_; have GE502 := n5_; have NB496_502 := n6_; have NB502_496 := n7_; have NB497_502 := n8_; have NB502_497 := n9_; clear n0_ n1_ n2_ n3_ n4_ n5_ n6_ n7_ n8_ n9_; clear hb hbox hg; have hnb20 := NB502_496.out; have hnc20 := NB496_502.out; have hnb21 := NB502_497.out; have hnc21 := NB497_502.out; obtain ⟨hcz22_0, hcz22_1, hcz22_2, hfz22_0, hfz22_1, hfz22_2⟩ := GS.c3 BK502.out; obtain ⟨hcz23_0, hcz23_1, hfz23_0, hfz23_1⟩ := GS.c2 BK496.out; obtain ⟨hcz24_0, hcz24_1, hcz24_2, hcz24_3, hcz24_4, hfz24_0, hfz24_1, hfz24_2, hfz24_3, hfz24_4⟩ := GS.c5 BK497.out) | (go_at_call 49; (with_reducible refine (spileref46_Amount.calls k a0_0 t500 a1_4 t503 _ A11.out).mono ?_); rintro e w' ⟨rfl, ⟨nd, rfl⟩⟩; (try first | exact ⟨rfl, _, World.drewN_drewN _ _ _⟩ | exact ⟨rfl, _, Eq.trans (World.drewN_drewN _ _ _) (congrArg (World.drewN _) (Nat.add_assoc _ _ _))⟩))))
   go_ret2
   exact ⟨by first | rfl | (simp [errW_none, errW_some] <;> rfl) | (simp only [← hji12]; first | rfl | (simp [errW_none, errW_some] <;> rfl)) | (simp [*, errW_none, errW_some] <;> rfl), GS.lB HB.out⟩
  ·replace c10 := Bool.eq_false_iff.mpr c10
   subst c10
   have H1 : (some (0, a1_3)) = some (r1, r2) := by rw [if_neg (show ¬ (false = true) by decide)] at H; exact H
   clear H
   have H := H1
   clear H1
   simp only [Option.some.injEq, Prod.mk.injEq] at H
   obtain ⟨rfl, rfl⟩ := H
   go_enter Try.func34, Try.ntmps34
   go_wp2_with (first | ((with_reducible refine gqD (N := 3) rfl ?_); refine GS.bx (N := 3) (cs := #[.int .i64 a0_0, .slice A0_1 l0_1.length c0_1]) (t := 24) ?_; intro gb496 hg w25 hbox hb; have n0_ := Aside0.mk (lqT (GS.lB HB.out) hb); have n1_ := Aside0.mk (hbox); have n2_ := Aside0.mk ((by rw [hg]; exact (lqZ (GS.lB HB.out)) : w.heap.size ≤ gb496)); have n3_ := Aside0.mk ((by rw [hg]; exact (lqZ (GS.lB HB.out)) : w.heap.size ≤ gb496)); clear HB; have HB := n0_; have BK496 := n1_; have GW496 := n2_; have GE496 := n3_; clear n0_ n1_ n2_ n3_; clear hb hbox hg) | ((with_reducible refine gqD (N := 4) rfl ?_); refine GS.bx (N := 4) (cs := #[.int .i64 a1_0, .int .i64 a1_1, .int .i64 a1_2, .int .i64 a1_3, .int .i64 a1_4]) (t := 35) ?_; intro gb497 hg w26 hbox hb; have n0_ := Aside0.mk (bqB (GS.bqX BK496.out) hb); have n1_ := Aside0.mk (lqT (GS.lB HB.out) hb); have n2_ := Aside0.mk (hbox); have n3_ := Aside0.mk ((by rw [hg]; exact (lqZ (GS.lB HB.out)) : w.heap.size ≤ gb497)); have n4_ := Aside0.mk ((by rw [hg]; exact (lqZ (GS.lB HB.out)) : w.heap.size ≤ gb497)); have n5_ := Aside0.mk ((by rw [hg]; exact Nat.ne_of_lt (blk_lt (GS.bqX BK496.out)) : gb496 ≠ gb497)); have n6_ := Aside0.mk ((by rw [hg]; exact Nat.ne_of_gt (blk_lt (GS.bqX BK496.out)) : gb497 ≠ gb496)); clear BK496; clear HB; have BK496 := n0_; have HB := n1_; have BK497 := n2_; have GW497 := n3_; have GE497 := n4_; have NB496_497 := n5_; have NB497_496 := n6_; clear n0_ n1_ n2_ n3_ n4_ n5_ n6_; clear hb hbox hg; have hnb27 := NB497_496.out; have hnc27 := NB496_497.out; obtain ⟨hcz28_0, hcz28_1, hcz28_2, hcz28_3, hcz28_4, hfz28_0, hfz28_1, hfz28_2, hfz28_3, hfz28_4⟩ := GS.c5 BK497.out; obtain ⟨hcz29_0, hcz29_1, hfz29_0, hfz29_1⟩ := GS.c2 BK496.out) | (go_at_call 48; (with_reducible refine (spileref46_Most.calls k a0_0 _ _ l0_1 a1_2 a1_3 a2 t498 t499 t500 false _ ?side1 ?side2 A9.out).mono ?_); (case side1 => exact GS.rC (Kd.C_below HR0_1.out HB.out)); (case side2 => exact HC0_1.out); rintro e w30 ⟨rfl, hb⟩; have n0_ := Aside0.mk (bqB (GS.bqX BK496.out) hb); have n1_ := Aside0.mk (bqB (GS.bqX BK497.out) hb); have n2_ := Aside0.mk (lqT (GS.lB HB.out) hb); clear BK496; clear BK497; clear HB; have BK496 := n0_; have BK497 := n1_; have HB := n2_; clear n0_ n1_ n2_; (try clear hb); (try clear hb2); (try clear hk); (try clear hi)) | ((with_reducible refine gqD (N := 8) rfl ?_); refine GS.bx (N := 8) (cs := #[.int .i64 0, .int .i64 0, .int .i64 0]) (t := 60) ?_; intro gb502 hg w31 hbox hb; have n0_ := Aside0.mk (bqB (GS.bqX BK496.out) hb); have n1_ := Aside0.mk (bqB (GS.bqX BK497.out) hb); have n2_ := Aside0.mk (lqT (GS.lB HB.out) hb); have n3_ := Aside0.mk (hbox); have n4_ := Aside0.mk ((by rw [hg]; exact (lqZ (GS.lB HB.out)) : w.heap.size ≤ gb502)); have n5_ := Aside0.mk ((by rw [hg]; exact (lqZ (GS.lB HB.out)) : w.heap.size ≤ gb502)); have n6_ := Aside0.mk ((by rw [hg]; exact Nat.ne_of_lt (blk_lt (GS.bqX BK496.out)) : gb496 ≠ gb502)); have n7_ := Aside0.mk ((by rw [hg]; exact Nat.ne_of_gt (blk_lt (GS.bqX BK496.out)) : gb502 ≠ gb496)); have n8_ := Aside0.mk ((by rw [hg]; exact Nat.ne_of_lt (blk_lt (GS.bqX BK497.out)) : gb497 ≠ gb502)); have n9_ := Aside0.mk ((by rw [hg]; exact Nat.ne_of_gt (blk_lt (GS.bqX BK497.out)) : gb502 ≠ gb497)); clear BK496; clear BK497; clear HB; have BK496 := n0_; have BK497 := n1_; have HB := n2_; have BK502 := n3_; have GW502 := n4_; have GE502 := n5_; have NB496_502 := n6_; have NB502_496 := n7_; have NB497_502 := n8_; have NB502_497 := n9_; clear n0_ n1_ n2_ n3_ n4_ n5_ n6_ n7_ n8_ n9_; clear hb hbox hg; have hnb32 := NB502_496.out; have hnc32 := NB496_502.out; have hnb33 := NB502_497.out; have hnc33 := NB497_502.out; obtain ⟨hcz34_0, hcz34_1, hcz34_2, hfz34_0, hfz34_1, hfz34_2⟩ := GS.c3 BK502.out; obtain ⟨hcz35_0, hcz35_1, hcz35_2, hcz35_3, hcz35_4, hfz35_0, hfz35_1, hfz35_2, hfz35_3, hfz35_4⟩ := GS.c5 BK497.out))
   repeat (go_quiet (first | ((with_reducible refine gqD (N := 3) rfl ?_); refine GS.bx (N := 3) (cs := #[.int .i64 a0_0, .slice A0_1 l0_1.length c0_1]) (t := 24) ?_; intro gb496 hg w25 hbox hb; have n0_ := Aside0.mk (lqT (GS.lB HB.out) hb); have n1_ := Aside0.mk (hbox); have n2_ := Aside0.mk ((by rw [hg]; exact (lqZ (GS.lB HB.out)) : w.heap.size ≤ gb496)); have n3_ := Aside0.mk ((by rw [hg]; exact (lqZ (GS.lB HB.out)) : w.heap.size ≤ gb496)); clear HB; have HB := n0_; have BK496 := n1_; have GW496 := n2_; have GE496 := n3_; clear n0_ n1_ n2_ n3_; clear hb hbox hg) | ((with_reducible refine gqD (N := 4) rfl ?_); refine GS.bx (N := 4) (cs := #[.int .i64 a1_0, .int .i64 a1_1, .int .i64 a1_2, .int .i64 a1_3, .int .i64 a1_4]) (t := 35) ?_; intro gb497 hg w26 hbox hb; have n0_ := Aside0.mk (bqB (GS.bqX BK496.out) hb); have n1_ := Aside0.mk (lqT (GS.lB HB.out) hb); have n2_ := Aside0.mk (hbox); have n3_ := Aside0.mk ((by rw [hg]; exact (lqZ (GS.lB HB.out)) : w.heap.size ≤ gb497)); have n4_ := Aside0.mk ((by rw [hg]; exact (lqZ (GS.lB HB.out)) : w.heap.size ≤ gb497)); have n5_ := Aside0.mk ((by rw [hg]; exact Nat.ne_of_lt (blk_lt (GS.bqX BK496.out)) : gb496 ≠ gb497)); have n6_ := Aside0.mk ((by rw [hg]; exact Nat.ne_of_gt (blk_lt (GS.bqX BK496.out)) : gb497 ≠ gb496)); clear BK496; clear HB; have BK496 := n0_; have HB := n1_; have BK497 := n2_; have GW497 := n3_; have GE497 := n4_; have NB496_497 := n5_; have NB497_496 := n6_; clear n0_ n1_ n2_ n3_ n4_ n5_ n6_; clear hb hbox hg; have hnb27 := NB497_496.out; have hnc27 := NB496_497.out; obtain ⟨hcz28_0, hcz28_1, hcz28_2, hcz28_3, hcz28_4, hfz28_0, hfz28_1, hfz28_2, hfz28_3, hfz28_4⟩ := GS.c5 BK497.out; obtain ⟨hcz29_0, hcz29_1, hfz29_0, hfz29_1⟩ := GS.c2 BK496.out) | (go_at_call 48; (with_reducible refine (spileref46_Most.calls k a0_0 _ _ l0_1 a1_2 a1_3 a2 t498 t499 t500 false _ ?side1 ?side2 A9.out).mono ?_); (case side1 => exact GS.rC (Kd.C_below HR0_1.out HB.out)); (case side2 => exact HC0_1.out); rintro e w30 ⟨rfl, hb⟩; have n0_ := Aside0.mk (bqB (GS.bqX BK496.out) hb); have n1_ := Aside0.mk (bqB (GS.bqX BK497.out) hb); have n2_ := Aside0.mk (lqT (GS.lB HB.out) hb); clear BK496; clear BK497; clear HB; have BK496 := n0_; have BK497 := n1_; have HB := n2_; clear n0_ n1_ n2_; (try clear hb); (try clear hb2); (try clear hk); (try clear hi)) | ((with_reducible refine gqD (N := 8) rfl ?_); refine GS.bx (N := 8) (cs := #[.int .i64 0, .int .i64 0, .int .i64 0]) (t := 60) ?_; intro gb502 hg w31 hbox hb; have n0_ := Aside0.mk (bqB (GS.bqX BK496.out) hb); have n1_ := Aside0.mk (bqB (GS.bqX BK497.out) hb); have n2_ := Aside0.mk (lqT (GS.lB HB.out) hb); have n3_ := Aside0.mk (hbox); have n4_ := Aside0.mk ((by rw [hg]; exact (lqZ (GS.lB HB.out)) : w.heap.size ≤ gb502)); have n5_ := Aside0.mk ((by rw [hg]; exact (lqZ (GS.lB HB.out)) : w.heap.size ≤ gb502)); have n6_ := Aside0.mk ((by rw [hg]; exact Nat.ne_of_lt (blk_lt (GS.bqX BK496.out)) : gb496 ≠ gb502)); have n7_ := Aside0.mk ((by rw [hg]; exact Nat.ne_of_gt (blk_lt (GS.bqX BK496.out)) : gb502 ≠ gb496)); have n8_ := Aside0.mk ((by rw [hg]; exact Nat.ne_of_lt (blk_lt (GS.bqX BK497.out)) : gb497 ≠ gb502)); have n9_ := Aside0.mk ((by rw [hg]; exact Nat.ne_of_gt (blk_lt (GS.bqX BK497.out)) : gb502 ≠ gb497)); clear BK496; clear BK497; clear HB; have BK496 := n0_; have BK497 := n1_; have HB := n2_; have BK502 := n3_; have GW502 := n4_; have GE502 := n5_; have NB496_502 := n6_; have NB502_496 := n7_; have NB497_502 := n8_; have NB502_497 := n9_; clear n0_ n1_ n2_ n3_ n4_ n5_ n6_ n7_ n8_ n9_; clear hb hbox hg; have hnb32 := NB502_496.out; have hnc32 := NB496_502.out; have hnb33 := NB502_497.out; have hnc33 := NB497_502.out; obtain ⟨hcz34_0, hcz34_1, hcz34_2, hfz34_0, hfz34_1, hfz34_2⟩ := GS.c3 BK502.out; obtain ⟨hcz35_0, hcz35_1, hcz35_2, hcz35_3, hcz35_4, hfz35_0, hfz35_1, hfz35_2, hfz35_3, hfz35_4⟩ := GS.c5 BK497.out)); try go_wp2_with (first | ((with_reducible refine gqD (N := 3) rfl ?_); refine GS.bx (N := 3) (cs := #[.int .i64 a0_0, .slice A0_1 l0_1.length c0_1]) (t := 24) ?_; intro gb496 hg w25 hbox hb; have n0_ := Aside0.mk (lqT (GS.lB HB.out) hb); have n1_ := Aside0.mk (hbox); have n2_ := Aside0.mk ((by rw [hg]; exact (lqZ (GS.lB HB.out)) : w.heap.size ≤ gb496)); have n3_ := Aside0.mk ((by rw [hg]; exact (lqZ (GS.lB HB.out)) : w.heap.size ≤ gb496)); clear HB; have HB := n0_; have BK496 := n1_; have GW496 := n2_; have GE496 := n3_; clear n0_ n1_ n2_ n3_; clear hb hbox hg) | ((with_reducible refine gqD (N := 4) rfl ?_); refine GS.bx (N := 4) (cs := #[.int .i64 a1_0, .int .i64 a1_1, .int .i64 a1_2, .int .i64 a1_3, .int .i64 a1_4]) (t := 35) ?_; intro gb497 hg w26 hbox hb; have n0_ := Aside0.mk (bqB (GS.bqX BK496.out) hb); have n1_ := Aside0.mk (lqT (GS.lB HB.out) hb); have n2_ := Aside0.mk (hbox); have n3_ := Aside0.mk ((by rw [hg]; exact (lqZ (GS.lB HB.out)) : w.heap.size ≤ gb497)); have n4_ := Aside0.mk ((by rw [hg]; exact (lqZ (GS.lB HB.out)) : w.heap.size ≤ gb497)); have n5_ := Aside0.mk ((by rw [hg]; exact Nat.ne_of_lt (blk_lt (GS.bqX BK496.out)) : gb496 ≠ gb497)); have n6_ := Aside0.mk ((by rw [hg]; exact Nat.ne_of_gt (blk_lt (GS.bqX BK496.out)) : gb497 ≠ gb496)); clear BK496; clear HB; have BK496 := n0_; have HB := n1_; have BK497 := n2_; have GW497 := n3_; have GE497 := n4_; have NB496_497 := n5_; have NB497_496 := n6_; clear n0_ n1_ n2_ n3_ n4_ n5_ n6_; clear hb hbox hg; have hnb27 := NB497_496.out; have hnc27 := NB496_497.out; obtain ⟨hcz28_0, hcz28_1, hcz28_2, hcz28_3, hcz28_4, hfz28_0, hfz28_1, hfz28_2, hfz28_3, hfz28_4⟩ := GS.c5 BK497.out; obtain ⟨hcz29_0, hcz29_1, hfz29_0, hfz29_1⟩ := GS.c2 BK496.out) | (go_at_call 48; (with_reducible refine (spileref46_Most.calls k a0_0 _ _ l0_1 a1_2 a1_3 a2 t498 t499 t500 false _ ?side1 ?side2 A9.out).mono ?_); (case side1 => exact GS.rC (Kd.C_below HR0_1.out HB.out)); (case side2 => exact HC0_1.out); rintro e w30 ⟨rfl, hb⟩; have n0_ := Aside0.mk (bqB (GS.bqX BK496.out) hb); have n1_ := Aside0.mk (bqB (GS.bqX BK497.out) hb); have n2_ := Aside0.mk (lqT (GS.lB HB.out) hb); clear BK496; clear BK497; clear HB; have BK496 := n0_; have BK497 := n1_; have HB := n2_; clear n0_ n1_ n2_; (try clear hb); (try clear hb2); (try clear hk); (try clear hi)) | ((with_reducible refine gqD (N := 8) rfl ?_); refine GS.bx (N := 8) (cs := #[.int .i64 0, .int .i64 0, .int .i64 0]) (t := 60) ?_; intro gb502 hg w31 hbox hb; have n0_ := Aside0.mk (bqB (GS.bqX BK496.out) hb); have n1_ := Aside0.mk (bqB (GS.bqX BK497.out) hb); have n2_ := Aside0.mk (lqT (GS.lB HB.out) hb); have n3_ := Aside0.mk (hbox); have n4_ := Aside0.mk ((by rw [hg]; exact (lqZ (GS.lB HB.out)) : w.heap.size ≤ gb502)); have n5_ := Aside0.mk ((by rw [hg]; exact (lqZ (GS.lB HB.out)) : w.heap.size ≤ gb502)); have n6_ := Aside0.mk ((by rw [hg]; exact Nat.ne_of_lt (blk_lt (GS.bqX BK496.out)) : gb496 ≠ gb502)); have n7_ := Aside0.mk ((by rw [hg]; exact Nat.ne_of_gt (blk_lt (GS.bqX BK496.out)) : gb502 ≠ gb496)); have n8_ := Aside0.mk ((by rw [hg]; exact Nat.ne_of_lt (blk_lt (GS.bqX BK497.out)) : gb497 ≠ gb502)); have n9_ := Aside0.mk ((by rw [hg]; exact Nat.ne_of_gt (blk_lt (GS.bqX BK497.out)) : gb502 ≠ gb497)); clear BK496; clear BK497; clear HB; have BK496 := n0_; have BK497 := n1_; have HB := n2_; have BK502 := n3_; have GW502 := n4_; have GE502 := n5_; have NB496_502 := n6_; have NB502_496 := n7_; have NB497_502 := n8_; have NB502_497 := n9_; clear n0_ n1_ n2_ n3_ n4_ n5_ n6_ n7_ n8_ n9_; clear hb hbox hg; have hnb32 := NB502_496.out; have hnc32 := NB496_502.out; have hnb33 := NB502_497.out; have hnc33 := NB497_502.out; obtain ⟨hcz34_0, hcz34_1, hcz34_2, hfz34_0, hfz34_1, hfz34_2⟩ := GS.c3 BK502.out; obtain ⟨hcz35_0, hcz35_1, hcz35_2, hcz35_3, hcz35_4, hfz35_0, hfz35_1, hfz35_2, hfz35_3, hfz35_4⟩ := GS.c5 BK497.out)))
   go_ret2
   exact ⟨by first | rfl | (simp [errW_none, errW_some] <;> rfl) | (simp [*, errW_none, errW_some] <;> rfl), GS.lB HB.out⟩

/-! ### spileref51_Greatest: function 14 -/
def spileref51_Greatest.l0 : Nat → List (S35) → Int → List Int → Int → Int → Int → List (S60) → Option (List Int × Int × Int)
 | 0, _, _, _, _, _, _, _ => none
 | k + 1, x1, x2, x10, x11, x12, x505000, x505001 => if x12 < (x1.length : Int) then (if 0 ≤ x12 then ((spileref51_most.f k x505000 x505001 ((rd_T35 x1 x12).f0) ((rd_T35 x1 x12).f1) ((rd_T35 x1 x12).f2) ((rd_T35 x1 x12).f3) ((rd_T35 x1 x12).f4) x2).bind fun bt507 => (if x10.length < 17592186044416 then (spileref51_Greatest.l0 k x1 x2 (x10 ++ [bt507.1]) (wrap64 (x11 + bt507.1)) (wrap64 (x12 + 1)) x505000 x505001) else (none))) else (none)) else (some (x10, x11, 0))
def spileref51_Greatest.f (k : Nat) (a0_0 : Int) (l0_1 : List (S60)) (l1 : List (S35)) (a2 : Int) : Option (List Int × Int × Int) := (spileref51_asked.f k a0_0 l0_1 l1 a2).bind fun t505 => (if t505 = 0 then (spileref51_Greatest.l0 k l1 a2 ([] : List Int) 0 0 a0_0 l0_1) else (some (([] : List Int), 0, t505)))
theorem spileref51_Greatest.mono_l : ∀ k, (∀ y0 y1 y2 y3 y4 y5 y6, LeO (spileref51_Greatest.l0 k y0 y1 y2 y3 y4 y5 y6) (spileref51_Greatest.l0 (k + 1) y0 y1 y2 y3 y4 y5 y6))
 | 0 => fun _ _ _ _ _ _ _ r h => by simp [spileref51_Greatest.l0] at h
 | k + 1 => by
  have ih0 := spileref51_Greatest.mono_l k
  ·intro y0 y1 y2 y3 y4 y5 y6
   unfold spileref51_Greatest.l0
   repeat' first
   | (with_reducible exact ih0 _ _ _ _ _ _ _)
   | (with_reducible exact spileref51_asked.mono _ _ _ _ _)
   | (with_reducible exact spileref51_most.mono _ _ _ _ _ _ _ _ _)
   | (with_reducible exact LeO.refl _)
   | (with_reducible exact LeO.none _)
   | (with_reducible refine LeO.ite ?_ ?_)
   | (with_reducible refine LeO.bind ?_ (fun _ => ?_))
   | exact ih0 _ _ _ _ _ _ _
   | exact spileref51_asked.mono _ _ _ _ _
   | exact spileref51_most.mono _ _ _ _ _ _ _ _ _
   | exact LeO.none _
   | refine LeO.ite ?_ ?_
   | refine LeO.bind ?_ (fun _ => ?_)
theorem spileref51_Greatest.mono : ∀ a0 a1 a2 a3 k, LeO (spileref51_Greatest.f k a0 a1 a2 a3) (spileref51_Greatest.f (k + 1) a0 a1 a2 a3) := by
 intro a0 a1 a2 a3 k
 have ih0 := spileref51_Greatest.mono_l k
 unfold spileref51_Greatest.f
 repeat' first
   | (with_reducible exact ih0 _ _ _ _ _ _ _)
   | (with_reducible exact spileref51_asked.mono _ _ _ _ _)
   | (with_reducible exact spileref51_most.mono _ _ _ _ _ _ _ _ _)
   | (with_reducible exact LeO.refl _)
   | (with_reducible exact LeO.none _)
   | (with_reducible refine LeO.ite ?_ ?_)
   | (with_reducible refine LeO.bind ?_ (fun _ => ?_))
   | exact ih0 _ _ _ _ _ _ _
   | exact spileref51_asked.mono _ _ _ _ _
   | exact spileref51_most.mono _ _ _ _ _ _ _ _ _
   | exact LeO.none _
   | refine LeO.ite ?_ ?_
   | refine LeO.bind ?_ (fun _ => ?_)
def spileref51_Greatest.T9 : Bool × List (List Nat × List Nat) := (true, [([], []), ([], []), ([], []), ([1, 2], [1, 2]), ([3], [3]), ([], []), ([0, 4, 5], [0, 4, 5]), ([6], [6]), ([7], [7]), ([7], [7]), ([8, 6, 0, 1, 2, 3, 4, 5, 6, 7, 8], [8]), ([9, 10, 0, 1, 2, 3, 4, 5, 6, 7, 8, 9, 10], [9])])
def spileref51_Greatest.B9 : List Nat := [0, 0, 0, 6, 14, 0, 63, 127, 255, 255, 511, 2047]
theorem spileref51_Greatest.tab9 : rtab .any (opsOf Try.f14 9) = spileref51_Greatest.T9 := by kernel_rfl
theorem spileref51_Greatest.bits9 : waitsOk spileref51_Greatest.T9.2 spileref51_Greatest.B9 = true := by kernel_rfl
set_option maxHeartbeats 8000000 in
set_option maxRecDepth 100000 in
theorem spileref51_Greatest.calls (k : Nat) (a0_0 : Int) (A0_1 : Option Addr) (c0_1 : Nat) (l0_1 : List (S60)) (A1 : Option Addr) (c1 : Nat) (l1 : List (S35)) (a2 : Int) (r1 : List Int) (r2 : Int) (r3 : Int) (w : World) (hr0_1 : Kd.C k60 w A0_1 l0_1.length l0_1) (hc0_1 : l0_1.length ≤ c0_1) (hr1 : Kd.C k35 w A1 l1.length l1) (hc1 : l1.length ≤ c1) (h : spileref51_Greatest.f k a0_0 l0_1 l1 a2 = some (r1, r2, r3)) :
  Calls Try.prog 14 #[.agg #[.int .i64 a0_0, .slice A0_1 l0_1.length c0_1], .slice A1 l1.length c1, .int .i64 a2] w fun e w' => ∃ v0_ : Value, e = .returned (.tuple #[v0_, .int .i64 r2, .int .i64 r3]) ∧ Kd.R (Kd.int .i64) 3 w' w.heap.size (fun _ => True) v0_ r1 ∧ Below w.heap.size w w' := by
 have hu24 := Try.underlying24
 have hu35 := Try.underlying35
 have HR0_1 := Aside0.mk hr0_1
 have HC0_1 := Aside0.mk hc0_1
 clear hr0_1 hc0_1
 have HR1 := Aside0.mk hr1
 have HC1 := Aside0.mk hc1
 clear hr1 hc1
 have HB := Aside0.mk (Below.refl w.heap.size w)
 have H : ((spileref51_asked.f k a0_0 l0_1 l1 a2).bind fun t505 => (if t505 = 0 then (spileref51_Greatest.l0 k l1 a2 ([] : List Int) 0 0 a0_0 l0_1) else (some (([] : List Int), 0, t505)))) = some (r1, r2, r3) := h
 clear h
 replace H := Option.bind_eq_some_iff.mp H
 obtain ⟨t505, A40, H⟩ := H
 replace H : (if t505 = 0 then (spileref51_Greatest.l0 k l1 a2 ([] : List Int) 0 0 a0_0 l0_1) else (some (([] : List Int), 0, t505))) = some (r1, r2, r3) := H
 have A4 := Aside0.mk A40
 clear A40
 by_cases c5 : t505 = 0
 ·rw [if_pos c5] at H
  have c5b0 : (t505 == 0) = true := beq_iff_eq.mpr c5
  try simp only [beq_self_eq_true, Bool.not_true, Bool.false_or, Bool.true_and] at c5b0
  have c5b1 : (t505 != 0) = false := bne_eq_false_iff_eq.mpr c5
  clear c5
  have H' := Aside0.mk H
  clear H
  go_enter Try.func14, Try.ntmps14
  go_wp2_with (first | ((with_reducible refine gqD (N := 3) rfl ?_); refine GS.bx (N := 3) (cs := #[.int .i64 a0_0, .slice A0_1 l0_1.length c0_1]) (t := 24) ?_; intro gb504 hg w6 hbox hb; have n0_ := Aside0.mk (lqT (GS.lB HB.out) hb); have n1_ := Aside0.mk (hbox); have n2_ := Aside0.mk ((by rw [hg]; exact (lqZ (GS.lB HB.out)) : w.heap.size ≤ gb504)); have n3_ := Aside0.mk ((by rw [hg]; exact (lqZ (GS.lB HB.out)) : w.heap.size ≤ gb504)); clear HB; have HB := n0_; have BK504 := n1_; have GW504 := n2_; have GE504 := n3_; clear n0_ n1_ n2_ n3_; clear hb hbox hg; obtain ⟨hcz7_0, hcz7_1, hfz7_0, hfz7_1⟩ := GS.c2 BK504.out) | ((with_reducible refine gqC (f := 33) rfl ?_); refine GS.gL (some 18) Try.func33 #[.agg #[.int .i64 a0_0, .slice A0_1 l0_1.length c0_1], .slice A1 l1.length c1, .int .i64 a2] ?_; (with_reducible refine (spileref51_asked.calls k a0_0 _ _ l0_1 _ _ l1 a2 t505 _ ?side1 ?side2 ?side3 ?side4 A4.out).mono ?_); (case side1 => exact GS.rC (Kd.C_below HR0_1.out HB.out)); (case side2 => exact HC0_1.out); (case side3 => exact GS.rC (Kd.C_below HR1.out HB.out)); (case side4 => exact HC1.out); rintro e w8 ⟨rfl, hb⟩; refine ⟨_, rfl, ?_⟩; have n0_ := Aside0.mk (bqB (GS.bqX BK504.out) hb); have n1_ := Aside0.mk (lqT (GS.lB HB.out) hb); clear BK504; clear HB; have BK504 := n0_; have HB := n1_; clear n0_ n1_; (try clear hb); (try clear hb2); (try clear hk); (try clear hi)))
  go_loopg [10, 11, 12] k (fun kq v10 v11 v12 w' => ∃ (x10_1 : List Int) (x11_1 : Int) (x12_1 : Int), v11 = .int .i64 x11_1 ∧ v12 = .int .i64 x12_1 ∧ Aside0 (spileref51_Greatest.l0 kq l1 a2 x10_1 x11_1 x12_1 a0_0 l0_1 = some (r1, r2, r3)) ∧ Aside0 (kq ≤ k) ∧ Aside0 (Kd.R (Kd.int .i64) 3 w' w.heap.size (fun _ => True) v10 x10_1) ∧ Aside0 (w'.heap[gb504]? = some (.cells #[.int .i64 a0_0, (.slice A0_1 l0_1.length c0_1)] 24 (0, 0))) ∧ Aside0 (Below w.heap.size w w'))
  case atStart => exact ⟨(([] : List Int)), (0), (0), (by first | rfl | (simp; done) | (simp [*]; done)), (by first | rfl | (simp; done) | (simp [*]; done)), H', ⟨Nat.le_refl _⟩, ⟨by first | exact Kd.R_nil _ _ _ _ _ | exact Kd.N_nil _ _ _ _ _ | exact Kd.V_nil _ _ _ _ _ | exact Kd.Q_nil _ _ _ _ _ | exact Kd.S_nil _ _ _ _ _⟩, ⟨GS.bqX BK504.out⟩, ⟨GS.lB HB.out⟩⟩
  case round =>
   clear H'
   try clear c1
   try clear p2
   try clear c3
   try clear c5
   try clear c5b0
   try clear c5b1
   try clear hcz7_0
   try clear hcz7_1
   try clear hfz7_0
   try clear hfz7_1
   obtain ⟨x10_1, x11_1, x12_1, rfl, rfl, HA, HK1, HO_10, BK504, HB⟩ := hrel
   cases gk with
   | zero => exact absurd HA.out (by simp [spileref51_Greatest.l0])
   | succ k1 =>
    have H := HA.out
    clear HA
    simp only [spileref51_Greatest.l0] at H
    by_cases c9 : x12_1 < (l1.length : Int)
    ·rw [if_pos c9] at H
     have c9b0 : decide (x12_1 < (l1.length : Int)) = true := decide_eq_true c9
     clear c9
     by_cases c10 : 0 ≤ x12_1
     ·rw [if_pos c10] at H
      have c10b0 : decide (0 ≤ x12_1) = true := decide_eq_true c10
      clear c10
      replace H := Option.bind_eq_some_iff.mp H
      obtain ⟨⟨t507, t508⟩, A110, H⟩ := H
      replace H : (if x10_1.length < 17592186044416 then (spileref51_Greatest.l0 k1 l1 a2 (x10_1 ++ [t507]) (wrap64 (x11_1 + t507)) (wrap64 (x12_1 + 1)) a0_0 l0_1) else (none)) = some (r1, r2, r3) := H
      have A11 := Aside0.mk A110
      clear A110
      by_cases c12 : x10_1.length < 17592186044416
      ·rw [if_pos c12] at H
       have LMc12 := Aside0.mk c12
       clear c12
       obtain ⟨y509, hy509⟩ : ∃ y_ : List Int, y_ = (x10_1 ++ [t507]) := ⟨_, rfl⟩
       replace H : (spileref51_Greatest.l0 k1 l1 a2 y509 (wrap64 (x11_1 + t507)) (wrap64 (x12_1 + 1)) a0_0 l0_1) = some (r1, r2, r3) := by first | (rw [hy509]; with_reducible exact H) | (have H2_ := (Option.bind_some _ _).symm.trans H; rw [hy509]; with_reducible exact H2_) | (have H2_ := (Option.bind_some _ _).symm.trans H; with_reducible exact H2_) | with_reducible exact H | (rw [hy509]; exact H) | exact H
       have Ny509 := Aside0.mk hy509
       clear hy509
       have H' := Aside0.mk H
       clear H
       try go_wp2
       have n0_ := Aside0.mk (Kd.R_drew HO_10.out)
       have n1_ := Aside0.mk (bqD BK504.out)
       have n2_ := Aside0.mk (lqD HB.out)
       clear HO_10
       clear BK504
       clear HB
       have HO_10 := n0_
       have BK504 := n1_
       have HB := n2_
       clear n0_ n1_ n2_
       have p506 : 0 ≤ (x12_1 : Int) := of_decide_eq_true (by first | (with_reducible assumption) | assumption)
       have q506 : x12_1 < (l1.length : Int) := of_decide_eq_true (by first | (with_reducible assumption) | assumption)
       obtain ⟨ad506, e506, hx506_0, hx506_1, hx506_2, hx506_3, hx506_4⟩ := at_T35 HR1.out x12_1 p506 q506
       have hw506_4 := hx506_4
       have hw506_3 := hx506_3
       have hw506_2 := hx506_2
       have hw506_1 := hx506_1
       have hw506_0 := hx506_0
       cases e506
       replace hx506_0 := (HB.out.cell (World.block_lt_of_cell? w _ hx506_0)).trans hx506_0
       replace hx506_1 := (HB.out.cell (World.block_lt_of_cell? w _ hx506_1)).trans hx506_1
       replace hx506_2 := (HB.out.cell (World.block_lt_of_cell? w _ hx506_2)).trans hx506_2
       replace hx506_3 := (HB.out.cell (World.block_lt_of_cell? w _ hx506_3)).trans hx506_3
       replace hx506_4 := (HB.out.cell (World.block_lt_of_cell? w _ hx506_4)).trans hx506_4
       replace p506 := eq_true p506
       replace q506 := eq_true q506
       refine start_ (n := 12) (S := fun w' => w'.cell? ⟨gb504, 0, none⟩ = some (.int .i64 a0_0) ∧ w'.cell? ⟨gb504, 1, none⟩ = some (.slice A0_1 l0_1.length c0_1) ∧ w'.cell? (ad506.add ((x12_1).toNat * 5)) = some (.int .i64 ((rd_T35 l1 x12_1).f0)) ∧ w'.cell? ⟨(ad506.add ((x12_1).toNat * 5)).block, (ad506.add ((x12_1).toNat * 5)).off + 1, none⟩ = some (.int .i64 ((rd_T35 l1 x12_1).f1)) ∧ w'.cell? ⟨(ad506.add ((x12_1).toNat * 5)).block, (ad506.add ((x12_1).toNat * 5)).off + 2, none⟩ = some (.int .i64 ((rd_T35 l1 x12_1).f2)) ∧ w'.cell? ⟨(ad506.add ((x12_1).toNat * 5)).block, (ad506.add ((x12_1).toNat * 5)).off + 3, none⟩ = some (.int .i64 ((rd_T35 l1 x12_1).f3)) ∧ w'.cell? ⟨(ad506.add ((x12_1).toNat * 5)).block, (ad506.add ((x12_1).toNat * 5)).off + 4, none⟩ = some (.int .i64 ((rd_T35 l1 x12_1).f4))) (ds := []) #[false, false, false, false, false, false, false, false, false, false, false, false] (by kernel_rfl) rfl rfl ⟨(bqC BK504.out 0).trans rfl, (bqC BK504.out 1).trans rfl, ((HB.out.cell (World.block_lt_of_cell? w _ hw506_0)).trans hw506_0), ((HB.out.cell (World.block_lt_of_cell? w _ hw506_1)).trans hw506_1), ((HB.out.cell (World.block_lt_of_cell? w _ hw506_2)).trans hw506_2), ((HB.out.cell (World.block_lt_of_cell? w _ hw506_3)).trans hw506_3), ((HB.out.cell (World.block_lt_of_cell? w _ hw506_4)).trans hw506_4)⟩ (fun hHeld => ?_); refine with_tabW spileref51_Greatest.tab9 spileref51_Greatest.bits9 (fun HT_ HW_ => ?_)
       generalize wr.drew = w13 at HO_10 BK504 HB hx506_0 hx506_1 hx506_2 hx506_3 hx506_4 hHeld ⊢
       refine GS.pu 1 (some 30) HT_.out ?_
       refine GS.pu 2 (some 31) HT_.out ?_
       refine GS.pu 3 (some 32) HT_.out ?_
       refine GS.pu 5 (some 34) HT_.out ?_
       refine GS.tk 0 (some 29) HT_.out HW_.out hHeld ?_
       refine GS.tk 4 (some 33) HT_.out HW_.out hHeld ?_
       refine one_ (i := 6) (N := some 35) #[true, true, true, true, true, true, true, false, false, false, false, false] rfl rfl (one_of HT_.out (by kernel_rfl)) (by decide) (fun K hK => ?_)
       refine goes_ Try.func34 (by kernel_rfl) rfl #[.agg #[.int .i64 a0_0, .slice A0_1 l0_1.length c0_1], .agg #[.int .i64 ((rd_T35 l1 x12_1).f0), .int .i64 ((rd_T35 l1 x12_1).f1), .int .i64 ((rd_T35 l1 x12_1).f2), .int .i64 ((rd_T35 l1 x12_1).f3), .int .i64 ((rd_T35 l1 x12_1).f4)], .int .i64 a2] (by rfl) rfl rfl (by (try simp only [List.map_toArray, List.map_cons, List.map_nil]); first | done | rfl | (simp only [List.length_drop, List.length_take]; rfl)) ?_
       with_reducible refine (spileref51_most.calls k1 a0_0 _ _ l0_1 ((rd_T35 l1 x12_1).f0) ((rd_T35 l1 x12_1).f1) ((rd_T35 l1 x12_1).f2) ((rd_T35 l1 x12_1).f3) ((rd_T35 l1 x12_1).f4) a2 t507 t508 _ ?side1 ?side2 A11.out).mono ?_
       (case side1 => exact GS.rC (Kd.C_below HR0_1.out HB.out))
       (case side2 => exact HC0_1.out)
       rintro e w14 ⟨rfl, hb⟩
       refine ⟨_, rfl, ?_⟩
       have n0_ := Aside0.mk (Kd.R_below (GS.rR HO_10.out) hb)
       have n1_ := Aside0.mk (bqB (GS.bqX BK504.out) hb)
       have n2_ := Aside0.mk (lqT (GS.lB HB.out) hb)
       clear HO_10
       clear BK504
       clear HB
       have HO_10 := n0_
       have BK504 := n1_
       have HB := n2_
       clear n0_ n1_ n2_
       (try clear hb)
       (try clear hb2)
       (try clear hk)
       (try clear hi)
       refine hK.out _ _ ⟨(bqC BK504.out 0).trans rfl, (bqC BK504.out 1).trans rfl, ((HB.out.cell (World.block_lt_of_cell? w _ hw506_0)).trans hw506_0), ((HB.out.cell (World.block_lt_of_cell? w _ hw506_1)).trans hw506_1), ((HB.out.cell (World.block_lt_of_cell? w _ hw506_2)).trans hw506_2), ((HB.out.cell (World.block_lt_of_cell? w _ hw506_3)).trans hw506_3), ((HB.out.cell (World.block_lt_of_cell? w _ hw506_4)).trans hw506_4)⟩ (fun hHeld => ?_)
       clear hK K
       refine norm_ (a' := ?_) ?_ ?_
       rotate_left
       ·show Act.put _ (some 35) _ = _
        simp only [Act.put, List.setIfInBounds_toArray, List.set_cons_zero, List.set_cons_succ, i64_w, i32_w]
        rfl
       refine GS.pu 7 (some 28) HT_.out ?_
       refine GS.pu 8 (some 36) HT_.out ?_
       refine GS.pu 9 (some 37) HT_.out ?_
       refine GS.pu 10 (some 13) HT_.out ?_
       refine GS.pu 11 (some 14) HT_.out ?_
       refine done_ (done_of HT_.out (by kernel_rfl)) ?_
       try go_wp2_with (first | ((with_reducible refine gate_builtin (b := .append) (xs := #[.tmp 38, .tmp 40]) rfl ?_); at_builtin; refine Kd.R_append (Kd.int .i64) (w0 := w) w.heap.size rfl (.tmp 38) (.tmp 40) 28 3 (.int .i64 0) 8 rfl Try.underlying28 info3 rfl (by decide) (by omega) u10 x10_1 t507 [.int .i64 t507] (fun _ => True) (fun _ => False) rfl rfl ?aP (fun _ hk => hk.elim) ?aF ?aO ?aB ?aS ?aL ?_; (case aP => exact rfl); (case aB => exact (GS.lB HB.out)); (case aF => exact (fun _ _ => trivial)); (case aO => exact (GS.rR HO_10.out)); (case aS => exact (lqZ (GS.lB HB.out))); (case aL => have := LMc12.out; omega); intro v510 w15 ho hb hg hat; rw [← Ny509.out] at ho; have n0_ := Aside0.mk (blk_grown (GS.bqX BK504.out) hg (Kd.R_ne HO_10.out BK504.out (by decide))); have n1_ := Aside0.mk (hb); have n2_ := Aside0.mk (ho); clear BK504; clear HB; clear HO_10; have BK504 := n0_; have HB := n1_; have HO511 := n2_; clear n0_ n1_ n2_; clear ho hb hg hat))
       go_roundg k1
       case measure => have := HK1.out; omega
       case rel => exact ⟨(y509), (wrap64 (x11_1 + t507)), (wrap64 (x12_1 + 1)), (by first | rfl | (simp; done) | (simp [*]; done)), (by first | rfl | (simp; done) | (simp [*]; done)), H', ⟨by have := HK1.out; omega⟩, ⟨by (with_reducible repeat (first | apply Kd.R_alloc | apply Kd.R_drewN | apply Kd.R_drew)); exact HO511.out⟩, ⟨GS.bqX BK504.out⟩, ⟨GS.lB HB.out⟩⟩
      ·rw [if_neg c12] at H
       exact absurd H (by simp)
     ·rw [if_neg c10] at H
      exact absurd H (by simp)
    ·rw [if_neg c9] at H
     have c9b0 : decide (x12_1 < (l1.length : Int)) = false := decide_eq_false c9
     clear c9
     simp only [Option.some.injEq, Prod.mk.injEq] at H
     obtain ⟨rfl, rfl, rfl⟩ := H
     go_wp2
     go_ret3
     exact ⟨_, by first | rfl | (simp [errW_none, errW_some] <;> rfl) | (simp [*, errW_none, errW_some] <;> rfl), by (with_reducible repeat (first | apply Kd.R_alloc | apply Kd.R_drewN | apply Kd.R_drew)); exact HO_10.out, GS.lB HB.out⟩
 ·rw [if_neg c5] at H
  have c5b0 : (t505 == 0) = false := beq_eq_false_iff_ne.mpr c5
  try simp only [beq_self_eq_true, Bool.not_true, Bool.false_or, Bool.true_and] at c5b0
  have c5b1 : (t505 != 0) = true := bne_iff_ne.mpr c5
  simp only [Option.some.injEq, Prod.mk.injEq] at H
  obtain ⟨rfl, rfl, rfl⟩ := H
  go_enter Try.func14, Try.ntmps14
  go_wp2_with (first | ((with_reducible refine gqD (N := 3) rfl ?_); refine GS.bx (N := 3) (cs := #[.int .i64 a0_0, .slice A0_1 l0_1.length c0_1]) (t := 24) ?_; intro gb504 hg w16 hbox hb; have n0_ := Aside0.mk (lqT (GS.lB HB.out) hb); have n1_ := Aside0.mk (hbox); have n2_ := Aside0.mk ((by rw [hg]; exact (lqZ (GS.lB HB.out)) : w.heap.size ≤ gb504)); have n3_ := Aside0.mk ((by rw [hg]; exact (lqZ (GS.lB HB.out)) : w.heap.size ≤ gb504)); clear HB; have HB := n0_; have BK504 := n1_; have GW504 := n2_; have GE504 := n3_; clear n0_ n1_ n2_ n3_; clear hb hbox hg; obtain ⟨hcz17_0, hcz17_1, hfz17_0, hfz17_1⟩ := GS.c2 BK504.out) | ((with_reducible refine gqC (f := 33) rfl ?_); refine GS.gL (some 18) Try.func33 #[.agg #[.int .i64 a0_0, .slice A0_1 l0_1.length c0_1], .slice A1 l1.length c1, .int .i64 a2] ?_; (with_reducible refine (spileref51_asked.calls k a0_0 _ _ l0_1 _ _ l1 a2 t505 _ ?side1 ?side2 ?side3 ?side4 A4.out).mono ?_); (case side1 => exact GS.rC (Kd.C_below HR0_1.out HB.out)); (case side2 => exact HC0_1.out); (case side3 => exact GS.rC (Kd.C_below HR1.out HB.out)); (case side4 => exact HC1.out); rintro e w18 ⟨rfl, hb⟩; refine ⟨_, rfl, ?_⟩; have n0_ := Aside0.mk (bqB (GS.bqX BK504.out) hb); have n1_ := Aside0.mk (lqT (GS.lB HB.out) hb); clear BK504; clear HB; have BK504 := n0_; have HB := n1_; clear n0_ n1_; (try clear hb); (try clear hb2); (try clear hk); (try clear hi)))
  go_ret3
  exact ⟨_, by first | rfl | (simp [errW_none, errW_some] <;> rfl) | (simp [*, errW_none, errW_some] <;> rfl), by first | exact Kd.R_nil _ _ _ _ _ | exact Kd.N_nil _ _ _ _ _ | exact Kd.V_nil _ _ _ _ _ | exact Kd.Q_nil _ _ _ _ _ | exact Kd.S_nil _ _ _ _ _, GS.lB HB.out⟩

-- NOT PRINTED: function 16 (spileref51_Bonds)

-- NOT PRINTED: function 3 (spilelaw51_LiabilitySums)

/-! ### spileref51_later: function 39 -/
def spileref51_later.l0 : Nat → List (S35) → Int → Int → Option (Bool)
 | 0, _, _, _ => none
 | k + 1, x0, x1, x5 => if x5 < (x0.length : Int) then (if 0 ≤ x5 then (if ((rd_T35 x0 x5).f3) > x1 then (some true) else (spileref51_later.l0 k x0 x1 (wrap64 (x5 + 1)))) else (none)) else (some false)
def spileref51_later.f (k : Nat) (l0 : List (S35)) (a1 : Int) : Option (Bool) := spileref51_later.l0 k l0 a1 0
theorem spileref51_later.mono_l : ∀ k, (∀ y0 y1 y2, LeO (spileref51_later.l0 k y0 y1 y2) (spileref51_later.l0 (k + 1) y0 y1 y2))
 | 0 => fun _ _ _ r h => by simp [spileref51_later.l0] at h
 | k + 1 => by
  have ih0 := spileref51_later.mono_l k
  ·intro y0 y1 y2
   unfold spileref51_later.l0
   repeat' first
   | (with_reducible exact ih0 _ _ _)
   | (with_reducible exact LeO.refl _)
   | (with_reducible exact LeO.none _)
   | (with_reducible refine LeO.ite ?_ ?_)
   | (with_reducible refine LeO.bind ?_ (fun _ => ?_))
   | exact ih0 _ _ _
   | exact LeO.none _
   | refine LeO.ite ?_ ?_
   | refine LeO.bind ?_ (fun _ => ?_)
theorem spileref51_later.mono : ∀ a0 a1 k, LeO (spileref51_later.f k a0 a1) (spileref51_later.f (k + 1) a0 a1) := by
 intro a0 a1 k
 have ih0 := spileref51_later.mono_l k
 unfold spileref51_later.f
 repeat' first
   | (with_reducible exact ih0 _ _ _)
   | (with_reducible exact LeO.refl _)
   | (with_reducible exact LeO.none _)
   | (with_reducible refine LeO.ite ?_ ?_)
   | (with_reducible refine LeO.bind ?_ (fun _ => ?_))
   | exact ih0 _ _ _
   | exact LeO.none _
   | refine LeO.ite ?_ ?_
   | refine LeO.bind ?_ (fun _ => ?_)
set_option maxHeartbeats 8000000 in
set_option maxRecDepth 100000 in
theorem spileref51_later.calls (k : Nat) (A0 : Option Addr) (c0 : Nat) (l0 : List (S35)) (a1 : Int) (r : Bool) (w : World) (hr0 : Kd.C k35 w A0 l0.length l0) (hc0 : l0.length ≤ c0) (h : spileref51_later.f k l0 a1 = some r) :
  Calls Try.prog 39 #[.slice A0 l0.length c0, .int .i64 a1] w fun e w' => e = .returned (.bool r) ∧ Drawn0 w w' := by
 have HR0 := Aside0.mk hr0
 have HC0 := Aside0.mk hc0
 clear hr0 hc0
 have H : (spileref51_later.l0 k l0 a1 0) = some r := h
 clear h
 have H' := Aside0.mk H
 clear H
 go_enter Try.func39, Try.ntmps39
 go_wp2
 go_loopg [5] k (fun kq v5 w' => ∃ (x5_1 : Int), v5 = .int .i64 x5_1 ∧ Aside0 (spileref51_later.l0 kq l0 a1 x5_1 = some r) ∧ Aside0 (kq ≤ k) ∧ Drawn0 w w')
 case atStart => exact ⟨(0), (by first | rfl | (simp; done) | (simp [*]; done)), H', ⟨Nat.le_refl _⟩, by repeat (first | exact Drawn0.refl _ | apply Drawn0.step)⟩
 case round =>
  clear H'
  try clear p2
  obtain ⟨x5_1, rfl, HA, HK1, ⟨m1, rfl⟩⟩ := hrel
  cases gk with
  | zero => exact absurd HA.out (by simp [spileref51_later.l0])
  | succ k1 =>
   have H := HA.out
   clear HA
   simp only [spileref51_later.l0] at H
   by_cases c3 : x5_1 < (l0.length : Int)
   ·rw [if_pos c3] at H
    have c3b0 : decide (x5_1 < (l0.length : Int)) = true := decide_eq_true c3
    clear c3
    by_cases c4 : 0 ≤ x5_1
    ·rw [if_pos c4] at H
     have c4b0 : decide (0 ≤ x5_1) = true := decide_eq_true c4
     clear c4
     by_cases c5 : ((rd_T35 l0 x5_1).f3) > a1
     ·rw [if_pos c5] at H
      have c5b0 : decide (a1 < ((rd_T35 l0 x5_1).f3)) = true := decide_eq_true c5
      clear c5
      obtain rfl := Option.some.inj H
      have p566 : 0 ≤ (x5_1 : Int) := of_decide_eq_true (by first | (with_reducible assumption) | assumption)
      have q566 : x5_1 < (l0.length : Int) := of_decide_eq_true (by first | (with_reducible assumption) | assumption)
      obtain ⟨ad566, e566, hx566_0, hx566_1, hx566_2, hx566_3, hx566_4⟩ := at_T35 HR0.out x5_1 p566 q566
      cases e566
      replace p566 := eq_true p566
      replace q566 := eq_true q566
      go_wp2
      go_ret
      exact ⟨by first | rfl | (simp; done) | (simp [*]; done), by repeat (first | exact Drawn0.refl _ | apply Drawn0.step)⟩
     ·rw [if_neg c5] at H
      have c5b0 : decide (a1 < ((rd_T35 l0 x5_1).f3)) = false := decide_eq_false c5
      clear c5
      have H' := Aside0.mk H
      clear H
      have p566 : 0 ≤ (x5_1 : Int) := of_decide_eq_true (by first | (with_reducible assumption) | assumption)
      have q566 : x5_1 < (l0.length : Int) := of_decide_eq_true (by first | (with_reducible assumption) | assumption)
      obtain ⟨ad566, e566, hx566_0, hx566_1, hx566_2, hx566_3, hx566_4⟩ := at_T35 HR0.out x5_1 p566 q566
      cases e566
      replace p566 := eq_true p566
      replace q566 := eq_true q566
      go_wp2
      go_roundg k1
      case measure => have := HK1.out; omega
      case rel => exact ⟨(wrap64 (x5_1 + 1)), (by first | rfl | (simp; done) | (simp [*]; done)), H', ⟨by have := HK1.out; omega⟩, by repeat (first | exact Drawn0.refl _ | apply Drawn0.step)⟩
    ·rw [if_neg c4] at H
     exact absurd H (by simp)
   ·rw [if_neg c3] at H
    have c3b0 : decide (x5_1 < (l0.length : Int)) = false := decide_eq_false c3
    clear c3
    obtain rfl := Option.some.inj H
    go_wp2
    go_ret
    exact ⟨by first | rfl | (simp; done) | (simp [*]; done), by repeat (first | exact Drawn0.refl _ | apply Drawn0.step)⟩

end Go.Proofs.Ythboaobgipodiaa.K
