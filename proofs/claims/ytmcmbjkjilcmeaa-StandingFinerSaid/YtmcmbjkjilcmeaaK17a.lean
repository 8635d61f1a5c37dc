-- PRINTED by print.py (a twelfth state) out of the translation. Not trusted: Lean checks it.
import Derived.Test.YtmcmbjkjilcmeaaK0
import Derived.Test.YtmcmbjkjilcmeaaGShort
import Derived.Test.YtmcmbjkjilcmeaaGSym
import Derived.Test.YtmcmbjkjilcmeaaK16
namespace Go.Proofs.Ytmcmbjkjilcmeaa.K
open Go.RowKit Go.Proofs.YtmcmbjkjilcmeaaW.PrintWords Go.Proofs.YtmcmbjkjilcmeaaW.PrintLast Go.Proofs.YtmcmbjkjilcmeaaW.PrintMore
attribute [local go_sem] max2_int min2_int max_two min_two max_three min_three max_four min_four   -- for this text's walks alone
set_option linter.unusedVariables false
set_option linter.unusedSimpArgs false

/-! ### spileref12_next: function 58 -/
mutual
def spileref12_next.l0 : Nat → List (S33) → Int → Int → Int → Int → Int → Option (Int)
 | 0, _, _, _, _, _, _ => none
 | k + 1, x0, x1, x2, x3, x9, x10 => if x10 ≤ x2 then (if x2 = 0 then (none) else (if (wrap64 (Int.tdiv (wrap64 (x10 * x1)) x2)) > x3 then (if (wrap64 (Int.tdiv (wrap64 (x10 * x1)) x2)) < x9 then (spileref12_next.l0 k x0 x1 x2 x3 (wrap64 (Int.tdiv (wrap64 (x10 * x1)) x2)) (wrap64 (x10 + 1))) else (spileref12_next.l0 k x0 x1 x2 x3 x9 (wrap64 (x10 + 1)))) else (spileref12_next.l0 k x0 x1 x2 x3 x9 (wrap64 (x10 + 1))))) else (spileref12_next.l1 k x0 x3 x9 0)
def spileref12_next.l1 : Nat → List (S33) → Int → Int → Int → Option (Int)
 | 0, _, _, _, _ => none
 | k + 1, x0, x3, x9, x12 => if x12 < (x0.length : Int) then (if 0 ≤ x12 then (if ((rd_T33 x0 x12).f0) > x3 then (if ((rd_T33 x0 x12).f0) < x9 then (spileref12_next.l1 k x0 x3 ((rd_T33 x0 x12).f0) (wrap64 (x12 + 1))) else (spileref12_next.l1 k x0 x3 x9 (wrap64 (x12 + 1)))) else (spileref12_next.l1 k x0 x3 x9 (wrap64 (x12 + 1)))) else (none)) else (some x9)
end
def spileref12_next.f (k : Nat) (l0 : List (S33)) (a1 : Int) (a2 : Int) (a3 : Int) : Option (Int) := spileref12_next.l0 k l0 a1 a2 a3 a1 0
theorem spileref12_next.mono_l : ∀ k, (∀ y0 y1 y2 y3 y4 y5, LeO (spileref12_next.l0 k y0 y1 y2 y3 y4 y5) (spileref12_next.l0 (k + 1) y0 y1 y2 y3 y4 y5)) ∧ (∀ y0 y1 y2 y3, LeO (spileref12_next.l1 k y0 y1 y2 y3) (spileref12_next.l1 (k + 1) y0 y1 y2 y3))
 | 0 => ⟨fun _ _ _ _ _ _ r h => by simp [spileref12_next.l0] at h, fun _ _ _ _ r h => by simp [spileref12_next.l1] at h⟩
 | k + 1 => by
  obtain ⟨ih0, ih1⟩ := spileref12_next.mono_l k
  refine ⟨?_, ?_⟩
  ·intro y0 y1 y2 y3 y4 y5
   unfold spileref12_next.l0
   repeat' first
   | (with_reducible exact ih0 _ _ _ _ _ _)
   | (with_reducible exact ih1 _ _ _ _)
   | (with_reducible exact LeO.refl _)
   | (with_reducible exact LeO.none _)
   | (with_reducible refine LeO.ite ?_ ?_)
   | (with_reducible refine LeO.bind ?_ (fun _ => ?_))
   | exact ih0 _ _ _ _ _ _
   | exact ih1 _ _ _ _
   | exact LeO.none _
   | refine LeO.ite ?_ ?_
   | refine LeO.bind ?_ (fun _ => ?_)
  ·intro y0 y1 y2 y3
   unfold spileref12_next.l1
   repeat' first
   | (with_reducible exact ih0 _ _ _ _ _ _)
   | (with_reducible exact ih1 _ _ _ _)
   | (with_reducible exact LeO.refl _)
   | (with_reducible exact LeO.none _)
   | (with_reducible refine LeO.ite ?_ ?_)
   | (with_reducible refine LeO.bind ?_ (fun _ => ?_))
   | exact ih0 _ _ _ _ _ _
   | exact ih1 _ _ _ _
   | exact LeO.none _
   | refine LeO.ite ?_ ?_
   | refine LeO.bind ?_ (fun _ => ?_)
theorem spileref12_next.mono : ∀ a0 a1 a2 a3 k, LeO (spileref12_next.f k a0 a1 a2 a3) (spileref12_next.f (k + 1) a0 a1 a2 a3) := by
 intro a0 a1 a2 a3 k
 obtain ⟨ih0, ih1⟩ := spileref12_next.mono_l k
 unfold spileref12_next.f
 repeat' first
   | (with_reducible exact ih0 _ _ _ _ _ _)
   | (with_reducible exact ih1 _ _ _ _)
   | (with_reducible exact LeO.refl _)
   | (with_reducible exact LeO.none _)
   | (with_reducible refine LeO.ite ?_ ?_)
   | (with_reducible refine LeO.bind ?_ (fun _ => ?_))
   | exact ih0 _ _ _ _ _ _
   | exact ih1 _ _ _ _
   | exact LeO.none _
   | refine LeO.ite ?_ ?_
   | refine LeO.bind ?_ (fun _ => ?_)
set_option maxHeartbeats 8000000 in
set_option maxRecDepth 100000 in
theorem spileref12_next.calls (k : Nat) (A0 : Option Addr) (c0 : Nat) (l0 : List (S33)) (a1 : Int) (a2 : Int) (a3 : Int) (r : Int) (w : World) (hr0 : Kd.C k33 w A0 l0.length l0) (hc0 : l0.length ≤ c0) (h : spileref12_next.f k l0 a1 a2 a3 = some r) :
  Calls Try.prog 58 #[.slice A0 l0.length c0, .int .i64 a1, .int .i64 a2, .int .i64 a3] w fun e w' => e = .returned (.int .i64 r) ∧ Drawn0 w w' := by
 have HR0 := Aside0.mk hr0
 have HC0 := Aside0.mk hc0
 clear hr0 hc0
 have H : (spileref12_next.l0 k l0 a1 a2 a3 a1 0) = some r := h
 clear h
 have H' := Aside0.mk H
 clear H
 go_enter Try.func58, Try.ntmps58
 go_wp2
 go_loopg [9, 10] k (fun kq v9 v10 w' => ∃ (x9_1 : Int) (x10_1 : Int), v9 = .int .i64 x9_1 ∧ v10 = .int .i64 x10_1 ∧ Aside0 (spileref12_next.l0 kq l0 a1 a2 a3 x9_1 x10_1 = some r) ∧ Aside0 (kq ≤ k) ∧ Drawn0 w w')
 case atStart => exact ⟨(a1), (0), (by first | rfl | (simp; done) | (simp [*]; done)), (by first | rfl | (simp; done) | (simp [*]; done)), H', ⟨Nat.le_refl _⟩, by repeat (first | exact Drawn0.refl _ | apply Drawn0.step)⟩
 case round =>
  clear H'
  try clear p2
  obtain ⟨x9_1, x10_1, rfl, rfl, HA, HK1, ⟨m1, rfl⟩⟩ := hrel
  cases gk with
  | zero => exact absurd HA.out (by simp [spileref12_next.l0])
  | succ k1 =>
   have H := HA.out
   clear HA
   simp only [spileref12_next.l0] at H
   by_cases c5 : x10_1 ≤ a2
   ·rw [if_pos c5] at H
    have c5b0 : decide (x10_1 ≤ a2) = true := decide_eq_true c5
    clear c5
    by_cases c6 : a2 = 0
    ·rw [if_pos c6] at H
     exact absurd H (by simp)
    ·rw [if_neg c6] at H
     have c6b0 : (a2 == 0) = false := beq_eq_false_iff_ne.mpr c6
     try simp only [beq_self_eq_true, Bool.not_true, Bool.false_or, Bool.true_and] at c6b0
     have c6b1 : (a2 != 0) = true := bne_iff_ne.mpr c6
     by_cases c7 : (wrap64 (Int.tdiv (wrap64 (x10_1 * a1)) a2)) > a3
     ·rw [if_pos c7] at H
      have c7b0 : decide (a3 < (wrap64 (Int.tdiv (wrap64 (x10_1 * a1)) a2))) = true := decide_eq_true c7
      clear c7
      by_cases c8 : (wrap64 (Int.tdiv (wrap64 (x10_1 * a1)) a2)) < x9_1
      ·rw [if_pos c8] at H
       have c8b0 : decide ((wrap64 (Int.tdiv (wrap64 (x10_1 * a1)) a2)) < x9_1) = true := decide_eq_true c8
       clear c8
       have H' := Aside0.mk H
       clear H
       go_wp2
       go_roundg k1
       case measure => have := HK1.out; omega
       case rel => exact ⟨(wrap64 (Int.tdiv (wrap64 (x10_1 * a1)) a2)), (wrap64 (x10_1 + 1)), (by first | rfl | (simp; done) | (simp [*]; done)), (by first | rfl | (simp; done) | (simp [*]; done)), H', ⟨by have := HK1.out; omega⟩, by repeat (first | exact Drawn0.refl _ | apply Drawn0.step)⟩
      ·rw [if_neg c8] at H
       have c8b0 : decide ((wrap64 (Int.tdiv (wrap64 (x10_1 * a1)) a2)) < x9_1) = false := decide_eq_false c8
       clear c8
       have H' := Aside0.mk H
       clear H
       go_wp2
       go_roundg k1
       case measure => have := HK1.out; omega
       case rel => exact ⟨(x9_1), (wrap64 (x10_1 + 1)), (by first | rfl | (simp; done) | (simp [*]; done)), (by first | rfl | (simp; done) | (simp [*]; done)), H', ⟨by have := HK1.out; omega⟩, by repeat (first | exact Drawn0.refl _ | apply Drawn0.step)⟩
     ·rw [if_neg c7] at H
      have c7b0 : decide (a3 < (wrap64 (Int.tdiv (wrap64 (x10_1 * a1)) a2))) = false := decide_eq_false c7
      clear c7
      have H' := Aside0.mk H
      clear H
      go_wp2
      go_roundg k1
      case measure => have := HK1.out; omega
      case rel => exact ⟨(x9_1), (wrap64 (x10_1 + 1)), (by first | rfl | (simp; done) | (simp [*]; done)), (by first | rfl | (simp; done) | (simp [*]; done)), H', ⟨by have := HK1.out; omega⟩, by repeat (first | exact Drawn0.refl _ | apply Drawn0.step)⟩
   ·rw [if_neg c5] at H
    have c5b0 : decide (x10_1 ≤ a2) = false := decide_eq_false c5
    clear c5
    have H' := Aside0.mk H
    clear H
    go_wp2
    go_loopg [9, 12] k1 (fun kq v9 v12 w' => ∃ (x9_2 : Int) (x12_2 : Int), v9 = .int .i64 x9_2 ∧ v12 = .int .i64 x12_2 ∧ Aside0 (spileref12_next.l1 kq l0 a3 x9_2 x12_2 = some r) ∧ Aside0 (kq ≤ k1) ∧ Drawn0 w w')
    case atStart => exact ⟨(x9_1), (0), (by first | rfl | (simp; done) | (simp [*]; done)), (by first | rfl | (simp; done) | (simp [*]; done)), H', ⟨Nat.le_refl _⟩, by repeat (first | exact Drawn0.refl _ | apply Drawn0.step)⟩
    case round =>
     clear H'
     try clear p2
     try clear c5
     try clear c5b0
     try clear c6
     try clear c6b0
     try clear c6b1
     try clear p6
     try clear c7
     try clear c7b0
     try clear c8
     try clear c8b0
     try clear p2
     obtain ⟨x9_2, x12_2, rfl, rfl, HA, HK2, ⟨m2, rfl⟩⟩ := hrel
     cases gk with
     | zero => exact absurd HA.out (by simp [spileref12_next.l1])
     | succ k2 =>
      have H := HA.out
      clear HA
      simp only [spileref12_next.l1] at H
      by_cases c9 : x12_2 < (l0.length : Int)
      ·rw [if_pos c9] at H
       have c9b0 : decide (x12_2 < (l0.length : Int)) = true := decide_eq_true c9
       clear c9
       by_cases c10 : 0 ≤ x12_2
       ·rw [if_pos c10] at H
        have c10b0 : decide (0 ≤ x12_2) = true := decide_eq_true c10
        clear c10
        by_cases c11 : ((rd_T33 l0 x12_2).f0) > a3
        ·rw [if_pos c11] at H
         have c11b0 : decide (a3 < ((rd_T33 l0 x12_2).f0)) = true := decide_eq_true c11
         clear c11
         by_cases c12 : ((rd_T33 l0 x12_2).f0) < x9_2
         ·rw [if_pos c12] at H
          have c12b0 : decide (((rd_T33 l0 x12_2).f0) < x9_2) = true := decide_eq_true c12
          clear c12
          have H' := Aside0.mk H
          clear H
          have p355 : 0 ≤ (x12_2 : Int) := of_decide_eq_true (by first | (with_reducible assumption) | assumption)
          have q355 : x12_2 < (l0.length : Int) := of_decide_eq_true (by first | (with_reducible assumption) | assumption)
          obtain ⟨ad355, e355, hx355_0, hx355_1⟩ := at_T33 HR0.out x12_2 p355 q355
          cases e355
          replace p355 := eq_true p355
          replace q355 := eq_true q355
          have p356 : 0 ≤ (x12_2 : Int) := of_decide_eq_true (by first | (with_reducible assumption) | assumption)
          have q356 : x12_2 < (l0.length : Int) := of_decide_eq_true (by first | (with_reducible assumption) | assumption)
          obtain ⟨ad356, e356, hx356_0, hx356_1⟩ := at_T33 HR0.out x12_2 p356 q356
          obtain rfl : ad355 = ad356 := (by injection e356)
          replace p356 := eq_true p356
          replace q356 := eq_true q356
          have p357 : 0 ≤ (x12_2 : Int) := of_decide_eq_true (by first | (with_reducible assumption) | assumption)
          have q357 : x12_2 < (l0.length : Int) := of_decide_eq_true (by first | (with_reducible assumption) | assumption)
          obtain ⟨ad357, e357, hx357_0, hx357_1⟩ := at_T33 HR0.out x12_2 p357 q357
          obtain rfl : ad355 = ad357 := (by injection e357)
          replace p357 := eq_true p357
          replace q357 := eq_true q357
          go_wp2
          go_roundg k2
          case measure => have := HK1.out; have := HK2.out; omega
          case rel => exact ⟨((rd_T33 l0 x12_2).f0), (wrap64 (x12_2 + 1)), (by first | rfl | (simp; done) | (simp [*]; done)), (by first | rfl | (simp; done) | (simp [*]; done)), H', ⟨by have := HK1.out; have := HK2.out; omega⟩, by repeat (first | exact Drawn0.refl _ | apply Drawn0.step)⟩
         ·rw [if_neg c12] at H
          have c12b0 : decide (((rd_T33 l0 x12_2).f0) < x9_2) = false := decide_eq_false c12
          clear c12
          have H' := Aside0.mk H
          clear H
          have p355 : 0 ≤ (x12_2 : Int) := of_decide_eq_true (by first | (with_reducible assumption) | assumption)
          have q355 : x12_2 < (l0.length : Int) := of_decide_eq_true (by first | (with_reducible assumption) | assumption)
          obtain ⟨ad355, e355, hx355_0, hx355_1⟩ := at_T33 HR0.out x12_2 p355 q355
          cases e355
          replace p355 := eq_true p355
          replace q355 := eq_true q355
          have p356 : 0 ≤ (x12_2 : Int) := of_decide_eq_true (by first | (with_reducible assumption) | assumption)
          have q356 : x12_2 < (l0.length : Int) := of_decide_eq_true (by first | (with_reducible assumption) | assumption)
          obtain ⟨ad356, e356, hx356_0, hx356_1⟩ := at_T33 HR0.out x12_2 p356 q356
          obtain rfl : ad355 = ad356 := (by injection e356)
          replace p356 := eq_true p356
          replace q356 := eq_true q356
          go_wp2
          go_roundg k2
          case measure => have := HK1.out; have := HK2.out; omega
          case rel => exact ⟨(x9_2), (wrap64 (x12_2 + 1)), (by first | rfl | (simp; done) | (simp [*]; done)), (by first | rfl | (simp; done) | (simp [*]; done)), H', ⟨by have := HK1.out; have := HK2.out; omega⟩, by repeat (first | exact Drawn0.refl _ | apply Drawn0.step)⟩
        ·rw [if_neg c11] at H
         have c11b0 : decide (a3 < ((rd_T33 l0 x12_2).f0)) = false := decide_eq_false c11
         clear c11
         have H' := Aside0.mk H
         clear H
         have p355 : 0 ≤ (x12_2 : Int) := of_decide_eq_true (by first | (with_reducible assumption) | assumption)
         have q355 : x12_2 < (l0.length : Int) := of_decide_eq_true (by first | (with_reducible assumption) | assumption)
         obtain ⟨ad355, e355, hx355_0, hx355_1⟩ := at_T33 HR0.out x12_2 p355 q355
         cases e355
         replace p355 := eq_true p355
         replace q355 := eq_true q355
         go_wp2
         go_roundg k2
         case measure => have := HK1.out; have := HK2.out; omega
         case rel => exact ⟨(x9_2), (wrap64 (x12_2 + 1)), (by first | rfl | (simp; done) | (simp [*]; done)), (by first | rfl | (simp; done) | (simp [*]; done)), H', ⟨by have := HK1.out; have := HK2.out; omega⟩, by repeat (first | exact Drawn0.refl _ | apply Drawn0.step)⟩
       ·rw [if_neg c10] at H
        exact absurd H (by simp)
      ·rw [if_neg c9] at H
       have c9b0 : decide (x12_2 < (l0.length : Int)) = false := decide_eq_false c9
       clear c9
       obtain rfl := Option.some.inj H
       go_wp2
       go_ret
       exact ⟨by first | rfl | (simp; done) | (simp [*]; done), by repeat (first | exact Drawn0.refl _ | apply Drawn0.step)⟩

/-! ### spileref12_Merge: function 36 -/
def spileref12_Merge.l0 : Nat → List (S33) → Int → Int → List Int → Option (List Int)
 | 0, _, _, _, _ => none
 | k + 1, x0, x1, x2, x7 => if 0 ≤ (wrap64 ((x7.length : Int) - 1)) then (if (wrap64 ((x7.length : Int) - 1)) < (x7.length : Int) then (if (rd x7 (wrap64 ((x7.length : Int) - 1))) < x1 then ((spileref12_next.f k x0 x1 x2 (rd x7 (wrap64 ((x7.length : Int) - 1)))).bind fun t363 => (if x7.length < 17592186044416 then (spileref12_Merge.l0 k x0 x1 x2 (x7 ++ [t363])) else (none))) else (some x7)) else (none)) else (none)
def spileref12_Merge.f (k : Nat) (l0 : List (S33)) (a1 : Int) (a2 : Int) : Option (List Int) := spileref12_Merge.l0 k l0 a1 a2 (([0] : List Int))
theorem spileref12_Merge.mono_l : ∀ k, (∀ y0 y1 y2 y3, LeO (spileref12_Merge.l0 k y0 y1 y2 y3) (spileref12_Merge.l0 (k + 1) y0 y1 y2 y3))
 | 0 => fun _ _ _ _ r h => by simp [spileref12_Merge.l0] at h
 | k + 1 => by
  have ih0 := spileref12_Merge.mono_l k
  ·intro y0 y1 y2 y3
   unfold spileref12_Merge.l0
   repeat' first
   | (with_reducible exact ih0 _ _ _ _)
   | (with_reducible exact spileref12_next.mono _ _ _ _ _)
   | (with_reducible exact LeO.refl _)
   | (with_reducible exact LeO.none _)
   | (with_reducible refine LeO.ite ?_ ?_)
   | (with_reducible refine LeO.bind ?_ (fun _ => ?_))
   | exact ih0 _ _ _ _
   | exact spileref12_next.mono _ _ _ _ _
   | exact LeO.none _
   | refine LeO.ite ?_ ?_
   | refine LeO.bind ?_ (fun _ => ?_)
theorem spileref12_Merge.mono : ∀ a0 a1 a2 k, LeO (spileref12_Merge.f k a0 a1 a2) (spileref12_Merge.f (k + 1) a0 a1 a2) := by
 intro a0 a1 a2 k
 have ih0 := spileref12_Merge.mono_l k
 unfold spileref12_Merge.f
 repeat' first
   | (with_reducible exact ih0 _ _ _ _)
   | (with_reducible exact spileref12_next.mono _ _ _ _ _)
   | (with_reducible exact LeO.refl _)
   | (with_reducible exact LeO.none _)
   | (with_reducible refine LeO.ite ?_ ?_)
   | (with_reducible refine LeO.bind ?_ (fun _ => ?_))
   | exact ih0 _ _ _ _
   | exact spileref12_next.mono _ _ _ _ _
   | exact LeO.none _
   | refine LeO.ite ?_ ?_
   | refine LeO.bind ?_ (fun _ => ?_)
set_option maxHeartbeats 8000000 in
set_option maxRecDepth 100000 in
theorem spileref12_Merge.calls (k : Nat) (A0 : Option Addr) (c0 : Nat) (l0 : List (S33)) (a1 : Int) (a2 : Int) (r : List Int) (w : World) (hr0 : Kd.C k33 w A0 l0.length l0) (hc0 : l0.length ≤ c0) (h : spileref12_Merge.f k l0 a1 a2 = some r) :
  Calls Try.prog 36 #[.slice A0 l0.length c0, .int .i64 a1, .int .i64 a2] w fun e w' => ∃ v0_ : Value, e = .returned (v0_) ∧ Kd.R (Kd.int .i64) 3 w' w.heap.size (fun _ => True) v0_ r ∧ Below w.heap.size w w' := by
 have HR0 := Aside0.mk hr0
 have HC0 := Aside0.mk hc0
 clear hr0 hc0
 have HB := Aside0.mk (Below.refl w.heap.size w)
 have H : (spileref12_Merge.l0 k l0 a1 a2 (([0] : List Int))) = some r := h
 clear h
 obtain ⟨y358, hy358⟩ : ∃ y_ : List Int, y_ = (([0] : List Int)) := ⟨_, rfl⟩
 replace H : (spileref12_Merge.l0 k l0 a1 a2 y358) = some r := by first | (rw [hy358]; with_reducible exact H) | (have H2_ := (Option.bind_some _ _).symm.trans H; rw [hy358]; with_reducible exact H2_) | (have H2_ := (Option.bind_some _ _).symm.trans H; with_reducible exact H2_) | with_reducible exact H | (rw [hy358]; exact H) | exact H
 have Ny358 := Aside0.mk hy358
 clear hy358
 have H' := Aside0.mk H
 clear H
 go_enter Try.func36, Try.ntmps36
 go_wp2_with (first | ((with_reducible refine gqD (N := 8) rfl ?_); refine Kd.R_lit (Kd.int .i64) _ 3 ?hg (N := 8) ?hd (xs := ([0] : List Int)) (inner := [.int .i64 0]) (ok := fun _ => True) (okp := fun _ => True) ?hr ?hp (fun _ hk => hk) trivial (Below.refl _ _) (Nat.le_refl _) (by simp) ?_; (case hd => rfl); (case hg => rfl); (case hr => first | (go_simp; done) | (go_simp; rfl)); (case hp => exact (Reps.one (show Kd.M (Kd.int .i64) _ _ _ 0 [.int .i64 0] from rfl) (Reps.none _ _))); intro v359 w4 ho5 hb hg_ hnew_; clear hg_ hnew_; (first | rw [← Ny358.out] at ho5 | (simp only [Int.reduceToNat] at ho5; rw [← Ny358.out] at ho5)); have n0_ := Aside0.mk (Kd.R_lower ho5 (lqZ (GS.lB HB.out))); have n1_ := Aside0.mk (lqT (GS.lB HB.out) hb); clear HB; have HO360 := n0_; have HB := n1_; clear n0_ n1_; clear hb ho5))
 go_loopg [7] k (fun kq v7 w' => ∃ (x7_1 : List Int), Aside0 (spileref12_Merge.l0 kq l0 a1 a2 x7_1 = some r) ∧ Aside0 (kq ≤ k) ∧ Aside0 (Kd.R (Kd.int .i64) 3 w' w.heap.size (fun _ => True) v7 x7_1) ∧ Aside0 (Below w.heap.size w w'))
 case atStart => exact ⟨(y358), H', ⟨Nat.le_refl _⟩, ⟨by (with_reducible repeat (first | apply Kd.R_alloc | apply Kd.R_drewN | apply Kd.R_drew)); exact HO360.out⟩, ⟨GS.lB HB.out⟩⟩
 case round =>
  clear H'
  try clear p2
  try clear c3
  obtain ⟨x7_1, HA, HK1, HO_7, HB⟩ := hrel
  cases gk with
  | zero => exact absurd HA.out (by simp [spileref12_Merge.l0])
  | succ k1 =>
   have H := HA.out
   clear HA
   simp only [spileref12_Merge.l0] at H
   obtain ⟨ji6, hji6⟩ : ∃ j_ : Int, (wrap64 ((x7_1.length : Int) - 1)) = j_ := ⟨_, rfl⟩
   replace H : (if 0 ≤ (ji6) then (if (ji6) < (x7_1.length : Int) then (if (rd x7_1 (ji6)) < a1 then ((spileref12_next.f k1 l0 a1 a2 (rd x7_1 (ji6))).bind fun t363 => (if x7_1.length < 17592186044416 then (spileref12_Merge.l0 k1 l0 a1 a2 (x7_1 ++ [t363])) else (none))) else (some x7_1)) else (none)) else (none)) = some r := by first | (rw [hji6] at H; exact H) | (simp only [hji6] at H ⊢; exact H)
   have hji6w : (IntKind.i64.wrap ((x7_1.length : Int) - 1)) = ji6 := (i64_w _).trans hji6
   by_cases c7 : 0 ≤ (ji6)
   ·rw [if_pos c7] at H
    have c7b0 : decide (0 ≤ (ji6)) = true := decide_eq_true c7
    clear c7
    by_cases c8 : (ji6) < (x7_1.length : Int)
    ·rw [if_pos c8] at H
     have c8b0 : decide ((ji6) < (x7_1.length : Int)) = true := decide_eq_true c8
     clear c8
     by_cases c9 : (rd x7_1 (ji6)) < a1
     ·rw [if_pos c9] at H
      have c9b0 : decide ((rd x7_1 (ji6)) < a1) = true := decide_eq_true c9
      clear c9
      replace H := Option.bind_eq_some_iff.mp H
      obtain ⟨t363, A100, H⟩ := H
      replace H : (if x7_1.length < 17592186044416 then (spileref12_Merge.l0 k1 l0 a1 a2 (x7_1 ++ [t363])) else (none)) = some r := H
      have A10 := Aside0.mk A100
      clear A100
      by_cases c11 : x7_1.length < 17592186044416
      ·rw [if_pos c11] at H
       have LMc11 := Aside0.mk c11
       clear c11
       obtain ⟨y364, hy364⟩ : ∃ y_ : List Int, y_ = (x7_1 ++ [t363]) := ⟨_, rfl⟩
       replace H : (spileref12_Merge.l0 k1 l0 a1 a2 y364) = some r := by first | (rw [hy364]; with_reducible exact H) | (have H2_ := (Option.bind_some _ _).symm.trans H; rw [hy364]; with_reducible exact H2_) | (have H2_ := (Option.bind_some _ _).symm.trans H; with_reducible exact H2_) | with_reducible exact H | (rw [hy364]; exact H) | exact H
       have Ny364 := Aside0.mk hy364
       clear hy364
       have H' := Aside0.mk H
       clear H
       obtain ⟨Ao12, co12, eo12⟩ := Kd.R_slice HO_7.out
       subst eo12
       have p361 : 0 ≤ ((ji6) : Int) := of_decide_eq_true (by first | (with_reducible assumption) | assumption)
       have q361 : (ji6) < (x7_1.length : Int) := of_decide_eq_true (by first | (with_reducible assumption) | assumption)
       obtain ⟨ad361, e361, hx361_0⟩ := Kd.at_int (Kd.R_reads' HO_7.out).2.2 (ji6) p361 q361
       cases e361
       replace p361 := eq_true p361
       replace q361 := eq_true q361
       have p362 : 0 ≤ ((ji6) : Int) := of_decide_eq_true (by first | (with_reducible assumption) | assumption)
       have q362 : (ji6) < (x7_1.length : Int) := of_decide_eq_true (by first | (with_reducible assumption) | assumption)
       obtain ⟨ad362, e362, hx362_0⟩ := Kd.at_int (Kd.R_reads' HO_7.out).2.2 (ji6) p362 q362
       obtain rfl : ad361 = ad362 := (by injection e362)
       replace p362 := eq_true p362
       replace q362 := eq_true q362
       go_wp2_with (first | ((with_reducible refine gqC (f := 58) rfl ?_); refine goesL_ (some 27) rfl rfl Try.func58 (by kernel_rfl) rfl #[.slice A0 l0.length c0, .int .i64 a1, .int .i64 a2, .int .i64 (rd x7_1 (ji6))] rfl (by (try simp only [List.map_toArray, List.map_cons, List.map_nil]); first | done | (simp only [hji6]; rfl) | rfl | (simp only [List.length_drop, List.length_take]; rfl)) ?_; (with_reducible refine (spileref12_next.calls k1 _ _ l0 a1 a2 (rd x7_1 (ji6)) t363 _ ?side1 ?side2 A10.out).mono ?_); (case side1 => exact GS.rC (Kd.C_below HR0.out HB.out)); (case side2 => exact HC0.out); rintro e w' ⟨rfl, ⟨nd, rfl⟩⟩; refine ⟨_, rfl, ?_⟩) | ((with_reducible refine gate_builtin (b := .append) (xs := #[.tmp 17, .tmp 28]) rfl ?_); at_builtin; refine Kd.R_append (Kd.int .i64) (w0 := w) w.heap.size rfl (.tmp 17) (.tmp 28) 25 3 (.int .i64 0) 8 rfl Try.underlying25 info3 rfl (by decide) (by omega) (.slice (some ad361) x7_1.length co12) x7_1 t363 [.int .i64 t363] (fun _ => True) (fun _ => False) rfl rfl ?aP (fun _ hk => hk.elim) ?aF ?aO ?aB ?aS ?aL ?_; (case aP => exact rfl); (case aB => exact (GS.lB HB.out)); (case aF => exact (fun _ _ => trivial)); (case aO => exact (GS.rR HO_7.out)); (case aS => exact (lqZ (GS.lB HB.out))); (case aL => have := LMc11.out; omega); intro v365 w13 ho hb hg hat; rw [← Ny364.out] at ho; have n0_ := Aside0.mk (hb); have n1_ := Aside0.mk (ho); clear HB; clear HO_7; have HB := n0_; have HO366 := n1_; clear n0_ n1_; clear ho hb hg hat))
       go_roundg k1
       case measure => have := HK1.out; omega
       case rel => exact ⟨(y364), H', ⟨by have := HK1.out; omega⟩, ⟨by (with_reducible repeat (first | apply Kd.R_alloc | apply Kd.R_drewN | apply Kd.R_drew)); exact HO366.out⟩, ⟨GS.lB HB.out⟩⟩
      ·rw [if_neg c11] at H
       exact absurd H (by simp)
     ·rw [if_neg c9] at H
      have c9b0 : decide ((rd x7_1 (ji6)) < a1) = false := decide_eq_false c9
      clear c9
      obtain rfl := Option.some.inj H
      obtain ⟨Ao14, co14, eo14⟩ := Kd.R_slice HO_7.out
      subst eo14
      have p361 : 0 ≤ ((ji6) : Int) := of_decide_eq_true (by first | (with_reducible assumption) | assumption)
      have q361 : (ji6) < (x7_1.length : Int) := of_decide_eq_true (by first | (with_reducible assumption) | assumption)
      obtain ⟨ad361, e361, hx361_0⟩ := Kd.at_int (Kd.R_reads' HO_7.out).2.2 (ji6) p361 q361
      cases e361
      replace p361 := eq_true p361
      replace q361 := eq_true q361
      go_wp2
      go_ret
      exact ⟨_, by first | rfl | (simp [errW_none, errW_some] <;> rfl) | (simp only [← hji6]; first | rfl | (simp [errW_none, errW_some] <;> rfl)) | (simp [*, errW_none, errW_some] <;> rfl), by (with_reducible repeat (first | apply Kd.R_alloc | apply Kd.R_drewN | apply Kd.R_drew)); exact HO_7.out, GS.lB HB.out⟩
    ·rw [if_neg c8] at H
     exact absurd H (by simp)
   ·rw [if_neg c7] at H
    exact absurd H (by simp)

/-! ### spileref12_Levels: function 14 -/
def spileref12_Levels.j0 : Nat → List (S33) → Int → Int → Bool → Option (List Int × Int)
 | 0, _, _, _, _ => none
 | k + 1, x0, x1, x2, x31 => if x31 = true then (some (([] : List Int), 2)) else ((spileref12_Merge.f k x0 x1 x2).bind fun t369 => (some (t369, 0)))
def spileref12_Levels.f (k : Nat) (l0 : List (S33)) (a1 : Int) (a2 : Int) : Option (List Int × Int) := (spileref08_Check.f k l0).bind fun t367 => (if t367 = 0 then (if a1 < 0 then (spileref12_Levels.j0 k l0 a1 a2 true) else (if 0 ≤ (wrap64 ((l0.length : Int) - 1)) then (if (wrap64 ((l0.length : Int) - 1)) < (l0.length : Int) then (if a1 > ((rd_T33 l0 (wrap64 ((l0.length : Int) - 1))).f0) then (spileref12_Levels.j0 k l0 a1 a2 true) else (if a2 < 1 then (spileref12_Levels.j0 k l0 a1 a2 true) else (spileref12_Levels.j0 k l0 a1 a2 (decide (a2 > 64))))) else (none)) else (none))) else (some (([] : List Int), 1)))
theorem spileref12_Levels.mono_l : ∀ k, (∀ y0 y1 y2 y3, LeO (spileref12_Levels.j0 k y0 y1 y2 y3) (spileref12_Levels.j0 (k + 1) y0 y1 y2 y3))
 | 0 => fun _ _ _ _ r h => by simp [spileref12_Levels.j0] at h
 | k + 1 => by
  have ih0 := spileref12_Levels.mono_l k
  ·intro y0 y1 y2 y3
   unfold spileref12_Levels.j0
   repeat' first
   | (with_reducible exact ih0 _ _ _ _)
   | (with_reducible exact spileref08_Check.mono _ _)
   | (with_reducible exact spileref12_Merge.mono _ _ _ _)
   | (with_reducible exact LeO.refl _)
   | (with_reducible exact LeO.none _)
   | (with_reducible refine LeO.ite ?_ ?_)
   | (with_reducible refine LeO.bind ?_ (fun _ => ?_))
   | exact ih0 _ _ _ _
   | exact spileref08_Check.mono _ _
   | exact spileref12_Merge.mono _ _ _ _
   | exact LeO.none _
   | refine LeO.ite ?_ ?_
   | refine LeO.bind ?_ (fun _ => ?_)
theorem spileref12_Levels.mono : ∀ a0 a1 a2 k, LeO (spileref12_Levels.f k a0 a1 a2) (spileref12_Levels.f (k + 1) a0 a1 a2) := by
 intro a0 a1 a2 k
 have ih0 := spileref12_Levels.mono_l k
 unfold spileref12_Levels.f
 repeat' first
   | (with_reducible exact ih0 _ _ _ _)
   | (with_reducible exact spileref08_Check.mono _ _)
   | (with_reducible exact spileref12_Merge.mono _ _ _ _)
   | (with_reducible exact LeO.refl _)
   | (with_reducible exact LeO.none _)
   | (with_reducible refine LeO.ite ?_ ?_)
   | (with_reducible refine LeO.bind ?_ (fun _ => ?_))
   | exact ih0 _ _ _ _
   | exact spileref08_Check.mono _ _
   | exact spileref12_Merge.mono _ _ _ _
   | exact LeO.none _
   | refine LeO.ite ?_ ?_
   | refine LeO.bind ?_ (fun _ => ?_)
set_option maxHeartbeats 8000000 in
set_option maxRecDepth 100000 in
theorem spileref12_Levels.calls (k : Nat) (A0 : Option Addr) (c0 : Nat) (l0 : List (S33)) (a1 : Int) (a2 : Int) (r1 : List Int) (r2 : Int) (w : World) (hr0 : Kd.C k33 w A0 l0.length l0) (hc0 : l0.length ≤ c0) (h : spileref12_Levels.f k l0 a1 a2 = some (r1, r2)) :
  Calls Try.prog 14 #[.slice A0 l0.length c0, .int .i64 a1, .int .i64 a2] w fun e w' => ∃ v0_ : Value, e = .returned (.tuple #[v0_, .int .i64 r2]) ∧ Kd.R (Kd.int .i64) 3 w' w.heap.size (fun _ => True) v0_ r1 ∧ Below w.heap.size w w' := by
 have HR0 := Aside0.mk hr0
 have HC0 := Aside0.mk hc0
 clear hr0 hc0
 have HB := Aside0.mk (Below.refl w.heap.size w)
 have H : ((spileref08_Check.f k l0).bind fun t367 => (if t367 = 0 then (if a1 < 0 then (spileref12_Levels.j0 k l0 a1 a2 true) else (if 0 ≤ (wrap64 ((l0.length : Int) - 1)) then (if (wrap64 ((l0.length : Int) - 1)) < (l0.length : Int) then (if a1 > ((rd_T33 l0 (wrap64 ((l0.length : Int) - 1))).f0) then (spileref12_Levels.j0 k l0 a1 a2 true) else (if a2 < 1 then (spileref12_Levels.j0 k l0 a1 a2 true) else (spileref12_Levels.j0 k l0 a1 a2 (decide (a2 > 64))))) else (none)) else (none))) else (some (([] : List Int), 1)))) = some (r1, r2) := h
 clear h
 replace H := Option.bind_eq_some_iff.mp H
 obtain ⟨t367, A40, H⟩ := H
 replace H : (if t367 = 0 then (if a1 < 0 then (spileref12_Levels.j0 k l0 a1 a2 true) else (if 0 ≤ (wrap64 ((l0.length : Int) - 1)) then (if (wrap64 ((l0.length : Int) - 1)) < (l0.length : Int) then (if a1 > ((rd_T33 l0 (wrap64 ((l0.length : Int) - 1))).f0) then (spileref12_Levels.j0 k l0 a1 a2 true) else (if a2 < 1 then (spileref12_Levels.j0 k l0 a1 a2 true) else (spileref12_Levels.j0 k l0 a1 a2 (decide (a2 > 64))))) else (none)) else (none))) else (some (([] : List Int), 1))) = some (r1, r2) := H
 have A4 := Aside0.mk A40
 clear A40
 by_cases c5 : t367 = 0
 ·rw [if_pos c5] at H
  have c5b0 : (t367 == 0) = true := beq_iff_eq.mpr c5
  try simp only [beq_self_eq_true, Bool.not_true, Bool.false_or, Bool.true_and] at c5b0
  have c5b1 : (t367 != 0) = false := bne_eq_false_iff_eq.mpr c5
  clear c5
  have HC6 := Aside0.mk H
  clear H
  go_enter Try.func14, Try.ntmps14
  go_upto_region 3 with (first | ((with_reducible refine gqC (f := 27) rfl ?_); refine GS.gL (some 9) Try.func27 #[.slice A0 l0.length c0] ?_; (with_reducible refine (spileref08_Check.calls k _ _ l0 t367 _ ?side1 ?side2 A4.out).mono ?_); (case side1 => exact GS.rC HR0.out); (case side2 => exact HC0.out); rintro e w' ⟨rfl, ⟨nd, rfl⟩⟩; refine ⟨_, rfl, ?_⟩))
  (try simp only [Act.put, List.setIfInBounds_toArray, List.set_cons_zero, List.set_cons_succ])
  go_cut [31] (fun v31 wc => ∃ (kq : Nat) (x31_5 : Bool), v31 = .bool x31_5 ∧ Aside0 (spileref12_Levels.j0 kq l0 a1 a2 x31_5 = some (r1, r2)) ∧ Aside0 (kq ≤ k) ∧ Aside0 (Below w.heap.size w wc))
  case first =>
   have H := HC6.out
   clear HC6
   by_cases c7 : a1 < 0
   ·rw [if_pos c7] at H
    have c7b0 : decide (a1 < 0) = true := decide_eq_true c7
    clear c7
    (first | rw [c7b0] | (simp only [i64_w, i32_w]; rw [c7b0]) | skip)
    have H' := Aside0.mk H
    clear H
    go_wp2
    go_meet
    case rel => exact ⟨_, (true), (by first | rfl | (simp; done) | (simp [*]; done)), H', ⟨by first | omega | exact Nat.le_refl _⟩, ⟨GS.lB HB.out⟩⟩
   ·rw [if_neg c7] at H
    have c7b0 : decide (a1 < 0) = false := decide_eq_false c7
    clear c7
    (first | rw [c7b0] | (simp only [i64_w, i32_w]; rw [c7b0]) | skip)
    obtain ⟨ji8, hji8⟩ : ∃ j_ : Int, (wrap64 ((l0.length : Int) - 1)) = j_ := ⟨_, rfl⟩
    replace H : (if 0 ≤ (ji8) then (if (ji8) < (l0.length : Int) then (if a1 > ((rd_T33 l0 (ji8)).f0) then (spileref12_Levels.j0 k l0 a1 a2 true) else (if a2 < 1 then (spileref12_Levels.j0 k l0 a1 a2 true) else (spileref12_Levels.j0 k l0 a1 a2 (decide (a2 > 64))))) else (none)) else (none)) = some (r1, r2) := by first | (rw [hji8] at H; exact H) | (simp only [hji8] at H ⊢; exact H)
    have hji8w : (IntKind.i64.wrap ((l0.length : Int) - 1)) = ji8 := (i64_w _).trans hji8
    by_cases c9 : 0 ≤ (ji8)
    ·rw [if_pos c9] at H
     have c9b0 : decide (0 ≤ (ji8)) = true := decide_eq_true c9
     clear c9
     by_cases c10 : (ji8) < (l0.length : Int)
     ·rw [if_pos c10] at H
      have c10b0 : decide ((ji8) < (l0.length : Int)) = true := decide_eq_true c10
      clear c10
      by_cases c11 : a1 > ((rd_T33 l0 (ji8)).f0)
      ·rw [if_pos c11] at H
       have c11b0 : decide (((rd_T33 l0 (ji8)).f0) < a1) = true := decide_eq_true c11
       clear c11
       have H' := Aside0.mk H
       clear H
       have p368 : 0 ≤ ((ji8) : Int) := of_decide_eq_true (by first | (with_reducible assumption) | assumption)
       have q368 : (ji8) < (l0.length : Int) := of_decide_eq_true (by first | (with_reducible assumption) | assumption)
       obtain ⟨ad368, e368, hx368_0, hx368_1⟩ := at_T33 HR0.out (ji8) p368 q368
       cases e368
       replace hx368_0 := (HB.out.cell (World.block_lt_of_cell? w _ hx368_0)).trans hx368_0
       replace hx368_1 := (HB.out.cell (World.block_lt_of_cell? w _ hx368_1)).trans hx368_1
       replace p368 := eq_true p368
       replace q368 := eq_true q368
       go_wp2
       go_meet
       case rel => exact ⟨_, (true), (by first | rfl | (simp; done) | (simp [*]; done)), H', ⟨by first | omega | exact Nat.le_refl _⟩, ⟨GS.lB HB.out⟩⟩
      ·rw [if_neg c11] at H
       have c11b0 : decide (((rd_T33 l0 (ji8)).f0) < a1) = false := decide_eq_false c11
       clear c11
       by_cases c12 : a2 < 1
       ·rw [if_pos c12] at H
        have c12b0 : decide (a2 < 1) = true := decide_eq_true c12
        clear c12
        have H' := Aside0.mk H
        clear H
        have p368 : 0 ≤ ((ji8) : Int) := of_decide_eq_true (by first | (with_reducible assumption) | assumption)
        have q368 : (ji8) < (l0.length : Int) := of_decide_eq_true (by first | (with_reducible assumption) | assumption)
        obtain ⟨ad368, e368, hx368_0, hx368_1⟩ := at_T33 HR0.out (ji8) p368 q368
        cases e368
        replace hx368_0 := (HB.out.cell (World.block_lt_of_cell? w _ hx368_0)).trans hx368_0
        replace hx368_1 := (HB.out.cell (World.block_lt_of_cell? w _ hx368_1)).trans hx368_1
        replace p368 := eq_true p368
        replace q368 := eq_true q368
        go_wp2
        go_meet
        case rel => exact ⟨_, (true), (by first | rfl | (simp; done) | (simp [*]; done)), H', ⟨by first | omega | exact Nat.le_refl _⟩, ⟨GS.lB HB.out⟩⟩
       ·rw [if_neg c12] at H
        have c12b0 : decide (a2 < 1) = false := decide_eq_false c12
        clear c12
        have H' := Aside0.mk H
        clear H
        have p368 : 0 ≤ ((ji8) : Int) := of_decide_eq_true (by first | (with_reducible assumption) | assumption)
        have q368 : (ji8) < (l0.length : Int) := of_decide_eq_true (by first | (with_reducible assumption) | assumption)
        obtain ⟨ad368, e368, hx368_0, hx368_1⟩ := at_T33 HR0.out (ji8) p368 q368
        cases e368
        replace hx368_0 := (HB.out.cell (World.block_lt_of_cell? w _ hx368_0)).trans hx368_0
        replace hx368_1 := (HB.out.cell (World.block_lt_of_cell? w _ hx368_1)).trans hx368_1
        replace p368 := eq_true p368
        replace q368 := eq_true q368
        go_wp2
        go_meet
        case rel => exact ⟨_, (decide (a2 > 64)), (by first | rfl | (simp; done) | (simp [*]; done)), H', ⟨by first | omega | exact Nat.le_refl _⟩, ⟨GS.lB HB.out⟩⟩
     ·rw [if_neg c10] at H
      exact absurd H (by simp)
    ·rw [if_neg c9] at H
     exact absurd H (by simp)
  case rest =>
   clear HC6
   try clear c1
   try clear c2
   try clear p2
   try clear p3
   try clear q3
   try clear hx3
   try clear c5
   try clear c5b0
   try clear c5b1
   try clear p6
   try clear c7
   try clear c7b0
   try clear c9
   try clear c9b0
   try clear c10
   try clear c10b0
   try clear c11
   try clear c11b0
   try clear c12
   try clear c12b0
   try clear hx368_0
   try clear hx368_1
   try clear p368
   try clear q368
   obtain ⟨kq, x31_5, rfl, HA, HJ5, HB⟩ := hcut
   cases kq with
   | zero => exact absurd HA.out (by simp [spileref12_Levels.j0])
   | succ kj5 =>
    have H := HA.out
    clear HA
    simp only [spileref12_Levels.j0] at H
    by_cases c13 : x31_5 = true
    ·subst c13
     have H1 : (some (([] : List Int), 2)) = some (r1, r2) := by rw [if_pos rfl] at H; exact H
     clear H
     have H := H1
     clear H1
     simp only [Option.some.injEq, Prod.mk.injEq] at H
     obtain ⟨rfl, rfl⟩ := H
     go_wp2
     go_ret2
     exact ⟨_, by first | rfl | (simp [errW_none, errW_some] <;> rfl) | (simp [*, errW_none, errW_some] <;> rfl), by first | exact Kd.R_nil _ _ _ _ _ | exact Kd.N_nil _ _ _ _ _ | exact Kd.V_nil _ _ _ _ _ | exact Kd.Q_nil _ _ _ _ _ | exact Kd.S_nil _ _ _ _ _, GS.lB HB.out⟩
    ·replace c13 := Bool.eq_false_iff.mpr c13
     subst c13
     have H1 : ((spileref12_Merge.f kj5 l0 a1 a2).bind fun t369 => (some (t369, 0))) = some (r1, r2) := by rw [if_neg (show ¬ (false = true) by decide)] at H; exact H
     clear H
     have H := H1
     clear H1
     replace H := Option.bind_eq_some_iff.mp H
     obtain ⟨t369, A140, H⟩ := H
     replace H : (some (t369, 0)) = some (r1, r2) := H
     have A14 := Aside0.mk A140
     clear A140
     simp only [Option.some.injEq, Prod.mk.injEq] at H
     obtain ⟨rfl, rfl⟩ := H
     go_wp2_with (first | ((with_reducible refine gqC (f := 36) rfl ?_); refine GS.gL (some 35) Try.func36 #[.slice A0 l0.length c0, .int .i64 a1, .int .i64 a2] ?_; (with_reducible refine (spileref12_Merge.calls kj5 _ _ l0 a1 a2 t369 _ ?side1 ?side2 A14.out).mono ?_); (case side1 => exact GS.rC (Kd.C_below HR0.out HB.out)); (case side2 => exact HC0.out); rintro e w15 ⟨v370, rfl, ho0, hb⟩; refine ⟨_, rfl, ?_⟩; have n0_ := Aside0.mk (Kd.R_lower ho0 (lqZ (GS.lB HB.out))); have n1_ := Aside0.mk (lqT (GS.lB HB.out) hb); clear HB; have HO371 := n0_; have HB := n1_; clear n0_ n1_; (try clear hb); (try clear hb2); (try clear hk); (try clear hi); (try clear ho0)))
     go_ret2
     exact ⟨_, by first | rfl | (simp [errW_none, errW_some] <;> rfl) | (simp [*, errW_none, errW_some] <;> rfl), by (with_reducible repeat (first | apply Kd.R_alloc | apply Kd.R_drewN | apply Kd.R_drew)); exact HO371.out, GS.lB HB.out⟩
 ·rw [if_neg c5] at H
  have c5b0 : (t367 == 0) = false := beq_eq_false_iff_ne.mpr c5
  try simp only [beq_self_eq_true, Bool.not_true, Bool.false_or, Bool.true_and] at c5b0
  have c5b1 : (t367 != 0) = true := bne_iff_ne.mpr c5
  simp only [Option.some.injEq, Prod.mk.injEq] at H
  obtain ⟨rfl, rfl⟩ := H
  go_enter Try.func14, Try.ntmps14
  go_wp2_with (first | ((with_reducible refine gqC (f := 27) rfl ?_); refine GS.gL (some 9) Try.func27 #[.slice A0 l0.length c0] ?_; (with_reducible refine (spileref08_Check.calls k _ _ l0 t367 _ ?side1 ?side2 A4.out).mono ?_); (case side1 => exact GS.rC HR0.out); (case side2 => exact HC0.out); rintro e w' ⟨rfl, ⟨nd, rfl⟩⟩; refine ⟨_, rfl, ?_⟩))
  go_ret2
  exact ⟨_, by first | rfl | (simp [errW_none, errW_some] <;> rfl) | (simp [*, errW_none, errW_some] <;> rfl), by first | exact Kd.R_nil _ _ _ _ _ | exact Kd.N_nil _ _ _ _ _ | exact Kd.V_nil _ _ _ _ _ | exact Kd.Q_nil _ _ _ _ _ | exact Kd.S_nil _ _ _ _ _, GS.lB HB.out⟩

/-! ### spileref09_Copy: function 39 -/
def spileref09_Copy.l0 : Nat → List (S24) → List (S24) → Int → Option ((List (S24)))
 | 0, _, _, _ => none
 | k + 1, x0, x3, x4 => if x4 < (x0.length : Int) then (if 0 ≤ x4 then ((some (([] : List (S33)) : List (S33))).bind fun y374 => (if y374.length + ((rd_T24 x0 x4).f2).length < 8796093022208 then (if x3.length < 2513169434916 then (spileref09_Copy.l0 k x0 (x3 ++ [(⟨(rd_T24 x0 x4).f0, (rd_T24 x0 x4).f1, (y374 ++ ((rd_T24 x0 x4).f2)), (rd_T24 x0 x4).f3⟩ : S24)]) (wrap64 (x4 + 1))) else (none)) else (none))) else (none)) else (some x3)
def spileref09_Copy.f (k : Nat) (l0 : List (S24)) : Option ((List (S24))) := spileref09_Copy.l0 k l0 ([] : List (S24)) 0
theorem spileref09_Copy.mono_l : ∀ k, (∀ y0 y1 y2, LeO (spileref09_Copy.l0 k y0 y1 y2) (spileref09_Copy.l0 (k + 1) y0 y1 y2))
 | 0 => fun _ _ _ r h => by simp [spileref09_Copy.l0] at h
 | k + 1 => by
  have ih0 := spileref09_Copy.mono_l k
  ·intro y0 y1 y2
   unfold spileref09_Copy.l0
   repeat' first
   | (with_reducible exact ih0 _ _ _)
   | (with_reducible exact LeO.refl _)
   | (with_reducible exact LeO.none _)
   | (with_reducible refine LeO.ite ?_ ?_)
   | (with_reducible refine LeO.bind ?_ (fun _ => ?_))
   | exact ih0 _ _ _
   | exact LeO.none _
   | refine LeO.ite ?_ ?_
   | refine LeO.bind ?_ (fun _ => ?_)
theorem spileref09_Copy.mono : ∀ a0 k, LeO (spileref09_Copy.f k a0) (spileref09_Copy.f (k + 1) a0) := by
 intro a0 k
 have ih0 := spileref09_Copy.mono_l k
 unfold spileref09_Copy.f
 repeat' first
   | (with_reducible exact ih0 _ _ _)
   | (with_reducible exact LeO.refl _)
   | (with_reducible exact LeO.none _)
   | (with_reducible refine LeO.ite ?_ ?_)
   | (with_reducible refine LeO.bind ?_ (fun _ => ?_))
   | exact ih0 _ _ _
   | exact LeO.none _
   | refine LeO.ite ?_ ?_
   | refine LeO.bind ?_ (fun _ => ?_)
set_option maxHeartbeats 8000000 in
set_option maxRecDepth 100000 in
theorem spileref09_Copy.calls (k : Nat) (A0 : Option Addr) (c0 : Nat) (l0 : List (S24)) (r : List (S24)) (w : World) (hr0 : Kd.C k24 w A0 l0.length l0) (hc0 : l0.length ≤ c0) (h : spileref09_Copy.f k l0 = some r) :
  Calls Try.prog 39 #[.slice A0 l0.length c0] w fun e w' => ∃ v0_ : Value, e = .returned (v0_) ∧ Kd.S k24 24 w' w.heap.size (fun _ => True) v0_ r ∧ Below w.heap.size w w' := by
 have hu24 := Try.underlying24
 have HR0 := Aside0.mk hr0
 have HC0 := Aside0.mk hc0
 clear hr0 hc0
 have HB := Aside0.mk (Below.refl w.heap.size w)
 have H : (spileref09_Copy.l0 k l0 ([] : List (S24)) 0) = some r := h
 clear h
 have H' := Aside0.mk H
 clear H
 go_enter Try.func39, Try.ntmps39
 go_wp2
 go_loopg [3, 4] k (fun kq v3 v4 w' => ∃ (x3_1 : List (S24)) (x4_1 : Int), v4 = .int .i64 x4_1 ∧ Aside0 (spileref09_Copy.l0 kq l0 x3_1 x4_1 = some r) ∧ Aside0 (kq ≤ k) ∧ Aside0 (Kd.S k24 24 w' w.heap.size (fun _ => True) v3 x3_1) ∧ Aside0 (Below w.heap.size w w'))
 case atStart => exact ⟨(([] : List (S24))), (0), (by first | rfl | (simp; done) | (simp [*]; done)), H', ⟨Nat.le_refl _⟩, ⟨by first | exact Kd.S_nil _ _ _ _ _ | exact Kd.N_nil _ _ _ _ _ | exact Kd.V_nil _ _ _ _ _ | exact Kd.Q_nil _ _ _ _ _ | exact Kd.R_nil _ _ _ _ _⟩, ⟨GS.lB HB.out⟩⟩
 case round =>
  clear H'
  obtain ⟨x3_1, x4_1, rfl, HA, HK1, HO_3, HB⟩ := hrel
  cases gk with
  | zero => exact absurd HA.out (by simp [spileref09_Copy.l0])
  | succ k1 =>
   have H := HA.out
   clear HA
   simp only [spileref09_Copy.l0] at H
   by_cases c2 : x4_1 < (l0.length : Int)
   ·rw [if_pos c2] at H
    have c2b0 : decide (x4_1 < (l0.length : Int)) = true := decide_eq_true c2
    clear c2
    by_cases c3 : 0 ≤ x4_1
    ·rw [if_pos c3] at H
     have c3b0 : decide (0 ≤ x4_1) = true := decide_eq_true c3
     clear c3
     obtain ⟨y374, hy374⟩ : ∃ y_ : List (S33), y_ = (([] : List (S33))) := ⟨_, rfl⟩
     replace H : (if y374.length + ((rd_T24 l0 x4_1).f2).length < 8796093022208 then (if x3_1.length < 2513169434916 then (spileref09_Copy.l0 k1 l0 (x3_1 ++ [(⟨(rd_T24 l0 x4_1).f0, (rd_T24 l0 x4_1).f1, (y374 ++ ((rd_T24 l0 x4_1).f2)), (rd_T24 l0 x4_1).f3⟩ : S24)]) (wrap64 (x4_1 + 1))) else (none)) else (none)) = some r := by first | (rw [hy374]; with_reducible exact H) | (have H2_ := (Option.bind_some _ _).symm.trans H; rw [hy374]; with_reducible exact H2_) | (have H2_ := (Option.bind_some _ _).symm.trans H; with_reducible exact H2_) | with_reducible exact H | (rw [hy374]; exact H) | exact H
     have Ny374 := Aside0.mk hy374
     clear hy374
     by_cases c4 : y374.length + ((rd_T24 l0 x4_1).f2).length < 8796093022208
     ·rw [if_pos c4] at H
      have LMc4 := Aside0.mk c4
      clear c4
      obtain ⟨y377, hy377⟩ : ∃ y_ : List (S33), y_ = (y374 ++ ((rd_T24 l0 x4_1).f2)) := ⟨_, rfl⟩
      replace H : (if x3_1.length < 2513169434916 then (spileref09_Copy.l0 k1 l0 (x3_1 ++ [(⟨(rd_T24 l0 x4_1).f0, (rd_T24 l0 x4_1).f1, y377, (rd_T24 l0 x4_1).f3⟩ : S24)]) (wrap64 (x4_1 + 1))) else (none)) = some r := by first | (rw [hy377]; with_reducible exact H) | (have H2_ := (Option.bind_some _ _).symm.trans H; rw [hy377]; with_reducible exact H2_) | (have H2_ := (Option.bind_some _ _).symm.trans H; with_reducible exact H2_) | with_reducible exact H | (rw [hy377]; exact H) | exact H
      have Ny377 := Aside0.mk hy377
      clear hy377
      by_cases c5 : x3_1.length < 2513169434916
      ·rw [if_pos c5] at H
       have LMc5 := Aside0.mk c5
       clear c5
       obtain ⟨y380, hy380⟩ : ∃ y_ : List (S24), y_ = (x3_1 ++ [(⟨(rd_T24 l0 x4_1).f0, (rd_T24 l0 x4_1).f1, y377, (rd_T24 l0 x4_1).f3⟩ : S24)]) := ⟨_, rfl⟩
       replace H : (spileref09_Copy.l0 k1 l0 y380 (wrap64 (x4_1 + 1))) = some r := by first | (rw [hy380]; with_reducible exact H) | (have H2_ := (Option.bind_some _ _).symm.trans H; rw [hy380]; with_reducible exact H2_) | (have H2_ := (Option.bind_some _ _).symm.trans H; with_reducible exact H2_) | with_reducible exact H | (rw [hy380]; exact H) | exact H
       have Ny380 := Aside0.mk hy380
       clear hy380
       have H' := Aside0.mk H
       clear H
       have p372 : 0 ≤ (x4_1 : Int) := of_decide_eq_true (by first | (with_reducible assumption) | assumption)
       have q372 : x4_1 < (l0.length : Int) := of_decide_eq_true (by first | (with_reducible assumption) | assumption)
       obtain ⟨ad372, A372_2, c372_2, e372, hx372_0, hx372_1, hx372_2, hx372_3, hl372_2, hi372_2⟩ := at_T24 HR0.out x4_1 p372 q372
       cases e372
       replace hx372_0 := (HB.out.cell (World.block_lt_of_cell? w _ hx372_0)).trans hx372_0
       replace hx372_1 := (HB.out.cell (World.block_lt_of_cell? w _ hx372_1)).trans hx372_1
       replace hx372_2 := (HB.out.cell (World.block_lt_of_cell? w _ hx372_2)).trans hx372_2
       replace hx372_3 := (HB.out.cell (World.block_lt_of_cell? w _ hx372_3)).trans hx372_3
       have HR372_2 := Aside0.mk hi372_2
       have HC372_2 := Aside0.mk hl372_2
       clear hi372_2 hl372_2
       replace p372 := eq_true p372
       replace q372 := eq_true q372
       go_wp2_with (first | ((with_reducible refine gqD (N := 5) rfl ?_); refine box_event ?hg (N := 5) ?hd (cs := #[.string (⟨#[]⟩ : ByteArray), .int .i64 0, .slice none 0 0, .int .i64 0]) (t := 24) ?hr ?_; (case hd => rfl); (case hg => rfl); (case hr => first | (go_simp; done) | (go_simp; rfl)); intro gb373 hg w6 hbox hb; have n0_ := Aside0.mk (Kd.S_below (Kd.S_elderB (by (with_reducible repeat (first | apply Kd.S_alloc | apply Kd.S_drewN | apply Kd.S_drew)); exact HO_3.out) gb373 (Nat.le_of_eq hg.symm)) hb); have n1_ := Aside0.mk (lqT (GS.lB HB.out) hb); have n2_ := Aside0.mk (hbox); have n3_ := Aside0.mk ((by rw [hg]; exact (lqZ (GS.lB HB.out)) : w.heap.size ≤ gb373)); have n4_ := Aside0.mk ((by rw [hg]; exact (lqZ (GS.lB HB.out)) : w.heap.size ≤ gb373)); clear HO_3; clear HB; have HO_3 := n0_; have HB := n1_; have BK373 := n2_; have GW373 := n3_; have GE373 := n4_; clear n0_ n1_ n2_ n3_ n4_; clear hb hbox hg; obtain ⟨hcz7_0, hcz7_1, hcz7_2, hcz7_3, hfz7_0, hfz7_1, hfz7_2, hfz7_3⟩ := GS.c4 BK373.out) | ((with_reducible refine gqD (N := 16) rfl ?_); refine Kd.R_lit k33 _ 33 ?hg (N := 16) ?hd (xs := ([] : List (S33))) (inner := []) (ok := fun _ => True) (okp := fun _ => True) ?hr ?hp (fun _ hk => hk) trivial (Below.refl _ _) (Nat.le_refl _) (by simp) ?_; (case hd => rfl); (case hg => rfl); (case hr => first | (go_simp; done) | (go_simp; rfl)); (case hp => exact (Reps.none _ _)); intro v375 w8 ho9 hb hg_ hnew_; clear hg_ hnew_; (first | rw [← Ny374.out] at ho9 | (simp only [Int.reduceToNat] at ho9; rw [← Ny374.out] at ho9)); have n0_ := Aside0.mk (Kd.S_elder' (by (with_reducible repeat (first | apply Kd.S_alloc | apply Kd.S_drewN | apply Kd.S_drew)); exact (Kd.S_mono (Kd.S_far (p := ⟨gb373, 3, none⟩) (Kd.S_far (p := ⟨gb373, 2, none⟩) (Kd.S_far (p := ⟨gb373, 1, none⟩) (Kd.S_far (p := ⟨gb373, 0, none⟩) (Kd.S_mono HO_3.out (fun k_ hk => (⟨hk, GS.cj hk⟩ : _ ∧ k_ ≠ gb373))) (fun _ hk => hk.2) (.string ((rd_T24 l0 x4_1).f0))) (fun _ hk => hk.2) (.int .i64 ((rd_T24 l0 x4_1).f1))) (fun _ hk => hk.2) (.slice A372_2 ((rd_T24 l0 x4_1).f2).length c372_2)) (fun _ hk => hk.2) (.int .i64 ((rd_T24 l0 x4_1).f3))) (fun _ h_ => h_.1))) (Kd.R_base ho9) hb); have n1_ := Aside0.mk (Kd.R_lower ho9 (lqZ (GS.lB HB.out))); have n2_ := Aside0.mk (bqB (g := gb373) (o := .cells #[.string ((rd_T24 l0 x4_1).f0), .int .i64 ((rd_T24 l0 x4_1).f1), .slice A372_2 ((rd_T24 l0 x4_1).f2).length c372_2, .int .i64 ((rd_T24 l0 x4_1).f3)] 24 (0, 0)) (by (with_reducible repeat (first | refine bqN ?_ _ | refine bqD ?_ | refine bqA ?_ _)); refine bqP (cs := #[.string ((rd_T24 l0 x4_1).f0), .int .i64 ((rd_T24 l0 x4_1).f1), .slice A372_2 ((rd_T24 l0 x4_1).f2).length c372_2, .int .i64 0]) ?_ 3 _ rfl; (with_reducible repeat (first | refine bqN ?_ _ | refine bqD ?_ | refine bqA ?_ _)); refine bqP (cs := #[.string ((rd_T24 l0 x4_1).f0), .int .i64 ((rd_T24 l0 x4_1).f1), .slice none 0 0, .int .i64 0]) ?_ 2 _ rfl; (with_reducible repeat (first | refine bqN ?_ _ | refine bqD ?_ | refine bqA ?_ _)); refine bqP (cs := #[.string ((rd_T24 l0 x4_1).f0), .int .i64 0, .slice none 0 0, .int .i64 0]) ?_ 1 _ rfl; (with_reducible repeat (first | refine bqN ?_ _ | refine bqD ?_ | refine bqA ?_ _)); refine bqP (cs := #[.string (⟨#[]⟩ : ByteArray), .int .i64 0, .slice none 0 0, .int .i64 0]) ?_ 0 _ rfl; (with_reducible repeat (first | refine bqN ?_ _ | refine bqD ?_ | refine bqA ?_ _)); exact BK373.out) hb); have n3_ := Aside0.mk (lqT (GS.lB HB.out) hb); clear HO_3; clear BK373; clear HB; have HO_3 := n0_; have HO376 := n1_; have BK373 := n2_; have HB := n3_; clear n0_ n1_ n2_ n3_; clear hb ho9; obtain ⟨hcz10_0, hcz10_1, hcz10_2, hcz10_3, hfz10_0, hfz10_1, hfz10_2, hfz10_3⟩ := GS.c4 BK373.out) | ((with_reducible refine gate_builtin (b := .append) (xs := #[.tmp 16, .tmp 18]) rfl ?_); at_builtin; refine Kd.R_append_rows k33 (w0 := w) w.heap.size rfl (.tmp 16) (.tmp 18) 22 33 (.agg #[(.int .i64 0), (.int .i64 0)]) 16 rfl Try.underlying22 info33 rfl (by decide) (by omega) v375 y374 ((rd_T24 l0 x4_1).f2) _ _ _ (fun _ => True) (fun _ => False) rfl rfl ?aO ?aR (fun _ _ h => h) (fun _ h => h.elim) ?aF ?aB ?aS ?aL ?_; (case aR => repeat (first | exact (Kd.C_below HR372_2.out HB.out) | (with_reducible refine Kd.C_alloc ?_ _) | (with_reducible refine Kd.C_drewN ?_ _) | (with_reducible refine Kd.C_drew ?_))); (case aB => exact (GS.lB HB.out)); (case aF => exact (fun _ _ => trivial)); (case aO => exact (GS.rR HO376.out)); (case aS => exact (lqZ (GS.lB HB.out))); (case aL => have := LMc4.out; omega); intro v378 w11 ho hb hg hat; rw [← Ny377.out] at ho; have n0_ := Aside0.mk (Kd.S_after (ok := (fun k_ => k_ ≠ gb373)) (by (with_reducible repeat (first | apply Kd.S_alloc | apply Kd.S_drewN | apply Kd.S_drew)); exact Kd.S_mono HO_3.out (fun _ hk => GS.cj hk)) hg hat); have n1_ := Aside0.mk (blk_grown (GS.bqX BK373.out) hg (Kd.R_ne HO376.out BK373.out (by decide))); have n2_ := Aside0.mk (hb); have n3_ := Aside0.mk (ho); clear HO_3; clear BK373; clear HB; clear HO376; have HO_3 := n0_; have BK373 := n1_; have HB := n2_; have HO379 := n3_; clear n0_ n1_ n2_ n3_; clear ho hb hg hat; obtain ⟨Ao12, co12, eo12⟩ := Kd.R_slice HO379.out; subst eo12; obtain ⟨hcz13_0, hcz13_1, hcz13_2, hcz13_3, hfz13_0, hfz13_1, hfz13_2, hfz13_3⟩ := GS.c4 BK373.out) | ((with_reducible refine gate_store (t := 22) (p := 20) rfl ?_); refine store_event (t := 22) (p := 20) (v := ?vo_w14) (w1 := (w11.setCell ⟨gb373, 2, none⟩ (.slice Ao12 y377.length co12))) ?hg ?ho ?hn ?hr ?_; (case ho => rfl); (case hg => rfl); (case hn => rfl); (case hr => first | (go_simp; done) | (go_simp; rfl)); intro w14 hw; have n0_ : Aside0 (Kd.S k24 24 w14 w.heap.size (fun k_ => some k_ ≠ (.slice Ao12 y377.length co12 : Value).ownBlock ∧ k_ ≠ gb373) u3 x3_1) := ⟨(by rw [hw]; exact (by (with_reducible repeat (first | apply Kd.S_alloc | apply Kd.S_drewN | apply Kd.S_drew)); exact Kd.S_mono (Kd.S_far (p := ⟨gb373, 2, none⟩) (Kd.S_mono HO_3.out (fun k_ hk => (⟨hk, GS.cj hk⟩ : _ ∧ k_ ≠ gb373))) (fun _ hk => hk.2) (.slice Ao12 y377.length co12)) (fun _ hk => GS.cj hk)))⟩; have n1_ : Aside0 (Kd.R k33 33 w14 w.heap.size (fun _ => True) (.slice Ao12 y377.length co12) y377) := ⟨(by rw [hw]; exact (by (with_reducible repeat (first | apply Kd.R_alloc | apply Kd.R_drewN | apply Kd.R_drew)); exact Kd.R_mono (Kd.R_far (p := ⟨gb373, 2, none⟩) (Kd.R_types HO379.out BK373.out (by decide)) (fun _ hk => hk.2) (.slice Ao12 y377.length co12)) (fun _ hk => trivial)))⟩; have n2_ : Aside0 (w14.heap[gb373]? = some (.cells #[.string ((rd_T24 l0 x4_1).f0), .int .i64 ((rd_T24 l0 x4_1).f1), .slice Ao12 y377.length co12, .int .i64 ((rd_T24 l0 x4_1).f3)] 24 (0, 0))) := ⟨(by rw [hw]; exact (GS.bqZ BK373.out))⟩; have n3_ : Aside0 (Below w.heap.size w w14) := ⟨(by rw [hw]; exact (GS.lB HB.out))⟩; clear hw; clear HO_3; clear HO379; clear BK373; clear HB; have HO_3 := n0_; have HO379 := n1_; have BK373 := n2_; have HB := n3_; clear n0_ n1_ n2_ n3_; obtain ⟨hcz15_0, hcz15_1, hcz15_2, hcz15_3, hfz15_0, hfz15_1, hfz15_2, hfz15_3⟩ := GS.c4 BK373.out) | ((with_reducible refine gate_builtin (b := .append) (xs := #[.tmp 21, .tmp 23]) rfl ?_); at_builtin; refine Kd.S_append k24 (w0 := w) w.heap.size rfl (.tmp 21) (.tmp 23) 60 24 (.agg #[(.string ⟨#[]⟩), (.int .i64 0), (.slice none 0 0), (.int .i64 0)]) 56 rfl Try.underlying60 info24 rfl (by decide) (by omega) u3 x3_1 (⟨(rd_T24 l0 x4_1).f0, (rd_T24 l0 x4_1).f1, y377, (rd_T24 l0 x4_1).f3⟩ : S24) [.string ((rd_T24 l0 x4_1).f0), .int .i64 ((rd_T24 l0 x4_1).f1), .slice Ao12 y377.length co12, .int .i64 ((rd_T24 l0 x4_1).f3)] (fun k_ => k_ ≠ gb373) (fun k_ => some k_ = (.slice Ao12 y377.length co12 : Value).ownBlock) rfl rfl ?aP (fun k_ hk_ => ((Kd.R_mono (ok' := fun k_ => ((fun k_ => k_ ≠ gb373)) k_ ∧ some k_ ≠ (u3 : Value).ownBlock) (Kd.R_types (Kd.R_apart' (HO379.out) (Kd.S_typed HO_3.out) (by decide)) BK373.out (by decide)) (fun k_ hk => ⟨hk.2, hk.1.2⟩))).1 k_ hk_.symm) ?aF ?aO ?aB ?aS ?aL ?_; (case aP => exact k24_mkM _ _ _ (⟨(rd_T24 l0 x4_1).f0, (rd_T24 l0 x4_1).f1, y377, (rd_T24 l0 x4_1).f3⟩ : S24) (Kd.R_mono (Kd.R_tight rfl (Kd.R_mono (ok' := fun k_ => ((fun k_ => k_ ≠ gb373)) k_ ∧ some k_ ≠ (u3 : Value).ownBlock) (Kd.R_types (Kd.R_apart' (HO379.out) (Kd.S_typed HO_3.out) (by decide)) BK373.out (by decide)) (fun k_ hk => ⟨hk.2, hk.1.2⟩))) (fun _ h_ => h_))); (case aB => exact (GS.lB HB.out)); (case aF => exact (fun k_ hk => Kd.freshB (GS.bqX BK373.out) k_ hk)); (case aO => exact (by (with_reducible repeat (first | apply Kd.S_alloc | apply Kd.S_drewN | apply Kd.S_drew)); exact Kd.S_mono HO_3.out (fun k_ hk => ⟨hk.2, fun e_ => hk.1 e_⟩))); (case aS => exact (lqZ (GS.lB HB.out))); (case aL => have := LMc5.out; omega); intro v381 w16 ho hb hg hat; rw [← Ny380.out] at ho; have n0_ := Aside0.mk (blk_grown (GS.bqX BK373.out) hg (Kd.S_away HO_3.out (fun _ hk => GS.cj hk))); have n1_ := Aside0.mk (hb); have n2_ := Aside0.mk (ho); clear BK373; clear HB; clear HO_3; clear HO379; have BK373 := n0_; have HB := n1_; have HO382 := n2_; clear n0_ n1_ n2_; clear ho hb hg hat))
       go_roundg k1
       case measure => have := HK1.out; omega
       case rel => exact ⟨(y380), (wrap64 (x4_1 + 1)), (by first | rfl | (simp; done) | (simp [*]; done)), H', ⟨by have := HK1.out; omega⟩, ⟨by (with_reducible repeat (first | apply Kd.S_alloc | apply Kd.S_drewN | apply Kd.S_drew)); exact Kd.S_mono HO382.out (fun _ hk => trivial)⟩, ⟨GS.lB HB.out⟩⟩
      ·rw [if_neg c5] at H
       exact absurd H (by simp)
     ·rw [if_neg c4] at H
      exact absurd H (by simp)
    ·rw [if_neg c3] at H
     exact absurd H (by simp)
   ·rw [if_neg c2] at H
    have c2b0 : decide (x4_1 < (l0.length : Int)) = false := decide_eq_false c2
    clear c2
    obtain rfl := Option.some.inj H
    go_wp2
    go_ret
    exact ⟨_, by first | rfl | (simp [errW_none, errW_some] <;> rfl) | (simp [*, errW_none, errW_some] <;> rfl), by (with_reducible repeat (first | apply Kd.S_alloc | apply Kd.S_drewN | apply Kd.S_drew)); exact HO_3.out, GS.lB HB.out⟩

end Go.Proofs.Ytmcmbjkjilcmeaa.K
