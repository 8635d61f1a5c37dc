-- PRINTED by print.py (a twelfth state) out of the translation. Not trusted: Lean checks it.
import Derived.Test.YtbkoghmbacdiiaaK0
import Derived.Test.YtbkoghmbacdiiaaK1
import Derived.Test.YtbkoghmbacdiiaaK9
import Derived.Test.YtbkoghmbacdiiaaGAtLeast
namespace Go.Proofs.Ytbkoghmbacdiiaa.K
open Go.RowKit Go.Proofs.YtbkoghmbacdiiaaW.PrintWords Go.Proofs.YtbkoghmbacdiiaaW.PrintLast Go.Proofs.YtbkoghmbacdiiaaW.PrintMore
attribute [local go_sem] max2_int min2_int max_two min_two max_three min_three max_four min_four   -- for this text's walks alone
set_option linter.unusedVariables false
set_option linter.unusedSimpArgs false

/-! ### slices_Equal_int_int: function 32 -/
def slices_Equal_int_int.l0 : Nat → List Int → List Int → Int → Int → Option (Bool)
 | 0, _, _, _, _ => none
 | k + 1, x0, x1, x12, x13 => if x13 < x12 then (if 0 ≤ x13 then (if x13 < (x0.length : Int) then (if x13 < (x1.length : Int) then (if (rd x0 x13) = (rd x1 x13) then (slices_Equal_int_int.l0 k x0 x1 x12 (wrap64 (x13 + 1))) else (some false)) else (none)) else (none)) else (none)) else (some true)
def slices_Equal_int_int.f (k : Nat) (l0 : List Int) (l1 : List Int) : Option (Bool) := if (l0.length : Int) = (l1.length : Int) then (slices_Equal_int_int.l0 k l0 l1 (l0.length : Int) 0) else (some false)
theorem slices_Equal_int_int.mono_l : ∀ k, (∀ y0 y1 y2 y3, LeO (slices_Equal_int_int.l0 k y0 y1 y2 y3) (slices_Equal_int_int.l0 (k + 1) y0 y1 y2 y3))
 | 0 => fun _ _ _ _ r h => by simp [slices_Equal_int_int.l0] at h
 | k + 1 => by
  have ih0 := slices_Equal_int_int.mono_l k
  ·intro y0 y1 y2 y3
   unfold slices_Equal_int_int.l0
   repeat' first
   | (with_reducible exact ih0 _ _ _ _)
   | (with_reducible exact LeO.refl _)
   | (with_reducible exact LeO.none _)
   | (with_reducible refine LeO.ite ?_ ?_)
   | (with_reducible refine LeO.bind ?_ (fun _ => ?_))
   | exact ih0 _ _ _ _
   | exact LeO.none _
   | refine LeO.ite ?_ ?_
   | refine LeO.bind ?_ (fun _ => ?_)
theorem slices_Equal_int_int.mono : ∀ a0 a1 k, LeO (slices_Equal_int_int.f k a0 a1) (slices_Equal_int_int.f (k + 1) a0 a1) := by
 intro a0 a1 k
 have ih0 := slices_Equal_int_int.mono_l k
 unfold slices_Equal_int_int.f
 repeat' first
   | (with_reducible exact ih0 _ _ _ _)
   | (with_reducible exact LeO.refl _)
   | (with_reducible exact LeO.none _)
   | (with_reducible refine LeO.ite ?_ ?_)
   | (with_reducible refine LeO.bind ?_ (fun _ => ?_))
   | exact ih0 _ _ _ _
   | exact LeO.none _
   | refine LeO.ite ?_ ?_
   | refine LeO.bind ?_ (fun _ => ?_)
set_option maxHeartbeats 8000000 in
set_option maxRecDepth 100000 in
theorem slices_Equal_int_int.calls (k : Nat) (A0 : Option Addr) (c0 : Nat) (l0 : List Int) (A1 : Option Addr) (c1 : Nat) (l1 : List Int) (r : Bool) (w : World) (hr0 : Kd.C (Kd.int .i64) w A0 l0.length l0) (hc0 : l0.length ≤ c0) (hr1 : Kd.C (Kd.int .i64) w A1 l1.length l1) (hc1 : l1.length ≤ c1) (h : slices_Equal_int_int.f k l0 l1 = some r) :
  Calls Try.prog 32 #[.slice A0 l0.length c0, .slice A1 l1.length c1] w fun e w' => e = .returned (.bool r) ∧ Drawn0 w w' := by
 have HR0 := Aside0.mk hr0
 have HC0 := Aside0.mk hc0
 clear hr0 hc0
 have HR1 := Aside0.mk hr1
 have HC1 := Aside0.mk hc1
 clear hr1 hc1
 have H : (if (l0.length : Int) = (l1.length : Int) then (slices_Equal_int_int.l0 k l0 l1 (l0.length : Int) 0) else (some false)) = some r := h
 clear h
 by_cases c3 : (l0.length : Int) = (l1.length : Int)
 ·rw [if_pos c3] at H
  have c3b0 : ((l0.length : Int) == (l1.length : Int)) = true := beq_iff_eq.mpr c3
  try simp only [beq_self_eq_true, Bool.not_true, Bool.false_or, Bool.true_and] at c3b0
  have c3b1 : ((l0.length : Int) != (l1.length : Int)) = false := bne_eq_false_iff_eq.mpr c3
  have c3b2 : (l0.length == l1.length) = true := by first | simpa using c3 | (simp at c3 ⊢; omega)
  clear c3
  have H' := Aside0.mk H
  clear H
  go_enter Try.func32, Try.ntmps32
  go_wp2
  repeat (go_quiet (fail); try go_wp2)
  go_loopg [13] k (fun kq v13 w' => ∃ (x13_1 : Int), v13 = .int .i64 x13_1 ∧ Aside0 (slices_Equal_int_int.l0 kq l0 l1 (l0.length : Int) x13_1 = some r) ∧ Aside0 (kq ≤ k) ∧ Drawn0 w w')
  case atStart => exact ⟨(0), (by first | rfl | (simp; done) | (simp [*]; done)), H', ⟨Nat.le_refl _⟩, by repeat (first | exact Drawn0.refl _ | apply Drawn0.step)⟩
  case round =>
   clear H'
   try clear c1
   try clear p2
   try clear c3
   try clear c3b0
   try clear c3b1
   try clear c3b2
   obtain ⟨x13_1, rfl, HA, HK1, ⟨m1, rfl⟩⟩ := hrel
   cases gk with
   | zero => exact absurd HA.out (by simp [slices_Equal_int_int.l0])
   | succ k1 =>
    have H := HA.out
    clear HA
    simp only [slices_Equal_int_int.l0] at H
    by_cases c4 : x13_1 < (l0.length : Int)
    ·rw [if_pos c4] at H
     have c4b0 : decide (x13_1 < (l0.length : Int)) = true := decide_eq_true c4
     clear c4
     by_cases c5 : 0 ≤ x13_1
     ·rw [if_pos c5] at H
      have c5b0 : decide (0 ≤ x13_1) = true := decide_eq_true c5
      clear c5
      by_cases c6 : x13_1 < (l0.length : Int)
      ·rw [if_pos c6] at H
       have c6b0 : decide (x13_1 < (l0.length : Int)) = true := decide_eq_true c6
       clear c6
       by_cases c7 : x13_1 < (l1.length : Int)
       ·rw [if_pos c7] at H
        have c7b0 : decide (x13_1 < (l1.length : Int)) = true := decide_eq_true c7
        clear c7
        by_cases c8 : (rd l0 x13_1) = (rd l1 x13_1)
        ·rw [if_pos c8] at H
         have c8b0 : ((rd l0 x13_1) == (rd l1 x13_1)) = true := beq_iff_eq.mpr c8
         try simp only [beq_self_eq_true, Bool.not_true, Bool.false_or, Bool.true_and] at c8b0
         have c8b1 : ((rd l0 x13_1) != (rd l1 x13_1)) = false := bne_eq_false_iff_eq.mpr c8
         clear c8
         have H' := Aside0.mk H
         clear H
         have p239 : 0 ≤ (x13_1 : Int) := of_decide_eq_true (by first | (with_reducible assumption) | assumption)
         have q239 : x13_1 < (l0.length : Int) := of_decide_eq_true (by first | (with_reducible assumption) | assumption)
         obtain ⟨ad239, e239, hx239_0⟩ := Kd.at_int HR0.out x13_1 p239 q239
         cases e239
         replace p239 := eq_true p239
         replace q239 := eq_true q239
         have p240 : 0 ≤ (x13_1 : Int) := of_decide_eq_true (by first | (with_reducible assumption) | assumption)
         have q240 : x13_1 < (l1.length : Int) := of_decide_eq_true (by first | (with_reducible assumption) | assumption)
         obtain ⟨ad240, e240, hx240_0⟩ := Kd.at_int HR1.out x13_1 p240 q240
         cases e240
         replace p240 := eq_true p240
         replace q240 := eq_true q240
         go_wp2
         repeat (go_quiet (fail); try go_wp2)
         go_roundg k1
         case measure => have := HK1.out; omega
         case rel => exact ⟨(wrap64 (x13_1 + 1)), (by first | rfl | (simp; done) | (simp [*]; done)), H', ⟨by have := HK1.out; omega⟩, by repeat (first | exact Drawn0.refl _ | apply Drawn0.step)⟩
        ·rw [if_neg c8] at H
         have c8b0 : ((rd l0 x13_1) == (rd l1 x13_1)) = false := beq_eq_false_iff_ne.mpr c8
         try simp only [beq_self_eq_true, Bool.not_true, Bool.false_or, Bool.true_and] at c8b0
         have c8b1 : ((rd l0 x13_1) != (rd l1 x13_1)) = true := bne_iff_ne.mpr c8
         obtain rfl := Option.some.inj H
         have p239 : 0 ≤ (x13_1 : Int) := of_decide_eq_true (by first | (with_reducible assumption) | assumption)
         have q239 : x13_1 < (l0.length : Int) := of_decide_eq_true (by first | (with_reducible assumption) | assumption)
         obtain ⟨ad239, e239, hx239_0⟩ := Kd.at_int HR0.out x13_1 p239 q239
         cases e239
         replace p239 := eq_true p239
         replace q239 := eq_true q239
         have p240 : 0 ≤ (x13_1 : Int) := of_decide_eq_true (by first | (with_reducible assumption) | assumption)
         have q240 : x13_1 < (l1.length : Int) := of_decide_eq_true (by first | (with_reducible assumption) | assumption)
         obtain ⟨ad240, e240, hx240_0⟩ := Kd.at_int HR1.out x13_1 p240 q240
         cases e240
         replace p240 := eq_true p240
         replace q240 := eq_true q240
         go_wp2
         repeat (go_quiet (fail); try go_wp2)
         go_ret
         exact ⟨by first | rfl | (simp; done) | (simp [*]; done), by repeat (first | exact Drawn0.refl _ | apply Drawn0.step)⟩
       ·rw [if_neg c7] at H
        exact absurd H (by simp)
      ·rw [if_neg c6] at H
       exact absurd H (by simp)
     ·rw [if_neg c5] at H
      exact absurd H (by simp)
    ·rw [if_neg c4] at H
     have c4b0 : decide (x13_1 < (l0.length : Int)) = false := decide_eq_false c4
     clear c4
     obtain rfl := Option.some.inj H
     go_wp2
     repeat (go_quiet (fail); try go_wp2)
     go_ret
     exact ⟨by first | rfl | (simp; done) | (simp [*]; done), by repeat (first | exact Drawn0.refl _ | apply Drawn0.step)⟩
 ·rw [if_neg c3] at H
  have c3b0 : ((l0.length : Int) == (l1.length : Int)) = false := beq_eq_false_iff_ne.mpr c3
  try simp only [beq_self_eq_true, Bool.not_true, Bool.false_or, Bool.true_and] at c3b0
  have c3b1 : ((l0.length : Int) != (l1.length : Int)) = true := bne_iff_ne.mpr c3
  have c3b2 : (l0.length == l1.length) = false := by first | simpa using c3 | (simp at c3 ⊢; omega)
  obtain rfl := Option.some.inj H
  go_enter Try.func32, Try.ntmps32
  go_wp2
  repeat (go_quiet (fail); try go_wp2)
  go_ret
  exact ⟨by first | rfl | (simp; done) | (simp [*]; done), by repeat (first | exact Drawn0.refl _ | apply Drawn0.step)⟩

/-! ### spilelaw33_awake: function 10 -/
def spilelaw33_awake.f (k : Nat)  : Option (Bool) := (some (([5, 1, 5, 9] : List Int) : List Int)).bind fun y241 => ((rank_Ranks.f k y241).bind fun bt244 => ((rank_Quantile.f k y241 1 2).bind fun bt248 => ((rank_AtLeast.f (([9, 5] : List Int)) (([1, 4] : List Int))).bind fun bt256 => ((rank_Rises.f k (([3, 1, 2] : List Int))).bind fun bt262 => ((rank_Orders.f k 3 2).bind fun bt264 => ((rank_Statistic.f k (([9, 5] : List Int)) (([1, 4] : List Int))).bind fun bt272 => ((slices_Equal_int_int.f k bt244.1 (([5, 2, 5, 8] : List Int))).bind fun t277 => (if t277 = true then (if bt248.1 = 5 then (if bt256.1 = 1 then (if bt256.2.1 = 6 then (if bt262.1 = 1 then (if bt264.1 = 3 then (if bt272.1 = 14 then (some ((wrap64 ((wrap64 ((wrap64 ((wrap64 ((wrap64 (bt244.2 + bt248.2)) + bt256.2.2)) + bt262.2)) + bt264.2)) + bt272.2)) == 0)) else (none)) else (none)) else (none)) else (none)) else (none)) else (none)) else (none)))))))))
theorem spilelaw33_awake.mono : ∀ k, LeO (spilelaw33_awake.f k ) (spilelaw33_awake.f (k + 1) ) := by
 intro  k
 unfold spilelaw33_awake.f
 repeat' first
   | (with_reducible exact rank_Orders.mono _ _ _)
   | (with_reducible exact rank_Quantile.mono _ _ _ _)
   | (with_reducible exact rank_Ranks.mono _ _)
   | (with_reducible exact rank_Rises.mono _ _)
   | (with_reducible exact rank_Statistic.mono _ _ _)
   | (with_reducible exact slices_Equal_int_int.mono _ _ _)
   | (with_reducible exact LeO.refl _)
   | (with_reducible exact LeO.none _)
   | (with_reducible refine LeO.ite ?_ ?_)
   | (with_reducible refine LeO.bind ?_ (fun _ => ?_))
   | exact rank_Orders.mono _ _ _
   | exact rank_Quantile.mono _ _ _ _
   | exact rank_Ranks.mono _ _
   | exact rank_Rises.mono _ _
   | exact rank_Statistic.mono _ _ _
   | exact slices_Equal_int_int.mono _ _ _
   | exact LeO.none _
   | refine LeO.ite ?_ ?_
   | refine LeO.bind ?_ (fun _ => ?_)
set_option maxHeartbeats 8000000 in
set_option maxRecDepth 100000 in
theorem spilelaw33_awake.calls (k : Nat)  (r : Bool) (w : World) (h : spilelaw33_awake.f k  = some r) :
  Calls Try.prog 10 #[] w fun e w' => e = .returned (.bool r) ∧ Below w.heap.size w w' := by
 have HB := Aside0.mk (Below.refl w.heap.size w)
 have H : ((some (([5, 1, 5, 9] : List Int) : List Int)).bind fun y241 => ((rank_Ranks.f k y241).bind fun bt244 => ((rank_Quantile.f k y241 1 2).bind fun bt248 => ((rank_AtLeast.f (([9, 5] : List Int)) (([1, 4] : List Int))).bind fun bt256 => ((rank_Rises.f k (([3, 1, 2] : List Int))).bind fun bt262 => ((rank_Orders.f k 3 2).bind fun bt264 => ((rank_Statistic.f k (([9, 5] : List Int)) (([1, 4] : List Int))).bind fun bt272 => ((slices_Equal_int_int.f k bt244.1 (([5, 2, 5, 8] : List Int))).bind fun t277 => (if t277 = true then (if bt248.1 = 5 then (if bt256.1 = 1 then (if bt256.2.1 = 6 then (if bt262.1 = 1 then (if bt264.1 = 3 then (if bt272.1 = 14 then (some ((wrap64 ((wrap64 ((wrap64 ((wrap64 ((wrap64 (bt244.2 + bt248.2)) + bt256.2.2)) + bt262.2)) + bt264.2)) + bt272.2)) == 0)) else (none)) else (none)) else (none)) else (none)) else (none)) else (none)) else (none)))))))))) = some r := h
 clear h
 obtain ⟨y241, hy241⟩ : ∃ y_ : List Int, y_ = (([5, 1, 5, 9] : List Int)) := ⟨_, rfl⟩
 replace H : ((rank_Ranks.f k y241).bind fun bt244 => ((rank_Quantile.f k y241 1 2).bind fun bt248 => ((rank_AtLeast.f (([9, 5] : List Int)) (([1, 4] : List Int))).bind fun bt256 => ((rank_Rises.f k (([3, 1, 2] : List Int))).bind fun bt262 => ((rank_Orders.f k 3 2).bind fun bt264 => ((rank_Statistic.f k (([9, 5] : List Int)) (([1, 4] : List Int))).bind fun bt272 => ((slices_Equal_int_int.f k bt244.1 (([5, 2, 5, 8] : List Int))).bind fun t277 => (if t277 = true then (if bt248.1 = 5 then (if bt256.1 = 1 then (if bt256.2.1 = 6 then (if bt262.1 = 1 then (if bt264.1 = 3 then (if bt272.1 = 14 then (some ((wrap64 ((wrap64 ((wrap64 ((wrap64 ((wrap64 (bt244.2 + bt248.2)) + bt256.2.2)) + bt262.2)) + bt264.2)) + bt272.2)) == 0)) else (none)) else (none)) else (none)) else (none)) else (none)) else (none)) else (none))))))))) = some r := by first | (rw [hy241]; with_reducible exact H) | (have H2_ := (Option.bind_some _ _).symm.trans H; rw [hy241]; with_reducible exact H2_) | (have H2_ := (Option.bind_some _ _).symm.trans H; with_reducible exact H2_) | with_reducible exact H | (rw [hy241]; exact H) | exact H
 have Ny241 := Aside0.mk hy241
 clear hy241
 replace H := Option.bind_eq_some_iff.mp H
 obtain ⟨⟨t244, t245⟩, A10, H⟩ := H
 replace H : ((rank_Quantile.f k y241 1 2).bind fun bt248 => ((rank_AtLeast.f (([9, 5] : List Int)) (([1, 4] : List Int))).bind fun bt256 => ((rank_Rises.f k (([3, 1, 2] : List Int))).bind fun bt262 => ((rank_Orders.f k 3 2).bind fun bt264 => ((rank_Statistic.f k (([9, 5] : List Int)) (([1, 4] : List Int))).bind fun bt272 => ((slices_Equal_int_int.f k t244 (([5, 2, 5, 8] : List Int))).bind fun t277 => (if t277 = true then (if bt248.1 = 5 then (if bt256.1 = 1 then (if bt256.2.1 = 6 then (if bt262.1 = 1 then (if bt264.1 = 3 then (if bt272.1 = 14 then (some ((wrap64 ((wrap64 ((wrap64 ((wrap64 ((wrap64 (t245 + bt248.2)) + bt256.2.2)) + bt262.2)) + bt264.2)) + bt272.2)) == 0)) else (none)) else (none)) else (none)) else (none)) else (none)) else (none)) else (none)))))))) = some r := H
 have A1 := Aside0.mk A10
 clear A10
 replace H := Option.bind_eq_some_iff.mp H
 obtain ⟨⟨t248, t249⟩, A20, H⟩ := H
 replace H : ((rank_AtLeast.f (([9, 5] : List Int)) (([1, 4] : List Int))).bind fun bt256 => ((rank_Rises.f k (([3, 1, 2] : List Int))).bind fun bt262 => ((rank_Orders.f k 3 2).bind fun bt264 => ((rank_Statistic.f k (([9, 5] : List Int)) (([1, 4] : List Int))).bind fun bt272 => ((slices_Equal_int_int.f k t244 (([5, 2, 5, 8] : List Int))).bind fun t277 => (if t277 = true then (if t248 = 5 then (if bt256.1 = 1 then (if bt256.2.1 = 6 then (if bt262.1 = 1 then (if bt264.1 = 3 then (if bt272.1 = 14 then (some ((wrap64 ((wrap64 ((wrap64 ((wrap64 ((wrap64 (t245 + t249)) + bt256.2.2)) + bt262.2)) + bt264.2)) + bt272.2)) == 0)) else (none)) else (none)) else (none)) else (none)) else (none)) else (none)) else (none))))))) = some r := H
 have A2 := Aside0.mk A20
 clear A20
 obtain ⟨y250, hy250⟩ : ∃ y_ : List Int, y_ = (([9, 5] : List Int)) := ⟨_, rfl⟩
 replace H : ((rank_AtLeast.f y250 (([1, 4] : List Int))).bind fun bt256 => ((rank_Rises.f k (([3, 1, 2] : List Int))).bind fun bt262 => ((rank_Orders.f k 3 2).bind fun bt264 => ((rank_Statistic.f k (([9, 5] : List Int)) (([1, 4] : List Int))).bind fun bt272 => ((slices_Equal_int_int.f k t244 (([5, 2, 5, 8] : List Int))).bind fun t277 => (if t277 = true then (if t248 = 5 then (if bt256.1 = 1 then (if bt256.2.1 = 6 then (if bt262.1 = 1 then (if bt264.1 = 3 then (if bt272.1 = 14 then (some ((wrap64 ((wrap64 ((wrap64 ((wrap64 ((wrap64 (t245 + t249)) + bt256.2.2)) + bt262.2)) + bt264.2)) + bt272.2)) == 0)) else (none)) else (none)) else (none)) else (none)) else (none)) else (none)) else (none))))))) = some r := by first | (rw [hy250]; with_reducible exact H) | (have H2_ := (Option.bind_some _ _).symm.trans H; rw [hy250]; with_reducible exact H2_) | (have H2_ := (Option.bind_some _ _).symm.trans H; with_reducible exact H2_) | with_reducible exact H | (rw [hy250]; exact H) | exact H
 have Ny250 := Aside0.mk hy250
 clear hy250
 obtain ⟨y253, hy253⟩ : ∃ y_ : List Int, y_ = (([1, 4] : List Int)) := ⟨_, rfl⟩
 replace H : ((rank_AtLeast.f y250 y253).bind fun bt256 => ((rank_Rises.f k (([3, 1, 2] : List Int))).bind fun bt262 => ((rank_Orders.f k 3 2).bind fun bt264 => ((rank_Statistic.f k (([9, 5] : List Int)) (([1, 4] : List Int))).bind fun bt272 => ((slices_Equal_int_int.f k t244 (([5, 2, 5, 8] : List Int))).bind fun t277 => (if t277 = true then (if t248 = 5 then (if bt256.1 = 1 then (if bt256.2.1 = 6 then (if bt262.1 = 1 then (if bt264.1 = 3 then (if bt272.1 = 14 then (some ((wrap64 ((wrap64 ((wrap64 ((wrap64 ((wrap64 (t245 + t249)) + bt256.2.2)) + bt262.2)) + bt264.2)) + bt272.2)) == 0)) else (none)) else (none)) else (none)) else (none)) else (none)) else (none)) else (none))))))) = some r := by first | (rw [hy253]; with_reducible exact H) | (have H2_ := (Option.bind_some _ _).symm.trans H; rw [hy253]; with_reducible exact H2_) | (have H2_ := (Option.bind_some _ _).symm.trans H; with_reducible exact H2_) | with_reducible exact H | (rw [hy253]; exact H) | exact H
 have Ny253 := Aside0.mk hy253
 clear hy253
 replace H := Option.bind_eq_some_iff.mp H
 obtain ⟨⟨t256, t257, t258⟩, A30, H⟩ := H
 replace H : ((rank_Rises.f k (([3, 1, 2] : List Int))).bind fun bt262 => ((rank_Orders.f k 3 2).bind fun bt264 => ((rank_Statistic.f k (([9, 5] : List Int)) (([1, 4] : List Int))).bind fun bt272 => ((slices_Equal_int_int.f k t244 (([5, 2, 5, 8] : List Int))).bind fun t277 => (if t277 = true then (if t248 = 5 then (if t256 = 1 then (if t257 = 6 then (if bt262.1 = 1 then (if bt264.1 = 3 then (if bt272.1 = 14 then (some ((wrap64 ((wrap64 ((wrap64 ((wrap64 ((wrap64 (t245 + t249)) + t258)) + bt262.2)) + bt264.2)) + bt272.2)) == 0)) else (none)) else (none)) else (none)) else (none)) else (none)) else (none)) else (none)))))) = some r := H
 have A3 := Aside0.mk A30
 clear A30
 obtain ⟨y259, hy259⟩ : ∃ y_ : List Int, y_ = (([3, 1, 2] : List Int)) := ⟨_, rfl⟩
 replace H : ((rank_Rises.f k y259).bind fun bt262 => ((rank_Orders.f k 3 2).bind fun bt264 => ((rank_Statistic.f k (([9, 5] : List Int)) (([1, 4] : List Int))).bind fun bt272 => ((slices_Equal_int_int.f k t244 (([5, 2, 5, 8] : List Int))).bind fun t277 => (if t277 = true then (if t248 = 5 then (if t256 = 1 then (if t257 = 6 then (if bt262.1 = 1 then (if bt264.1 = 3 then (if bt272.1 = 14 then (some ((wrap64 ((wrap64 ((wrap64 ((wrap64 ((wrap64 (t245 + t249)) + t258)) + bt262.2)) + bt264.2)) + bt272.2)) == 0)) else (none)) else (none)) else (none)) else (none)) else (none)) else (none)) else (none)))))) = some r := by first | (rw [hy259]; with_reducible exact H) | (have H2_ := (Option.bind_some _ _).symm.trans H; rw [hy259]; with_reducible exact H2_) | (have H2_ := (Option.bind_some _ _).symm.trans H; with_reducible exact H2_) | with_reducible exact H | (rw [hy259]; exact H) | exact H
 have Ny259 := Aside0.mk hy259
 clear hy259
 replace H := Option.bind_eq_some_iff.mp H
 obtain ⟨⟨t262, t263⟩, A40, H⟩ := H
 replace H : ((rank_Orders.f k 3 2).bind fun bt264 => ((rank_Statistic.f k (([9, 5] : List Int)) (([1, 4] : List Int))).bind fun bt272 => ((slices_Equal_int_int.f k t244 (([5, 2, 5, 8] : List Int))).bind fun t277 => (if t277 = true then (if t248 = 5 then (if t256 = 1 then (if t257 = 6 then (if t262 = 1 then (if bt264.1 = 3 then (if bt272.1 = 14 then (some ((wrap64 ((wrap64 ((wrap64 ((wrap64 ((wrap64 (t245 + t249)) + t258)) + t263)) + bt264.2)) + bt272.2)) == 0)) else (none)) else (none)) else (none)) else (none)) else (none)) else (none)) else (none))))) = some r := H
 have A4 := Aside0.mk A40
 clear A40
 replace H := Option.bind_eq_some_iff.mp H
 obtain ⟨⟨t264, t265⟩, A50, H⟩ := H
 replace H : ((rank_Statistic.f k (([9, 5] : List Int)) (([1, 4] : List Int))).bind fun bt272 => ((slices_Equal_int_int.f k t244 (([5, 2, 5, 8] : List Int))).bind fun t277 => (if t277 = true then (if t248 = 5 then (if t256 = 1 then (if t257 = 6 then (if t262 = 1 then (if t264 = 3 then (if bt272.1 = 14 then (some ((wrap64 ((wrap64 ((wrap64 ((wrap64 ((wrap64 (t245 + t249)) + t258)) + t263)) + t265)) + bt272.2)) == 0)) else (none)) else (none)) else (none)) else (none)) else (none)) else (none)) else (none)))) = some r := H
 have A5 := Aside0.mk A50
 clear A50
 obtain ⟨y266, hy266⟩ : ∃ y_ : List Int, y_ = (([9, 5] : List Int)) := ⟨_, rfl⟩
 replace H : ((rank_Statistic.f k y266 (([1, 4] : List Int))).bind fun bt272 => ((slices_Equal_int_int.f k t244 (([5, 2, 5, 8] : List Int))).bind fun t277 => (if t277 = true then (if t248 = 5 then (if t256 = 1 then (if t257 = 6 then (if t262 = 1 then (if t264 = 3 then (if bt272.1 = 14 then (some ((wrap64 ((wrap64 ((wrap64 ((wrap64 ((wrap64 (t245 + t249)) + t258)) + t263)) + t265)) + bt272.2)) == 0)) else (none)) else (none)) else (none)) else (none)) else (none)) else (none)) else (none)))) = some r := by first | (rw [hy266]; with_reducible exact H) | (have H2_ := (Option.bind_some _ _).symm.trans H; rw [hy266]; with_reducible exact H2_) | (have H2_ := (Option.bind_some _ _).symm.trans H; with_reducible exact H2_) | with_reducible exact H | (rw [hy266]; exact H) | exact H
 have Ny266 := Aside0.mk hy266
 clear hy266
 obtain ⟨y269, hy269⟩ : ∃ y_ : List Int, y_ = (([1, 4] : List Int)) := ⟨_, rfl⟩
 replace H : ((rank_Statistic.f k y266 y269).bind fun bt272 => ((slices_Equal_int_int.f k t244 (([5, 2, 5, 8] : List Int))).bind fun t277 => (if t277 = true then (if t248 = 5 then (if t256 = 1 then (if t257 = 6 then (if t262 = 1 then (if t264 = 3 then (if bt272.1 = 14 then (some ((wrap64 ((wrap64 ((wrap64 ((wrap64 ((wrap64 (t245 + t249)) + t258)) + t263)) + t265)) + bt272.2)) == 0)) else (none)) else (none)) else (none)) else (none)) else (none)) else (none)) else (none)))) = some r := by first | (rw [hy269]; with_reducible exact H) | (have H2_ := (Option.bind_some _ _).symm.trans H; rw [hy269]; with_reducible exact H2_) | (have H2_ := (Option.bind_some _ _).symm.trans H; with_reducible exact H2_) | with_reducible exact H | (rw [hy269]; exact H) | exact H
 have Ny269 := Aside0.mk hy269
 clear hy269
 replace H := Option.bind_eq_some_iff.mp H
 obtain ⟨⟨t272, t273⟩, A60, H⟩ := H
 replace H : ((slices_Equal_int_int.f k t244 (([5, 2, 5, 8] : List Int))).bind fun t277 => (if t277 = true then (if t248 = 5 then (if t256 = 1 then (if t257 = 6 then (if t262 = 1 then (if t264 = 3 then (if t272 = 14 then (some ((wrap64 ((wrap64 ((wrap64 ((wrap64 ((wrap64 (t245 + t249)) + t258)) + t263)) + t265)) + t273)) == 0)) else (none)) else (none)) else (none)) else (none)) else (none)) else (none)) else (none))) = some r := H
 have A6 := Aside0.mk A60
 clear A60
 obtain ⟨y274, hy274⟩ : ∃ y_ : List Int, y_ = (([5, 2, 5, 8] : List Int)) := ⟨_, rfl⟩
 replace H : ((slices_Equal_int_int.f k t244 y274).bind fun t277 => (if t277 = true then (if t248 = 5 then (if t256 = 1 then (if t257 = 6 then (if t262 = 1 then (if t264 = 3 then (if t272 = 14 then (some ((wrap64 ((wrap64 ((wrap64 ((wrap64 ((wrap64 (t245 + t249)) + t258)) + t263)) + t265)) + t273)) == 0)) else (none)) else (none)) else (none)) else (none)) else (none)) else (none)) else (none))) = some r := by first | (rw [hy274]; with_reducible exact H) | (have H2_ := (Option.bind_some _ _).symm.trans H; rw [hy274]; with_reducible exact H2_) | (have H2_ := (Option.bind_some _ _).symm.trans H; with_reducible exact H2_) | with_reducible exact H | (rw [hy274]; exact H) | exact H
 have Ny274 := Aside0.mk hy274
 clear hy274
 replace H := Option.bind_eq_some_iff.mp H
 obtain ⟨t277, A70, H⟩ := H
 replace H : (if t277 = true then (if t248 = 5 then (if t256 = 1 then (if t257 = 6 then (if t262 = 1 then (if t264 = 3 then (if t272 = 14 then (some ((wrap64 ((wrap64 ((wrap64 ((wrap64 ((wrap64 (t245 + t249)) + t258)) + t263)) + t265)) + t273)) == 0)) else (none)) else (none)) else (none)) else (none)) else (none)) else (none)) else (none)) = some r := H
 have A7 := Aside0.mk A70
 clear A70
 by_cases c8 : t277 = true
 ·subst c8
  have H1 : (if t248 = 5 then (if t256 = 1 then (if t257 = 6 then (if t262 = 1 then (if t264 = 3 then (if t272 = 14 then (some ((wrap64 ((wrap64 ((wrap64 ((wrap64 ((wrap64 (t245 + t249)) + t258)) + t263)) + t265)) + t273)) == 0)) else (none)) else (none)) else (none)) else (none)) else (none)) else (none)) = some r := by rw [if_pos rfl] at H; exact H
  clear H
  have H := H1
  clear H1
  by_cases c9 : t248 = 5
  ·rw [if_pos c9] at H
   have c9b0 : (t248 == 5) = true := beq_iff_eq.mpr c9
   try simp only [beq_self_eq_true, Bool.not_true, Bool.false_or, Bool.true_and] at c9b0
   have c9b1 : (t248 != 5) = false := bne_eq_false_iff_eq.mpr c9
   clear c9
   by_cases c10 : t256 = 1
   ·rw [if_pos c10] at H
    have c10b0 : (t256 == 1) = true := beq_iff_eq.mpr c10
    try simp only [beq_self_eq_true, Bool.not_true, Bool.false_or, Bool.true_and] at c10b0
    have c10b1 : (t256 != 1) = false := bne_eq_false_iff_eq.mpr c10
    clear c10
    by_cases c11 : t257 = 6
    ·rw [if_pos c11] at H
     have c11b0 : (t257 == 6) = true := beq_iff_eq.mpr c11
     try simp only [beq_self_eq_true, Bool.not_true, Bool.false_or, Bool.true_and] at c11b0
     have c11b1 : (t257 != 6) = false := bne_eq_false_iff_eq.mpr c11
     clear c11
     by_cases c12 : t262 = 1
     ·rw [if_pos c12] at H
      have c12b0 : (t262 == 1) = true := beq_iff_eq.mpr c12
      try simp only [beq_self_eq_true, Bool.not_true, Bool.false_or, Bool.true_and] at c12b0
      have c12b1 : (t262 != 1) = false := bne_eq_false_iff_eq.mpr c12
      clear c12
      by_cases c13 : t264 = 3
      ·rw [if_pos c13] at H
       have c13b0 : (t264 == 3) = true := beq_iff_eq.mpr c13
       try simp only [beq_self_eq_true, Bool.not_true, Bool.false_or, Bool.true_and] at c13b0
       have c13b1 : (t264 != 3) = false := bne_eq_false_iff_eq.mpr c13
       clear c13
       by_cases c14 : t272 = 14
       ·rw [if_pos c14] at H
        have c14b0 : (t272 == 14) = true := beq_iff_eq.mpr c14
        try simp only [beq_self_eq_true, Bool.not_true, Bool.false_or, Bool.true_and] at c14b0
        have c14b1 : (t272 != 14) = false := bne_eq_false_iff_eq.mpr c14
        clear c14
        obtain rfl := Option.some.inj H
        go_enter Try.func10, Try.ntmps10
        go_wp2_with (first | ((with_reducible refine gqD (N := 15) rfl ?_); refine Kd.R_lit (Kd.int .i64) _ 3 ?hg (N := 15) ?hd (xs := ([5, 1, 5, 9] : List Int)) (inner := [.int .i64 5, .int .i64 1, .int .i64 5, .int .i64 9]) (ok := fun _ => True) (okp := fun _ => True) ?hr ?hp (fun _ hk => hk) trivial (Below.refl _ _) (Nat.le_refl _) (by simp) ?_; (case hd => rfl); (case hg => rfl); (case hr => first | (go_simp; done) | (go_simp; rfl)); (case hp => exact (Reps.one (show Kd.M (Kd.int .i64) _ _ _ 5 [.int .i64 5] from rfl) (Reps.one (show Kd.M (Kd.int .i64) _ _ _ 1 [.int .i64 1] from rfl) (Reps.one (show Kd.M (Kd.int .i64) _ _ _ 5 [.int .i64 5] from rfl) (Reps.one (show Kd.M (Kd.int .i64) _ _ _ 9 [.int .i64 9] from rfl) (Reps.none _ _)))))); intro v242 w15 ho16 hb hg_ hnew_; clear hg_ hnew_; (first | rw [← Ny241.out] at ho16 | (simp only [Int.reduceToNat] at ho16; rw [← Ny241.out] at ho16)); have n0_ := Aside0.mk (Kd.R_lower ho16 (lqZ (by repeat (first | (with_reducible first | exact HB.out | apply lqA | apply lqN | apply lqD) | exact HB.out)))); have n1_ := Aside0.mk (lqT (by repeat (first | (with_reducible first | exact HB.out | apply lqA | apply lqN | apply lqD) | exact HB.out)) hb); clear HB; have HO243 := n0_; have HB := n1_; clear n0_ n1_; clear hb ho16; obtain ⟨Ao17, co17, eo17⟩ := Kd.R_slice HO243.out; subst eo17) | ((with_reducible refine gqC (f := 18) rfl ?_); refine goesL_ (some 18) rfl rfl Try.func18 (by kernel_rfl) rfl #[.slice Ao17 y241.length co17] rfl (by (try simp only [List.map_toArray, List.map_cons, List.map_nil]); first | done | rfl | (simp only [List.length_drop, List.length_take]; rfl)) ?_; (with_reducible refine (rank_Ranks.calls k _ _ y241 t244 t245 _ ?side1 ?side2 A1.out).mono ?_); (case side1 => repeat (first | exact (Kd.R_reads' HO243.out).2.2 | (with_reducible refine Kd.C_alloc ?_ _) | (with_reducible refine Kd.C_drewN ?_ _) | (with_reducible refine Kd.C_drew ?_))); (case side2 => exact (Kd.R_reads' HO243.out).2.1); rintro e w18 ⟨v246, rfl, ho0, hb⟩; refine ⟨_, rfl, ?_⟩; have n0_ := Aside0.mk (Kd.R_elder' (by (with_reducible repeat (first | apply Kd.R_alloc | apply Kd.R_drewN | apply Kd.R_drew)); exact HO243.out) (Kd.R_base ho0) hb); have n1_ := Aside0.mk (Kd.R_lower (Kd.R_new' ho0 (Kd.R_lt (by (with_reducible repeat (first | apply Kd.R_alloc | apply Kd.R_drewN | apply Kd.R_drew)); exact HO243.out))) (lqZ (by repeat (first | (with_reducible first | exact HB.out | apply lqA | apply lqN | apply lqD) | exact HB.out)))); have n2_ := Aside0.mk (lqT (by repeat (first | (with_reducible first | exact HB.out | apply lqA | apply lqN | apply lqD) | exact HB.out)) hb); clear HO243; clear HB; have HO243 := n0_; have HO247 := n1_; have HB := n2_; clear n0_ n1_ n2_; (try clear hb); (try clear hb2); (try clear hk); (try clear hi); (try clear ho0)) | ((with_reducible refine gqC (f := 16) rfl ?_); refine goesL_ (some 23) rfl rfl Try.func16 (by kernel_rfl) rfl #[.slice Ao17 y241.length co17, .int .i64 1, .int .i64 2] rfl (by (try simp only [List.map_toArray, List.map_cons, List.map_nil]); first | done | rfl | (simp only [List.length_drop, List.length_take]; rfl)) ?_; (with_reducible refine (rank_Quantile.calls k _ _ y241 1 2 t248 t249 _ ?side1 ?side2 A2.out).mono ?_); (case side1 => repeat (first | exact (Kd.R_reads' HO243.out).2.2 | (with_reducible refine Kd.C_alloc ?_ _) | (with_reducible refine Kd.C_drewN ?_ _) | (with_reducible refine Kd.C_drew ?_))); (case side2 => exact (Kd.R_reads' HO243.out).2.1); rintro e w19 ⟨rfl, hb⟩; refine ⟨_, rfl, ?_⟩; have n0_ := Aside0.mk (Kd.R_below (by (with_reducible repeat (first | apply Kd.R_alloc | apply Kd.R_drewN | apply Kd.R_drew)); exact HO243.out) hb); have n1_ := Aside0.mk (Kd.R_below (by (with_reducible repeat (first | apply Kd.R_alloc | apply Kd.R_drewN | apply Kd.R_drew)); exact HO247.out) hb); have n2_ := Aside0.mk (lqT (by repeat (first | (with_reducible first | exact HB.out | apply lqA | apply lqN | apply lqD) | exact HB.out)) hb); clear HO243; clear HO247; clear HB; have HO243 := n0_; have HO247 := n1_; have HB := n2_; clear n0_ n1_ n2_; (try clear hb); (try clear hb2); (try clear hk); (try clear hi)) | ((with_reducible refine gqD (N := 27) rfl ?_); refine Kd.R_lit (Kd.int .i64) _ 3 ?hg (N := 27) ?hd (xs := ([9, 5] : List Int)) (inner := [.int .i64 9, .int .i64 5]) (ok := fun _ => True) (okp := fun _ => True) ?hr ?hp (fun _ hk => hk) trivial (Below.refl _ _) (Nat.le_refl _) (by simp) ?_; (case hd => rfl); (case hg => rfl); (case hr => first | (go_simp; done) | (go_simp; rfl)); (case hp => exact (Reps.one (show Kd.M (Kd.int .i64) _ _ _ 9 [.int .i64 9] from rfl) (Reps.one (show Kd.M (Kd.int .i64) _ _ _ 5 [.int .i64 5] from rfl) (Reps.none _ _)))); intro v251 w20 ho21 hb hg_ hnew_; clear hg_ hnew_; (first | rw [← Ny250.out] at ho21 | (simp only [Int.reduceToNat] at ho21; rw [← Ny250.out] at ho21)); have n0_ := Aside0.mk (Kd.R_elder' (by (with_reducible repeat (first | apply Kd.R_alloc | apply Kd.R_drewN | apply Kd.R_drew)); exact HO243.out) (Kd.R_base ho21) hb); have n1_ := Aside0.mk (Kd.R_elder' (by (with_reducible repeat (first | apply Kd.R_alloc | apply Kd.R_drewN | apply Kd.R_drew)); exact HO247.out) (Kd.R_base ho21) hb); have n2_ := Aside0.mk (Kd.R_lower (Kd.R_new' (Kd.R_new' ho21 (Kd.R_lt (by (with_reducible repeat (first | apply Kd.R_alloc | apply Kd.R_drewN | apply Kd.R_drew)); exact HO243.out))) (Kd.R_lt (by (with_reducible repeat (first | apply Kd.R_alloc | apply Kd.R_drewN | apply Kd.R_drew)); exact HO247.out))) (lqZ (by repeat (first | (with_reducible first | exact HB.out | apply lqA | apply lqN | apply lqD) | exact HB.out)))); have n3_ := Aside0.mk (lqT (by repeat (first | (with_reducible first | exact HB.out | apply lqA | apply lqN | apply lqD) | exact HB.out)) hb); clear HO243; clear HO247; clear HB; have HO243 := n0_; have HO247 := n1_; have HO252 := n2_; have HB := n3_; clear n0_ n1_ n2_ n3_; clear hb ho21) | ((with_reducible refine gqD (N := 28) rfl ?_); refine Kd.R_lit (Kd.int .i64) _ 3 ?hg (N := 28) ?hd (xs := ([1, 4] : List Int)) (inner := [.int .i64 1, .int .i64 4]) (ok := fun _ => True) (okp := fun _ => True) ?hr ?hp (fun _ hk => hk) trivial (Below.refl _ _) (Nat.le_refl _) (by simp) ?_; (case hd => rfl); (case hg => rfl); (case hr => first | (go_simp; done) | (go_simp; rfl)); (case hp => exact (Reps.one (show Kd.M (Kd.int .i64) _ _ _ 1 [.int .i64 1] from rfl) (Reps.one (show Kd.M (Kd.int .i64) _ _ _ 4 [.int .i64 4] from rfl) (Reps.none _ _)))); intro v254 w22 ho23 hb hg_ hnew_; clear hg_ hnew_; (first | rw [← Ny253.out] at ho23 | (simp only [Int.reduceToNat] at ho23; rw [← Ny253.out] at ho23)); have n0_ := Aside0.mk (Kd.R_elder' (by (with_reducible repeat (first | apply Kd.R_alloc | apply Kd.R_drewN | apply Kd.R_drew)); exact HO243.out) (Kd.R_base ho23) hb); have n1_ := Aside0.mk (Kd.R_elder' (by (with_reducible repeat (first | apply Kd.R_alloc | apply Kd.R_drewN | apply Kd.R_drew)); exact HO247.out) (Kd.R_base ho23) hb); have n2_ := Aside0.mk (Kd.R_elder' (by (with_reducible repeat (first | apply Kd.R_alloc | apply Kd.R_drewN | apply Kd.R_drew)); exact HO252.out) (Kd.R_base ho23) hb); have n3_ := Aside0.mk (Kd.R_lower (Kd.R_new' (Kd.R_new' (Kd.R_new' ho23 (Kd.R_lt (by (with_reducible repeat (first | apply Kd.R_alloc | apply Kd.R_drewN | apply Kd.R_drew)); exact HO243.out))) (Kd.R_lt (by (with_reducible repeat (first | apply Kd.R_alloc | apply Kd.R_drewN | apply Kd.R_drew)); exact HO247.out))) (Kd.R_lt (by (with_reducible repeat (first | apply Kd.R_alloc | apply Kd.R_drewN | apply Kd.R_drew)); exact HO252.out))) (lqZ (by repeat (first | (with_reducible first | exact HB.out | apply lqA | apply lqN | apply lqD) | exact HB.out)))); have n4_ := Aside0.mk (lqT (by repeat (first | (with_reducible first | exact HB.out | apply lqA | apply lqN | apply lqD) | exact HB.out)) hb); clear HO243; clear HO247; clear HO252; clear HB; have HO243 := n0_; have HO247 := n1_; have HO252 := n2_; have HO255 := n3_; have HB := n4_; clear n0_ n1_ n2_ n3_ n4_; clear hb ho23; obtain ⟨Ao24, co24, eo24⟩ := Kd.R_slice HO252.out; subst eo24; obtain ⟨Ao25, co25, eo25⟩ := Kd.R_slice HO255.out; subst eo25) | ((with_reducible refine gqC (f := 25) rfl ?_); refine goesL_ (some 29) rfl rfl Try.func25 (by kernel_rfl) rfl #[.slice Ao24 y250.length co24, .slice Ao25 y253.length co25] rfl (by (try simp only [List.map_toArray, List.map_cons, List.map_nil]); first | done | rfl | (simp only [List.length_drop, List.length_take]; rfl)) ?_; (with_reducible refine (rank_AtLeast.calls _ _ y250 _ _ y253 t256 t257 t258 _ ?side1 ?side2 ?side3 ?side4 A3.out).mono ?_); (case side1 => repeat (first | exact (Kd.R_reads' HO252.out).2.2 | (with_reducible refine Kd.C_alloc ?_ _) | (with_reducible refine Kd.C_drewN ?_ _) | (with_reducible refine Kd.C_drew ?_))); (case side2 => exact (Kd.R_reads' HO252.out).2.1); (case side3 => repeat (first | exact (Kd.R_reads' HO255.out).2.2 | (with_reducible refine Kd.C_alloc ?_ _) | (with_reducible refine Kd.C_drewN ?_ _) | (with_reducible refine Kd.C_drew ?_))); (case side4 => exact (Kd.R_reads' HO255.out).2.1); rintro e w26 ⟨rfl, hb⟩; refine ⟨_, rfl, ?_⟩; have n0_ := Aside0.mk (Kd.R_below (by (with_reducible repeat (first | apply Kd.R_alloc | apply Kd.R_drewN | apply Kd.R_drew)); exact HO243.out) hb); have n1_ := Aside0.mk (Kd.R_below (by (with_reducible repeat (first | apply Kd.R_alloc | apply Kd.R_drewN | apply Kd.R_drew)); exact HO247.out) hb); have n2_ := Aside0.mk (Kd.R_below (by (with_reducible repeat (first | apply Kd.R_alloc | apply Kd.R_drewN | apply Kd.R_drew)); exact HO252.out) hb); have n3_ := Aside0.mk (Kd.R_below (by (with_reducible repeat (first | apply Kd.R_alloc | apply Kd.R_drewN | apply Kd.R_drew)); exact HO255.out) hb); have n4_ := Aside0.mk (lqT (by repeat (first | (with_reducible first | exact HB.out | apply lqA | apply lqN | apply lqD) | exact HB.out)) hb); clear HO243; clear HO247; clear HO252; clear HO255; clear HB; have HO243 := n0_; have HO247 := n1_; have HO252 := n2_; have HO255 := n3_; have HB := n4_; clear n0_ n1_ n2_ n3_ n4_; (try clear hb); (try clear hb2); (try clear hk); (try clear hi)) | ((with_reducible refine gqD (N := 34) rfl ?_); refine Kd.R_lit (Kd.int .i64) _ 3 ?hg (N := 34) ?hd (xs := ([3, 1, 2] : List Int)) (inner := [.int .i64 3, .int .i64 1, .int .i64 2]) (ok := fun _ => True) (okp := fun _ => True) ?hr ?hp (fun _ hk => hk) trivial (Below.refl _ _) (Nat.le_refl _) (by simp) ?_; (case hd => rfl); (case hg => rfl); (case hr => first | (go_simp; done) | (go_simp; rfl)); (case hp => exact (Reps.one (show Kd.M (Kd.int .i64) _ _ _ 3 [.int .i64 3] from rfl) (Reps.one (show Kd.M (Kd.int .i64) _ _ _ 1 [.int .i64 1] from rfl) (Reps.one (show Kd.M (Kd.int .i64) _ _ _ 2 [.int .i64 2] from rfl) (Reps.none _ _))))); intro v260 w27 ho28 hb hg_ hnew_; clear hg_ hnew_; (first | rw [← Ny259.out] at ho28 | (simp only [Int.reduceToNat] at ho28; rw [← Ny259.out] at ho28)); have n0_ := Aside0.mk (Kd.R_elder' (by (with_reducible repeat (first | apply Kd.R_alloc | apply Kd.R_drewN | apply Kd.R_drew)); exact HO243.out) (Kd.R_base ho28) hb); have n1_ := Aside0.mk (Kd.R_elder' (by (with_reducible repeat (first | apply Kd.R_alloc | apply Kd.R_drewN | apply Kd.R_drew)); exact HO247.out) (Kd.R_base ho28) hb); have n2_ := Aside0.mk (Kd.R_elder' (by (with_reducible repeat (first | apply Kd.R_alloc | apply Kd.R_drewN | apply Kd.R_drew)); exact HO252.out) (Kd.R_base ho28) hb); have n3_ := Aside0.mk (Kd.R_elder' (by (with_reducible repeat (first | apply Kd.R_alloc | apply Kd.R_drewN | apply Kd.R_drew)); exact HO255.out) (Kd.R_base ho28) hb); have n4_ := Aside0.mk (Kd.R_lower (Kd.R_new' (Kd.R_new' (Kd.R_new' (Kd.R_new' ho28 (Kd.R_lt (by (with_reducible repeat (first | apply Kd.R_alloc | apply Kd.R_drewN | apply Kd.R_drew)); exact HO243.out))) (Kd.R_lt (by (with_reducible repeat (first | apply Kd.R_alloc | apply Kd.R_drewN | apply Kd.R_drew)); exact HO247.out))) (Kd.R_lt (by (with_reducible repeat (first | apply Kd.R_alloc | apply Kd.R_drewN | apply Kd.R_drew)); exact HO252.out))) (Kd.R_lt (by (with_reducible repeat (first | apply Kd.R_alloc | apply Kd.R_drewN | apply Kd.R_drew)); exact HO255.out))) (lqZ (by repeat (first | (with_reducible first | exact HB.out | apply lqA | apply lqN | apply lqD) | exact HB.out)))); have n5_ := Aside0.mk (lqT (by repeat (first | (with_reducible first | exact HB.out | apply lqA | apply lqN | apply lqD) | exact HB.out)) hb); clear HO243; clear HO247; clear HO252; clear HO255; clear HB; have HO243 := n0_; have HO247 := n1_; have HO252 := n2_; have HO255 := n3_; have HO261 := n4_; have HB := n5_; clear n0_ n1_ n2_ n3_ n4_ n5_; clear hb ho28; obtain ⟨Ao29, co29, eo29⟩ := Kd.R_slice HO261.out; subst eo29) | ((with_reducible refine gqC (f := 20) rfl ?_); refine goesL_ (some 35) rfl rfl Try.func20 (by kernel_rfl) rfl #[.slice Ao29 y259.length co29] rfl (by (try simp only [List.map_toArray, List.map_cons, List.map_nil]); first | done | rfl | (simp only [List.length_drop, List.length_take]; rfl)) ?_; (with_reducible refine (rank_Rises.calls k _ _ y259 t262 t263 _ ?side1 ?side2 A4.out).mono ?_); (case side1 => repeat (first | exact (Kd.R_reads' HO261.out).2.2 | (with_reducible refine Kd.C_alloc ?_ _) | (with_reducible refine Kd.C_drewN ?_ _) | (with_reducible refine Kd.C_drew ?_))); (case side2 => exact (Kd.R_reads' HO261.out).2.1); rintro e w' ⟨rfl, ⟨nd, rfl⟩⟩; refine ⟨_, rfl, ?_⟩) | ((with_reducible refine gqC (f := 11) rfl ?_); refine goesL_ (some 39) rfl rfl Try.func11 (by kernel_rfl) rfl #[.int .i64 3, .int .i64 2] rfl (by (try simp only [List.map_toArray, List.map_cons, List.map_nil]); first | done | rfl | (simp only [List.length_drop, List.length_take]; rfl)) ?_; (with_reducible refine (rank_Orders.calls k 3 2 t264 t265 _ A5.out).mono ?_); rintro e w30 ⟨rfl, hb⟩; refine ⟨_, rfl, ?_⟩; have n0_ := Aside0.mk (Kd.R_below (by (with_reducible repeat (first | apply Kd.R_alloc | apply Kd.R_drewN | apply Kd.R_drew)); exact HO243.out) hb); have n1_ := Aside0.mk (Kd.R_below (by (with_reducible repeat (first | apply Kd.R_alloc | apply Kd.R_drewN | apply Kd.R_drew)); exact HO247.out) hb); have n2_ := Aside0.mk (Kd.R_below (by (with_reducible repeat (first | apply Kd.R_alloc | apply Kd.R_drewN | apply Kd.R_drew)); exact HO252.out) hb); have n3_ := Aside0.mk (Kd.R_below (by (with_reducible repeat (first | apply Kd.R_alloc | apply Kd.R_drewN | apply Kd.R_drew)); exact HO255.out) hb); have n4_ := Aside0.mk (Kd.R_below (by (with_reducible repeat (first | apply Kd.R_alloc | apply Kd.R_drewN | apply Kd.R_drew)); exact HO261.out) hb); have n5_ := Aside0.mk (lqT (by repeat (first | (with_reducible first | exact HB.out | apply lqA | apply lqN | apply lqD) | exact HB.out)) hb); clear HO243; clear HO247; clear HO252; clear HO255; clear HO261; clear HB; have HO243 := n0_; have HO247 := n1_; have HO252 := n2_; have HO255 := n3_; have HO261 := n4_; have HB := n5_; clear n0_ n1_ n2_ n3_ n4_ n5_; (try clear hb); (try clear hb2); (try clear hk); (try clear hi)) | ((with_reducible refine gqD (N := 43) rfl ?_); refine Kd.R_lit (Kd.int .i64) _ 3 ?hg (N := 43) ?hd (xs := ([9, 5] : List Int)) (inner := [.int .i64 9, .int .i64 5]) (ok := fun _ => True) (okp := fun _ => True) ?hr ?hp (fun _ hk => hk) trivial (Below.refl _ _) (Nat.le_refl _) (by simp) ?_; (case hd => rfl); (case hg => rfl); (case hr => first | (go_simp; done) | (go_simp; rfl)); (case hp => exact (Reps.one (show Kd.M (Kd.int .i64) _ _ _ 9 [.int .i64 9] from rfl) (Reps.one (show Kd.M (Kd.int .i64) _ _ _ 5 [.int .i64 5] from rfl) (Reps.none _ _)))); intro v267 w31 ho32 hb hg_ hnew_; clear hg_ hnew_; (first | rw [← Ny266.out] at ho32 | (simp only [Int.reduceToNat] at ho32; rw [← Ny266.out] at ho32)); have n0_ := Aside0.mk (Kd.R_elder' (by (with_reducible repeat (first | apply Kd.R_alloc | apply Kd.R_drewN | apply Kd.R_drew)); exact HO243.out) (Kd.R_base ho32) hb); have n1_ := Aside0.mk (Kd.R_elder' (by (with_reducible repeat (first | apply Kd.R_alloc | apply Kd.R_drewN | apply Kd.R_drew)); exact HO247.out) (Kd.R_base ho32) hb); have n2_ := Aside0.mk (Kd.R_elder' (by (with_reducible repeat (first | apply Kd.R_alloc | apply Kd.R_drewN | apply Kd.R_drew)); exact HO252.out) (Kd.R_base ho32) hb); have n3_ := Aside0.mk (Kd.R_elder' (by (with_reducible repeat (first | apply Kd.R_alloc | apply Kd.R_drewN | apply Kd.R_drew)); exact HO255.out) (Kd.R_base ho32) hb); have n4_ := Aside0.mk (Kd.R_elder' (by (with_reducible repeat (first | apply Kd.R_alloc | apply Kd.R_drewN | apply Kd.R_drew)); exact HO261.out) (Kd.R_base ho32) hb); have n5_ := Aside0.mk (Kd.R_lower (Kd.R_new' (Kd.R_new' (Kd.R_new' (Kd.R_new' (Kd.R_new' ho32 (Kd.R_lt (by (with_reducible repeat (first | apply Kd.R_alloc | apply Kd.R_drewN | apply Kd.R_drew)); exact HO243.out))) (Kd.R_lt (by (with_reducible repeat (first | apply Kd.R_alloc | apply Kd.R_drewN | apply Kd.R_drew)); exact HO247.out))) (Kd.R_lt (by (with_reducible repeat (first | apply Kd.R_alloc | apply Kd.R_drewN | apply Kd.R_drew)); exact HO252.out))) (Kd.R_lt (by (with_reducible repeat (first | apply Kd.R_alloc | apply Kd.R_drewN | apply Kd.R_drew)); exact HO255.out))) (Kd.R_lt (by (with_reducible repeat (first | apply Kd.R_alloc | apply Kd.R_drewN | apply Kd.R_drew)); exact HO261.out))) (lqZ (by repeat (first | (with_reducible first | exact HB.out | apply lqA | apply lqN | apply lqD) | exact HB.out)))); have n6_ := Aside0.mk (lqT (by repeat (first | (with_reducible first | exact HB.out | apply lqA | apply lqN | apply lqD) | exact HB.out)) hb); clear HO243; clear HO247; clear HO252; clear HO255; clear HO261; clear HB; have HO243 := n0_; have HO247 := n1_; have HO252 := n2_; have HO255 := n3_; have HO261 := n4_; have HO268 := n5_; have HB := n6_; clear n0_ n1_ n2_ n3_ n4_ n5_ n6_; clear hb ho32) | ((with_reducible refine gqD (N := 44) rfl ?_); refine Kd.R_lit (Kd.int .i64) _ 3 ?hg (N := 44) ?hd (xs := ([1, 4] : List Int)) (inner := [.int .i64 1, .int .i64 4]) (ok := fun _ => True) (okp := fun _ => True) ?hr ?hp (fun _ hk => hk) trivial (Below.refl _ _) (Nat.le_refl _) (by simp) ?_; (case hd => rfl); (case hg => rfl); (case hr => first | (go_simp; done) | (go_simp; rfl)); (case hp => exact (Reps.one (show Kd.M (Kd.int .i64) _ _ _ 1 [.int .i64 1] from rfl) (Reps.one (show Kd.M (Kd.int .i64) _ _ _ 4 [.int .i64 4] from rfl) (Reps.none _ _)))); intro v270 w33 ho34 hb hg_ hnew_; clear hg_ hnew_; (first | rw [← Ny269.out] at ho34 | (simp only [Int.reduceToNat] at ho34; rw [← Ny269.out] at ho34)); have n0_ := Aside0.mk (Kd.R_elder' (by (with_reducible repeat (first | apply Kd.R_alloc | apply Kd.R_drewN | apply Kd.R_drew)); exact HO243.out) (Kd.R_base ho34) hb); have n1_ := Aside0.mk (Kd.R_elder' (by (with_reducible repeat (first | apply Kd.R_alloc | apply Kd.R_drewN | apply Kd.R_drew)); exact HO247.out) (Kd.R_base ho34) hb); have n2_ := Aside0.mk (Kd.R_elder' (by (with_reducible repeat (first | apply Kd.R_alloc | apply Kd.R_drewN | apply Kd.R_drew)); exact HO252.out) (Kd.R_base ho34) hb); have n3_ := Aside0.mk (Kd.R_elder' (by (with_reducible repeat (first | apply Kd.R_alloc | apply Kd.R_drewN | apply Kd.R_drew)); exact HO255.out) (Kd.R_base ho34) hb); have n4_ := Aside0.mk (Kd.R_elder' (by (with_reducible repeat (first | apply Kd.R_alloc | apply Kd.R_drewN | apply Kd.R_drew)); exact HO261.out) (Kd.R_base ho34) hb); have n5_ := Aside0.mk (Kd.R_elder' (by (with_reducible repeat (first | apply Kd.R_alloc | apply Kd.R_drewN | apply Kd.R_drew)); exact HO268.out) (Kd.R_base ho34) hb); have n6_ := Aside0.mk (Kd.R_lower (Kd.R_new' (Kd.R_new' (Kd.R_new' (Kd.R_new' (Kd.R_new' (Kd.R_new' ho34 (Kd.R_lt (by (with_reducible repeat (first | apply Kd.R_alloc | apply Kd.R_drewN | apply Kd.R_drew)); exact HO243.out))) (Kd.R_lt (by (with_reducible repeat (first | apply Kd.R_alloc | apply Kd.R_drewN | apply Kd.R_drew)); exact HO247.out))) (Kd.R_lt (by (with_reducible repeat (first | apply Kd.R_alloc | apply Kd.R_drewN | apply Kd.R_drew)); exact HO252.out))) (Kd.R_lt (by (with_reducible repeat (first | apply Kd.R_alloc | apply Kd.R_drewN | apply Kd.R_drew)); exact HO255.out))) (Kd.R_lt (by (with_reducible repeat (first | apply Kd.R_alloc | apply Kd.R_drewN | apply Kd.R_drew)); exact HO261.out))) (Kd.R_lt (by (with_reducible repeat (first | apply Kd.R_alloc | apply Kd.R_drewN | apply Kd.R_drew)); exact HO268.out))) (lqZ (by repeat (first | (with_reducible first | exact HB.out | apply lqA | apply lqN | apply lqD) | exact HB.out)))); have n7_ := Aside0.mk (lqT (by repeat (first | (with_reducible first | exact HB.out | apply lqA | apply lqN | apply lqD) | exact HB.out)) hb); clear HO243; clear HO247; clear HO252; clear HO255; clear HO261; clear HO268; clear HB; have HO243 := n0_; have HO247 := n1_; have HO252 := n2_; have HO255 := n3_; have HO261 := n4_; have HO268 := n5_; have HO271 := n6_; have HB := n7_; clear n0_ n1_ n2_ n3_ n4_ n5_ n6_ n7_; clear hb ho34; obtain ⟨Ao35, co35, eo35⟩ := Kd.R_slice HO268.out; subst eo35; obtain ⟨Ao36, co36, eo36⟩ := Kd.R_slice HO271.out; subst eo36) | ((with_reducible refine gqC (f := 23) rfl ?_); refine goesL_ (some 45) rfl rfl Try.func23 (by kernel_rfl) rfl #[.slice Ao35 y266.length co35, .slice Ao36 y269.length co36] rfl (by (try simp only [List.map_toArray, List.map_cons, List.map_nil]); first | done | rfl | (simp only [List.length_drop, List.length_take]; rfl)) ?_; (with_reducible refine (rank_Statistic.calls k _ _ y266 _ _ y269 t272 t273 _ ?side1 ?side2 ?side3 ?side4 A6.out).mono ?_); (case side1 => repeat (first | exact (Kd.R_reads' HO268.out).2.2 | (with_reducible refine Kd.C_alloc ?_ _) | (with_reducible refine Kd.C_drewN ?_ _) | (with_reducible refine Kd.C_drew ?_))); (case side2 => exact (Kd.R_reads' HO268.out).2.1); (case side3 => repeat (first | exact (Kd.R_reads' HO271.out).2.2 | (with_reducible refine Kd.C_alloc ?_ _) | (with_reducible refine Kd.C_drewN ?_ _) | (with_reducible refine Kd.C_drew ?_))); (case side4 => exact (Kd.R_reads' HO271.out).2.1); rintro e w37 ⟨rfl, hb⟩; refine ⟨_, rfl, ?_⟩; have n0_ := Aside0.mk (Kd.R_below (by (with_reducible repeat (first | apply Kd.R_alloc | apply Kd.R_drewN | apply Kd.R_drew)); exact HO243.out) hb); have n1_ := Aside0.mk (Kd.R_below (by (with_reducible repeat (first | apply Kd.R_alloc | apply Kd.R_drewN | apply Kd.R_drew)); exact HO247.out) hb); have n2_ := Aside0.mk (Kd.R_below (by (with_reducible repeat (first | apply Kd.R_alloc | apply Kd.R_drewN | apply Kd.R_drew)); exact HO252.out) hb); have n3_ := Aside0.mk (Kd.R_below (by (with_reducible repeat (first | apply Kd.R_alloc | apply Kd.R_drewN | apply Kd.R_drew)); exact HO255.out) hb); have n4_ := Aside0.mk (Kd.R_below (by (with_reducible repeat (first | apply Kd.R_alloc | apply Kd.R_drewN | apply Kd.R_drew)); exact HO261.out) hb); have n5_ := Aside0.mk (Kd.R_below (by (with_reducible repeat (first | apply Kd.R_alloc | apply Kd.R_drewN | apply Kd.R_drew)); exact HO268.out) hb); have n6_ := Aside0.mk (Kd.R_below (by (with_reducible repeat (first | apply Kd.R_alloc | apply Kd.R_drewN | apply Kd.R_drew)); exact HO271.out) hb); have n7_ := Aside0.mk (lqT (by repeat (first | (with_reducible first | exact HB.out | apply lqA | apply lqN | apply lqD) | exact HB.out)) hb); clear HO243; clear HO247; clear HO252; clear HO255; clear HO261; clear HO268; clear HO271; clear HB; have HO243 := n0_; have HO247 := n1_; have HO252 := n2_; have HO255 := n3_; have HO261 := n4_; have HO268 := n5_; have HO271 := n6_; have HB := n7_; clear n0_ n1_ n2_ n3_ n4_ n5_ n6_ n7_; (try clear hb); (try clear hb2); (try clear hk); (try clear hi)) | ((with_reducible refine gqD (N := 49) rfl ?_); refine Kd.R_lit (Kd.int .i64) _ 3 ?hg (N := 49) ?hd (xs := ([5, 2, 5, 8] : List Int)) (inner := [.int .i64 5, .int .i64 2, .int .i64 5, .int .i64 8]) (ok := fun _ => True) (okp := fun _ => True) ?hr ?hp (fun _ hk => hk) trivial (Below.refl _ _) (Nat.le_refl _) (by simp) ?_; (case hd => rfl); (case hg => rfl); (case hr => first | (go_simp; done) | (go_simp; rfl)); (case hp => exact (Reps.one (show Kd.M (Kd.int .i64) _ _ _ 5 [.int .i64 5] from rfl) (Reps.one (show Kd.M (Kd.int .i64) _ _ _ 2 [.int .i64 2] from rfl) (Reps.one (show Kd.M (Kd.int .i64) _ _ _ 5 [.int .i64 5] from rfl) (Reps.one (show Kd.M (Kd.int .i64) _ _ _ 8 [.int .i64 8] from rfl) (Reps.none _ _)))))); intro v275 w38 ho39 hb hg_ hnew_; clear hg_ hnew_; (first | rw [← Ny274.out] at ho39 | (simp only [Int.reduceToNat] at ho39; rw [← Ny274.out] at ho39)); have n0_ := Aside0.mk (Kd.R_elder' (by (with_reducible repeat (first | apply Kd.R_alloc | apply Kd.R_drewN | apply Kd.R_drew)); exact HO243.out) (Kd.R_base ho39) hb); have n1_ := Aside0.mk (Kd.R_elder' (by (with_reducible repeat (first | apply Kd.R_alloc | apply Kd.R_drewN | apply Kd.R_drew)); exact HO247.out) (Kd.R_base ho39) hb); have n2_ := Aside0.mk (Kd.R_elder' (by (with_reducible repeat (first | apply Kd.R_alloc | apply Kd.R_drewN | apply Kd.R_drew)); exact HO252.out) (Kd.R_base ho39) hb); have n3_ := Aside0.mk (Kd.R_elder' (by (with_reducible repeat (first | apply Kd.R_alloc | apply Kd.R_drewN | apply Kd.R_drew)); exact HO255.out) (Kd.R_base ho39) hb); have n4_ := Aside0.mk (Kd.R_elder' (by (with_reducible repeat (first | apply Kd.R_alloc | apply Kd.R_drewN | apply Kd.R_drew)); exact HO261.out) (Kd.R_base ho39) hb); have n5_ := Aside0.mk (Kd.R_elder' (by (with_reducible repeat (first | apply Kd.R_alloc | apply Kd.R_drewN | apply Kd.R_drew)); exact HO268.out) (Kd.R_base ho39) hb); have n6_ := Aside0.mk (Kd.R_elder' (by (with_reducible repeat (first | apply Kd.R_alloc | apply Kd.R_drewN | apply Kd.R_drew)); exact HO271.out) (Kd.R_base ho39) hb); have n7_ := Aside0.mk (Kd.R_lower (Kd.R_new' (Kd.R_new' (Kd.R_new' (Kd.R_new' (Kd.R_new' (Kd.R_new' (Kd.R_new' ho39 (Kd.R_lt (by (with_reducible repeat (first | apply Kd.R_alloc | apply Kd.R_drewN | apply Kd.R_drew)); exact HO243.out))) (Kd.R_lt (by (with_reducible repeat (first | apply Kd.R_alloc | apply Kd.R_drewN | apply Kd.R_drew)); exact HO247.out))) (Kd.R_lt (by (with_reducible repeat (first | apply Kd.R_alloc | apply Kd.R_drewN | apply Kd.R_drew)); exact HO252.out))) (Kd.R_lt (by (with_reducible repeat (first | apply Kd.R_alloc | apply Kd.R_drewN | apply Kd.R_drew)); exact HO255.out))) (Kd.R_lt (by (with_reducible repeat (first | apply Kd.R_alloc | apply Kd.R_drewN | apply Kd.R_drew)); exact HO261.out))) (Kd.R_lt (by (with_reducible repeat (first | apply Kd.R_alloc | apply Kd.R_drewN | apply Kd.R_drew)); exact HO268.out))) (Kd.R_lt (by (with_reducible repeat (first | apply Kd.R_alloc | apply Kd.R_drewN | apply Kd.R_drew)); exact HO271.out))) (lqZ (by repeat (first | (with_reducible first | exact HB.out | apply lqA | apply lqN | apply lqD) | exact HB.out)))); have n8_ := Aside0.mk (lqT (by repeat (first | (with_reducible first | exact HB.out | apply lqA | apply lqN | apply lqD) | exact HB.out)) hb); clear HO243; clear HO247; clear HO252; clear HO255; clear HO261; clear HO268; clear HO271; clear HB; have HO243 := n0_; have HO247 := n1_; have HO252 := n2_; have HO255 := n3_; have HO261 := n4_; have HO268 := n5_; have HO271 := n6_; have HO276 := n7_; have HB := n8_; clear n0_ n1_ n2_ n3_ n4_ n5_ n6_ n7_ n8_; clear hb ho39; obtain ⟨Ao40, co40, eo40⟩ := Kd.R_slice HO247.out; subst eo40; obtain ⟨Ao41, co41, eo41⟩ := Kd.R_slice HO276.out; subst eo41) | ((with_reducible refine gqC (f := 32) rfl ?_); refine goesL_ (some 50) rfl rfl Try.func32 (by kernel_rfl) rfl #[.slice Ao40 t244.length co40, .slice Ao41 y274.length co41] rfl (by (try simp only [List.map_toArray, List.map_cons, List.map_nil]); first | done | rfl | (simp only [List.length_drop, List.length_take]; rfl)) ?_; (with_reducible refine (slices_Equal_int_int.calls k _ _ t244 _ _ y274 true _ ?side1 ?side2 ?side3 ?side4 A7.out).mono ?_); (case side1 => repeat (first | exact (Kd.R_reads' HO247.out).2.2 | (with_reducible refine Kd.C_alloc ?_ _) | (with_reducible refine Kd.C_drewN ?_ _) | (with_reducible refine Kd.C_drew ?_))); (case side2 => exact (Kd.R_reads' HO247.out).2.1); (case side3 => repeat (first | exact (Kd.R_reads' HO276.out).2.2 | (with_reducible refine Kd.C_alloc ?_ _) | (with_reducible refine Kd.C_drewN ?_ _) | (with_reducible refine Kd.C_drew ?_))); (case side4 => exact (Kd.R_reads' HO276.out).2.1); rintro e w' ⟨rfl, ⟨nd, rfl⟩⟩; refine ⟨_, rfl, ?_⟩))
        go_ret
        exact ⟨by first | rfl | (simp [errW_none, errW_some] <;> rfl) | (simp [*, errW_none, errW_some] <;> rfl), by repeat (first | (with_reducible first | exact HB.out | apply lqA | apply lqN | apply lqD) | exact HB.out)⟩
       ·rw [if_neg c14] at H
        exact absurd H (by simp)
      ·rw [if_neg c13] at H
       exact absurd H (by simp)
     ·rw [if_neg c12] at H
      exact absurd H (by simp)
    ·rw [if_neg c11] at H
     exact absurd H (by simp)
   ·rw [if_neg c10] at H
    exact absurd H (by simp)
  ·rw [if_neg c9] at H
   exact absurd H (by simp)
 ·replace c8 := Bool.eq_false_iff.mpr c8
  subst c8
  have H1 : (none) = some r := by rw [if_neg (show ¬ (false = true) by decide)] at H; exact H
  clear H
  have H := H1
  clear H1
  exact absurd H (by simp)

/-! ### spilelaw33_RankComplements: function 3 -/
mutual
def spilelaw33_RankComplements.j0 : Nat → Int → Int → Int → Bool → Option (Bool)
 | 0, _, _, _, _ => none
 | k + 1, x0, x1, x5, x33 => if x33 = true then (none) else ((rank_Orders.f k x0 0).bind fun bt281 => (spilelaw33_RankComplements.l0 k x0 x1 x5 (wrap64 (Int.tdiv (wrap64 (x0 * (wrap64 (x0 - 1)))) 2)) bt281.1 bt281.2 1 2))
def spilelaw33_RankComplements.l0 : Nat → Int → Int → Int → Int → Int → Int → Int → Int → Option (Bool)
 | 0, _, _, _, _, _, _, _, _ => none
 | k + 1, x0, x1, x5, x7, x8, x9, x10, x11 => if x11 ≤ x0 then (spilelaw33_RankComplements.l0 k x0 x1 x5 x7 x8 x9 (wrap64 (x10 * x11)) (wrap64 (x11 + 1))) else (if x9 = 0 then (if x8 = x10 then (if x5 < 1 then (none) else (spilelaw33_RankComplements.j2 k x0 x1 x5 x7 x8 (decide (x5 > x8)))) else (none)) else (none))
def spilelaw33_RankComplements.j2 : Nat → Int → Int → Int → Int → Int → Bool → Option (Bool)
 | 0, _, _, _, _, _, _ => none
 | k + 1, x0, x1, x5, x7, x8, x67 => if x67 = true then (none) else (if x1 = 0 then (some true) else ((rank_Orders.f k x0 (wrap64 (x1 - 1))).bind fun bt283 => ((rank_Orders.f k x0 (wrap64 ((wrap64 (x7 - x1)) + 1))).bind fun bt285 => (if bt283.2 = 0 then (if bt285.2 = 0 then (if bt283.1 ≥ x5 then (some (bt285.1 == (wrap64 (x8 - x5)))) else (none)) else (none)) else (none)))))
end
def spilelaw33_RankComplements.f (k : Nat) (a0 : Int) (a1 : Int) : Option (Bool) := (spilelaw33_awake.f k).bind fun t278 => (if t278 = true then ((rank_Orders.f k a0 a1).bind fun bt279 => (if bt279.2 = 0 then (if a0 < 1 then (none) else (spilelaw33_RankComplements.j0 k a0 a1 bt279.1 (decide (a0 > 20)))) else (some (bt279.1 == 0)))) else (none))
theorem spilelaw33_RankComplements.mono_l : ∀ k, (∀ y0 y1 y2 y3, LeO (spilelaw33_RankComplements.j0 k y0 y1 y2 y3) (spilelaw33_RankComplements.j0 (k + 1) y0 y1 y2 y3)) ∧ (∀ y0 y1 y2 y3 y4 y5 y6 y7, LeO (spilelaw33_RankComplements.l0 k y0 y1 y2 y3 y4 y5 y6 y7) (spilelaw33_RankComplements.l0 (k + 1) y0 y1 y2 y3 y4 y5 y6 y7)) ∧ (∀ y0 y1 y2 y3 y4 y5, LeO (spilelaw33_RankComplements.j2 k y0 y1 y2 y3 y4 y5) (spilelaw33_RankComplements.j2 (k + 1) y0 y1 y2 y3 y4 y5))
 | 0 => ⟨fun _ _ _ _ r h => by simp [spilelaw33_RankComplements.j0] at h, fun _ _ _ _ _ _ _ _ r h => by simp [spilelaw33_RankComplements.l0] at h, fun _ _ _ _ _ _ r h => by simp [spilelaw33_RankComplements.j2] at h⟩
 | k + 1 => by
  obtain ⟨ih0, ih1, ih2⟩ := spilelaw33_RankComplements.mono_l k
  refine ⟨?_, ?_, ?_⟩
  ·intro y0 y1 y2 y3
   unfold spilelaw33_RankComplements.j0
   repeat' first
   | (with_reducible exact ih0 _ _ _ _)
   | (with_reducible exact ih1 _ _ _ _ _ _ _ _)
   | (with_reducible exact ih2 _ _ _ _ _ _)
   | (with_reducible exact rank_Orders.mono _ _ _)
   | (with_reducible exact spilelaw33_awake.mono _)
   | (with_reducible exact LeO.refl _)
   | (with_reducible exact LeO.none _)
   | (with_reducible refine LeO.ite ?_ ?_)
   | (with_reducible refine LeO.bind ?_ (fun _ => ?_))
   | exact ih0 _ _ _ _
   | exact ih1 _ _ _ _ _ _ _ _
   | exact ih2 _ _ _ _ _ _
   | exact rank_Orders.mono _ _ _
   | exact spilelaw33_awake.mono _
   | exact LeO.none _
   | refine LeO.ite ?_ ?_
   | refine LeO.bind ?_ (fun _ => ?_)
  ·intro y0 y1 y2 y3 y4 y5 y6 y7
   unfold spilelaw33_RankComplements.l0
   repeat' first
   | (with_reducible exact ih0 _ _ _ _)
   | (with_reducible exact ih1 _ _ _ _ _ _ _ _)
   | (with_reducible exact ih2 _ _ _ _ _ _)
   | (with_reducible exact rank_Orders.mono _ _ _)
   | (with_reducible exact spilelaw33_awake.mono _)
   | (with_reducible exact LeO.refl _)
   | (with_reducible exact LeO.none _)
   | (with_reducible refine LeO.ite ?_ ?_)
   | (with_reducible refine LeO.bind ?_ (fun _ => ?_))
   | exact ih0 _ _ _ _
   | exact ih1 _ _ _ _ _ _ _ _
   | exact ih2 _ _ _ _ _ _
   | exact rank_Orders.mono _ _ _
   | exact spilelaw33_awake.mono _
   | exact LeO.none _
   | refine LeO.ite ?_ ?_
   | refine LeO.bind ?_ (fun _ => ?_)
  ·intro y0 y1 y2 y3 y4 y5
   unfold spilelaw33_RankComplements.j2
   repeat' first
   | (with_reducible exact ih0 _ _ _ _)
   | (with_reducible exact ih1 _ _ _ _ _ _ _ _)
   | (with_reducible exact ih2 _ _ _ _ _ _)
   | (with_reducible exact rank_Orders.mono _ _ _)
   | (with_reducible exact spilelaw33_awake.mono _)
   | (with_reducible exact LeO.refl _)
   | (with_reducible exact LeO.none _)
   | (with_reducible refine LeO.ite ?_ ?_)
   | (with_reducible refine LeO.bind ?_ (fun _ => ?_))
   | exact ih0 _ _ _ _
   | exact ih1 _ _ _ _ _ _ _ _
   | exact ih2 _ _ _ _ _ _
   | exact rank_Orders.mono _ _ _
   | exact spilelaw33_awake.mono _
   | exact LeO.none _
   | refine LeO.ite ?_ ?_
   | refine LeO.bind ?_ (fun _ => ?_)
theorem spilelaw33_RankComplements.mono : ∀ a0 a1 k, LeO (spilelaw33_RankComplements.f k a0 a1) (spilelaw33_RankComplements.f (k + 1) a0 a1) := by
 intro a0 a1 k
 obtain ⟨ih0, ih1, ih2⟩ := spilelaw33_RankComplements.mono_l k
 unfold spilelaw33_RankComplements.f
 repeat' first
   | (with_reducible exact ih0 _ _ _ _)
   | (with_reducible exact ih1 _ _ _ _ _ _ _ _)
   | (with_reducible exact ih2 _ _ _ _ _ _)
   | (with_reducible exact rank_Orders.mono _ _ _)
   | (with_reducible exact spilelaw33_awake.mono _)
   | (with_reducible exact LeO.refl _)
   | (with_reducible exact LeO.none _)
   | (with_reducible refine LeO.ite ?_ ?_)
   | (with_reducible refine LeO.bind ?_ (fun _ => ?_))
   | exact ih0 _ _ _ _
   | exact ih1 _ _ _ _ _ _ _ _
   | exact ih2 _ _ _ _ _ _
   | exact rank_Orders.mono _ _ _
   | exact spilelaw33_awake.mono _
   | exact LeO.none _
   | refine LeO.ite ?_ ?_
   | refine LeO.bind ?_ (fun _ => ?_)
set_option maxHeartbeats 8000000 in
set_option maxRecDepth 100000 in
theorem spilelaw33_RankComplements.calls (k : Nat) (a0 : Int) (a1 : Int) (r : Bool) (w : World) (h : spilelaw33_RankComplements.f k a0 a1 = some r) :
  Calls Try.prog 3 #[.int .i64 a0, .int .i64 a1] w fun e w' => e = .returned (.bool r) ∧ Below w.heap.size w w' := by
 have HB := Aside0.mk (Below.refl w.heap.size w)
 have H : ((spilelaw33_awake.f k).bind fun t278 => (if t278 = true then ((rank_Orders.f k a0 a1).bind fun bt279 => (if bt279.2 = 0 then (if a0 < 1 then (none) else (spilelaw33_RankComplements.j0 k a0 a1 bt279.1 (decide (a0 > 20)))) else (some (bt279.1 == 0)))) else (none))) = some r := h
 clear h
 replace H := Option.bind_eq_some_iff.mp H
 obtain ⟨t278, A30, H⟩ := H
 replace H : (if t278 = true then ((rank_Orders.f k a0 a1).bind fun bt279 => (if bt279.2 = 0 then (if a0 < 1 then (none) else (spilelaw33_RankComplements.j0 k a0 a1 bt279.1 (decide (a0 > 20)))) else (some (bt279.1 == 0)))) else (none)) = some r := H
 have A3 := Aside0.mk A30
 clear A30
 by_cases c4 : t278 = true
 ·subst c4
  have H1 : ((rank_Orders.f k a0 a1).bind fun bt279 => (if bt279.2 = 0 then (if a0 < 1 then (none) else (spilelaw33_RankComplements.j0 k a0 a1 bt279.1 (decide (a0 > 20)))) else (some (bt279.1 == 0)))) = some r := by rw [if_pos rfl] at H; exact H
  clear H
  have H := H1
  clear H1
  replace H := Option.bind_eq_some_iff.mp H
  obtain ⟨⟨t279, t280⟩, A50, H⟩ := H
  replace H : (if t280 = 0 then (if a0 < 1 then (none) else (spilelaw33_RankComplements.j0 k a0 a1 t279 (decide (a0 > 20)))) else (some (t279 == 0))) = some r := H
  have A5 := Aside0.mk A50
  clear A50
  by_cases c6 : t280 = 0
  ·rw [if_pos c6] at H
   have c6b0 : (t280 == 0) = true := beq_iff_eq.mpr c6
   try simp only [beq_self_eq_true, Bool.not_true, Bool.false_or, Bool.true_and] at c6b0
   have c6b1 : (t280 != 0) = false := bne_eq_false_iff_eq.mpr c6
   clear c6
   have HC7 := Aside0.mk H
   clear H
   go_enter Try.func3, Try.ntmps3
   go_upto_region 6 with (first | ((with_reducible refine gqC (f := 10) rfl ?_); refine goesL_ (some 16) rfl rfl Try.func10 (by kernel_rfl) rfl #[] rfl (by (try simp only [List.map_toArray, List.map_cons, List.map_nil]); first | done | rfl | (simp only [List.length_drop, List.length_take]; rfl)) ?_; (with_reducible refine (spilelaw33_awake.calls k  true _ A3.out).mono ?_); rintro e w8 ⟨rfl, hb⟩; refine ⟨_, rfl, ?_⟩; have n0_ := Aside0.mk (lqT (by repeat (first | (with_reducible first | exact HB.out | apply lqA | apply lqN | apply lqD) | exact HB.out)) hb); clear HB; have HB := n0_; clear n0_; (try clear hb); (try clear hb2); (try clear hk); (try clear hi)) | ((with_reducible refine gqC (f := 11) rfl ?_); refine goesL_ (some 21) rfl rfl Try.func11 (by kernel_rfl) rfl #[.int .i64 a0, .int .i64 a1] rfl (by (try simp only [List.map_toArray, List.map_cons, List.map_nil]); first | done | rfl | (simp only [List.length_drop, List.length_take]; rfl)) ?_; (with_reducible refine (rank_Orders.calls k a0 a1 t279 t280 _ A5.out).mono ?_); rintro e w9 ⟨rfl, hb⟩; refine ⟨_, rfl, ?_⟩; have n0_ := Aside0.mk (lqT (by repeat (first | (with_reducible first | exact HB.out | apply lqA | apply lqN | apply lqD) | exact HB.out)) hb); clear HB; have HB := n0_; clear n0_; (try clear hb); (try clear hb2); (try clear hk); (try clear hi)))
   (try simp only [Act.put, List.setIfInBounds_toArray, List.set_cons_zero, List.set_cons_succ])
   go_cut [33] (fun v33 wc => ∃ (kq : Nat) (x33_6 : Bool), v33 = .bool x33_6 ∧ Aside0 (spilelaw33_RankComplements.j0 kq a0 a1 t279 x33_6 = some r) ∧ Aside0 (kq ≤ k) ∧ Aside0 (Below w.heap.size w wc))
   case first =>
    have H := HC7.out
    clear HC7
    by_cases c10 : a0 < 1
    ·rw [if_pos c10] at H
     exact absurd H (by simp)
    ·rw [if_neg c10] at H
     have c10b0 : decide (a0 < 1) = false := decide_eq_false c10
     clear c10
     (first | rw [c10b0] | (simp only [i64_w, i32_w]; rw [c10b0]) | skip)
     have H' := Aside0.mk H
     clear H
     go_wp2
     go_meet
     case rel => exact ⟨_, (decide (a0 > 20)), (by first | rfl | (simp; done) | (simp [*]; done)), H', ⟨by first | omega | exact Nat.le_refl _⟩, ⟨by repeat (first | (with_reducible first | exact HB.out | apply lqA | apply lqN | apply lqD) | exact HB.out)⟩⟩
   case rest =>
    clear HC7
    try clear c1
    try clear p2
    try clear c3
    try clear c4
    try clear c6
    try clear c6b0
    try clear c6b1
    try clear c10
    try clear c10b0
    obtain ⟨kq, x33_6, rfl, HA, HJ6, HB⟩ := hcut
    cases kq with
    | zero => exact absurd HA.out (by simp [spilelaw33_RankComplements.j0])
    | succ kj6 =>
     have H := HA.out
     clear HA
     simp only [spilelaw33_RankComplements.j0] at H
     by_cases c11 : x33_6 = true
     ·subst c11
      have H1 : (none) = some r := by rw [if_pos rfl] at H; exact H
      clear H
      have H := H1
      clear H1
      exact absurd H (by simp)
     ·replace c11 := Bool.eq_false_iff.mpr c11
      subst c11
      have H1 : ((rank_Orders.f kj6 a0 0).bind fun bt281 => (spilelaw33_RankComplements.l0 kj6 a0 a1 t279 (wrap64 (Int.tdiv (wrap64 (a0 * (wrap64 (a0 - 1)))) 2)) bt281.1 bt281.2 1 2)) = some r := by rw [if_neg (show ¬ (false = true) by decide)] at H; exact H
      clear H
      have H := H1
      clear H1
      replace H := Option.bind_eq_some_iff.mp H
      obtain ⟨⟨t281, t282⟩, A120, H⟩ := H
      replace H : (spilelaw33_RankComplements.l0 kj6 a0 a1 t279 (wrap64 (Int.tdiv (wrap64 (a0 * (wrap64 (a0 - 1)))) 2)) t281 t282 1 2) = some r := H
      have A12 := Aside0.mk A120
      clear A120
      have H' := Aside0.mk H
      clear H
      go_wp2_with (first | ((with_reducible refine gqC (f := 11) rfl ?_); refine goesL_ (some 41) rfl rfl Try.func11 (by kernel_rfl) rfl #[.int .i64 a0, .int .i64 0] rfl (by (try simp only [List.map_toArray, List.map_cons, List.map_nil]); first | done | rfl | (simp only [List.length_drop, List.length_take]; rfl)) ?_; (with_reducible refine (rank_Orders.calls kj6 a0 0 t281 t282 _ A12.out).mono ?_); rintro e w13 ⟨rfl, hb⟩; refine ⟨_, rfl, ?_⟩; have n0_ := Aside0.mk (lqT (by repeat (first | (with_reducible first | exact HB.out | apply lqA | apply lqN | apply lqD) | exact HB.out)) hb); clear HB; have HB := n0_; clear n0_; (try clear hb); (try clear hb2); (try clear hk); (try clear hi)))
      go_loopg [10, 11] kj6 (fun kq v10 v11 w' => ∃ (x10_2 : Int) (x11_2 : Int), v10 = .int .i64 x10_2 ∧ v11 = .int .i64 x11_2 ∧ Aside0 (spilelaw33_RankComplements.l0 kq a0 a1 t279 (wrap64 (Int.tdiv (wrap64 (a0 * (wrap64 (a0 - 1)))) 2)) t281 t282 x10_2 x11_2 = some r) ∧ Aside0 (kq ≤ kj6) ∧ Aside0 (Below w.heap.size w w'))
      case atStart => exact ⟨(1), (2), (by first | rfl | (simp; done) | (simp [*]; done)), (by first | rfl | (simp; done) | (simp [*]; done)), H', ⟨Nat.le_refl _⟩, ⟨by repeat (first | (with_reducible first | exact HB.out | apply lqA | apply lqN | apply lqD) | exact HB.out)⟩⟩
      case round =>
       clear H'
       try clear c1
       try clear p2
       try clear c3
       try clear c4
       try clear c6
       try clear c6b0
       try clear c6b1
       try clear p6
       try clear c10
       try clear c10b0
       try clear c11
       try clear p2
       obtain ⟨x10_2, x11_2, rfl, rfl, HA, HK2, HB⟩ := hrel
       cases gk with
       | zero => exact absurd HA.out (by simp [spilelaw33_RankComplements.l0])
       | succ k2 =>
        have H := HA.out
        clear HA
        simp only [spilelaw33_RankComplements.l0] at H
        by_cases c14 : x11_2 ≤ a0
        ·rw [if_pos c14] at H
         have c14b0 : decide (x11_2 ≤ a0) = true := decide_eq_true c14
         clear c14
         have H' := Aside0.mk H
         clear H
         go_wp2
         go_roundg k2
         case measure => have := HJ6.out; have := HK2.out; omega
         case rel => exact ⟨(wrap64 (x10_2 * x11_2)), (wrap64 (x11_2 + 1)), (by first | rfl | (simp; done) | (simp [*]; done)), (by first | rfl | (simp; done) | (simp [*]; done)), H', ⟨by have := HJ6.out; have := HK2.out; omega⟩, ⟨by repeat (first | (with_reducible first | exact HB.out | apply lqA | apply lqN | apply lqD) | exact HB.out)⟩⟩
        ·rw [if_neg c14] at H
         have c14b0 : decide (x11_2 ≤ a0) = false := decide_eq_false c14
         clear c14
         have HC15 := Aside0.mk H
         clear H
         go_upto_region 15 with (fail)
         go_cut [67] (fun v67 wc => ∃ (kq : Nat) (x67_14 : Bool), v67 = .bool x67_14 ∧ Aside0 (spilelaw33_RankComplements.j2 kq a0 a1 t279 (wrap64 (Int.tdiv (wrap64 (a0 * (wrap64 (a0 - 1)))) 2)) t281 x67_14 = some r) ∧ Aside0 (kq ≤ k2) ∧ Aside0 (Below w.heap.size w wc))
         case first =>
          have H := HC15.out
          clear HC15
          by_cases c16 : t282 = 0
          ·rw [if_pos c16] at H
           have c16b0 : (t282 == 0) = true := beq_iff_eq.mpr c16
           try simp only [beq_self_eq_true, Bool.not_true, Bool.false_or, Bool.true_and] at c16b0
           have c16b1 : (t282 != 0) = false := bne_eq_false_iff_eq.mpr c16
           clear c16
           (first | rw [c16b0] | (simp only [i64_w, i32_w]; rw [c16b0]) | skip)
           by_cases c17 : t281 = x10_2
           ·rw [if_pos c17] at H
            have c17b0 : (t281 == x10_2) = true := beq_iff_eq.mpr c17
            try simp only [beq_self_eq_true, Bool.not_true, Bool.false_or, Bool.true_and] at c17b0
            have c17b1 : (t281 != x10_2) = false := bne_eq_false_iff_eq.mpr c17
            clear c17
            by_cases c18 : t279 < 1
            ·rw [if_pos c18] at H
             exact absurd H (by simp)
            ·rw [if_neg c18] at H
             have c18b0 : decide (t279 < 1) = false := decide_eq_false c18
             clear c18
             have H' := Aside0.mk H
             clear H
             go_wp2
             go_meet
             case rel => exact ⟨_, (decide (t279 > t281)), (by first | rfl | (simp; done) | (simp [*]; done)), H', ⟨by have := HJ6.out; have := HK2.out; first | omega | exact Nat.le_refl _⟩, ⟨by repeat (first | (with_reducible first | exact HB.out | apply lqA | apply lqN | apply lqD) | exact HB.out)⟩⟩
           ·rw [if_neg c17] at H
            exact absurd H (by simp)
          ·rw [if_neg c16] at H
           exact absurd H (by simp)
         case rest =>
          clear HC15
          try clear c1
          try clear p2
          try clear c3
          try clear c4
          try clear c6
          try clear c6b0
          try clear c6b1
          try clear p6
          try clear c10
          try clear c10b0
          try clear c11
          try clear c14
          try clear c14b0
          try clear c16
          try clear c16b0
          try clear c16b1
          try clear c17
          try clear c17b0
          try clear c17b1
          try clear c18
          try clear c18b0
          try clear p2
          try clear p6
          obtain ⟨kq, x67_14, rfl, HA, HJ14, HB⟩ := hcut
          cases kq with
          | zero => exact absurd HA.out (by simp [spilelaw33_RankComplements.j2])
          | succ kj14 =>
           have H := HA.out
           clear HA
           simp only [spilelaw33_RankComplements.j2] at H
           by_cases c19 : x67_14 = true
           ·subst c19
            have H1 : (none) = some r := by rw [if_pos rfl] at H; exact H
            clear H
            have H := H1
            clear H1
            exact absurd H (by simp)
           ·replace c19 := Bool.eq_false_iff.mpr c19
            subst c19
            have H1 : (if a1 = 0 then (some true) else ((rank_Orders.f kj14 a0 (wrap64 (a1 - 1))).bind fun bt283 => ((rank_Orders.f kj14 a0 (wrap64 ((wrap64 ((wrap64 (Int.tdiv (wrap64 (a0 * (wrap64 (a0 - 1)))) 2)) - a1)) + 1))).bind fun bt285 => (if bt283.2 = 0 then (if bt285.2 = 0 then (if bt283.1 ≥ t279 then (some (bt285.1 == (wrap64 (t281 - t279)))) else (none)) else (none)) else (none))))) = some r := by rw [if_neg (show ¬ (false = true) by decide)] at H; exact H
            clear H
            have H := H1
            clear H1
            by_cases c20 : a1 = 0
            ·rw [if_pos c20] at H
             have c20b0 : (a1 == 0) = true := beq_iff_eq.mpr c20
             try simp only [beq_self_eq_true, Bool.not_true, Bool.false_or, Bool.true_and] at c20b0
             have c20b1 : (a1 != 0) = false := bne_eq_false_iff_eq.mpr c20
             clear c20
             obtain rfl := Option.some.inj H
             go_wp2
             go_ret
             exact ⟨by first | rfl | (simp [errW_none, errW_some] <;> rfl) | (simp [*, errW_none, errW_some] <;> rfl), by repeat (first | (with_reducible first | exact HB.out | apply lqA | apply lqN | apply lqD) | exact HB.out)⟩
            ·rw [if_neg c20] at H
             have c20b0 : (a1 == 0) = false := beq_eq_false_iff_ne.mpr c20
             try simp only [beq_self_eq_true, Bool.not_true, Bool.false_or, Bool.true_and] at c20b0
             have c20b1 : (a1 != 0) = true := bne_iff_ne.mpr c20
             replace H := Option.bind_eq_some_iff.mp H
             obtain ⟨⟨t283, t284⟩, A210, H⟩ := H
             replace H : ((rank_Orders.f kj14 a0 (wrap64 ((wrap64 ((wrap64 (Int.tdiv (wrap64 (a0 * (wrap64 (a0 - 1)))) 2)) - a1)) + 1))).bind fun bt285 => (if t284 = 0 then (if bt285.2 = 0 then (if t283 ≥ t279 then (some (bt285.1 == (wrap64 (t281 - t279)))) else (none)) else (none)) else (none))) = some r := H
             have A21 := Aside0.mk A210
             clear A210
             replace H := Option.bind_eq_some_iff.mp H
             obtain ⟨⟨t285, t286⟩, A220, H⟩ := H
             replace H : (if t284 = 0 then (if t286 = 0 then (if t283 ≥ t279 then (some (t285 == (wrap64 (t281 - t279)))) else (none)) else (none)) else (none)) = some r := H
             have A22 := Aside0.mk A220
             clear A220
             by_cases c23 : t284 = 0
             ·rw [if_pos c23] at H
              have c23b0 : (t284 == 0) = true := beq_iff_eq.mpr c23
              try simp only [beq_self_eq_true, Bool.not_true, Bool.false_or, Bool.true_and] at c23b0
              have c23b1 : (t284 != 0) = false := bne_eq_false_iff_eq.mpr c23
              clear c23
              by_cases c24 : t286 = 0
              ·rw [if_pos c24] at H
               have c24b0 : (t286 == 0) = true := beq_iff_eq.mpr c24
               try simp only [beq_self_eq_true, Bool.not_true, Bool.false_or, Bool.true_and] at c24b0
               have c24b1 : (t286 != 0) = false := bne_eq_false_iff_eq.mpr c24
               clear c24
               by_cases c25 : t283 ≥ t279
               ·rw [if_pos c25] at H
                have c25b0 : decide (t279 ≤ t283) = true := decide_eq_true c25
                clear c25
                obtain rfl := Option.some.inj H
                go_wp2_with (first | ((with_reducible refine gqC (f := 11) rfl ?_); refine goesL_ (some 74) rfl rfl Try.func11 (by kernel_rfl) rfl #[.int .i64 a0, .int .i64 (wrap64 (a1 - 1))] rfl (by (try simp only [List.map_toArray, List.map_cons, List.map_nil]); first | done | rfl | (simp only [List.length_drop, List.length_take]; rfl)) ?_; (with_reducible refine (rank_Orders.calls kj14 a0 (wrap64 (a1 - 1)) t283 t284 _ A21.out).mono ?_); rintro e w26 ⟨rfl, hb⟩; refine ⟨_, rfl, ?_⟩; have n0_ := Aside0.mk (lqT (by repeat (first | (with_reducible first | exact HB.out | apply lqA | apply lqN | apply lqD) | exact HB.out)) hb); clear HB; have HB := n0_; clear n0_; (try clear hb); (try clear hb2); (try clear hk); (try clear hi)) | ((with_reducible refine gqC (f := 11) rfl ?_); refine goesL_ (some 83) rfl rfl Try.func11 (by kernel_rfl) rfl #[.int .i64 a0, .int .i64 (wrap64 ((wrap64 ((wrap64 (Int.tdiv (wrap64 (a0 * (wrap64 (a0 - 1)))) 2)) - a1)) + 1))] rfl (by (try simp only [List.map_toArray, List.map_cons, List.map_nil]); first | done | rfl | (simp only [List.length_drop, List.length_take]; rfl)) ?_; (with_reducible refine (rank_Orders.calls kj14 a0 (wrap64 ((wrap64 ((wrap64 (Int.tdiv (wrap64 (a0 * (wrap64 (a0 - 1)))) 2)) - a1)) + 1)) t285 t286 _ A22.out).mono ?_); rintro e w27 ⟨rfl, hb⟩; refine ⟨_, rfl, ?_⟩; have n0_ := Aside0.mk (lqT (by repeat (first | (with_reducible first | exact HB.out | apply lqA | apply lqN | apply lqD) | exact HB.out)) hb); clear HB; have HB := n0_; clear n0_; (try clear hb); (try clear hb2); (try clear hk); (try clear hi)))
                go_ret
                exact ⟨by first | rfl | (simp [errW_none, errW_some] <;> rfl) | (simp [*, errW_none, errW_some] <;> rfl), by repeat (first | (with_reducible first | exact HB.out | apply lqA | apply lqN | apply lqD) | exact HB.out)⟩
               ·rw [if_neg c25] at H
                exact absurd H (by simp)
              ·rw [if_neg c24] at H
               exact absurd H (by simp)
             ·rw [if_neg c23] at H
              exact absurd H (by simp)
  ·rw [if_neg c6] at H
   have c6b0 : (t280 == 0) = false := beq_eq_false_iff_ne.mpr c6
   try simp only [beq_self_eq_true, Bool.not_true, Bool.false_or, Bool.true_and] at c6b0
   have c6b1 : (t280 != 0) = true := bne_iff_ne.mpr c6
   obtain rfl := Option.some.inj H
   go_enter Try.func3, Try.ntmps3
   go_wp2_with (first | ((with_reducible refine gqC (f := 10) rfl ?_); refine goesL_ (some 16) rfl rfl Try.func10 (by kernel_rfl) rfl #[] rfl (by (try simp only [List.map_toArray, List.map_cons, List.map_nil]); first | done | rfl | (simp only [List.length_drop, List.length_take]; rfl)) ?_; (with_reducible refine (spilelaw33_awake.calls k  true _ A3.out).mono ?_); rintro e w28 ⟨rfl, hb⟩; refine ⟨_, rfl, ?_⟩; have n0_ := Aside0.mk (lqT (by repeat (first | (with_reducible first | exact HB.out | apply lqA | apply lqN | apply lqD) | exact HB.out)) hb); clear HB; have HB := n0_; clear n0_; (try clear hb); (try clear hb2); (try clear hk); (try clear hi)) | ((with_reducible refine gqC (f := 11) rfl ?_); refine goesL_ (some 21) rfl rfl Try.func11 (by kernel_rfl) rfl #[.int .i64 a0, .int .i64 a1] rfl (by (try simp only [List.map_toArray, List.map_cons, List.map_nil]); first | done | rfl | (simp only [List.length_drop, List.length_take]; rfl)) ?_; (with_reducible refine (rank_Orders.calls k a0 a1 t279 t280 _ A5.out).mono ?_); rintro e w29 ⟨rfl, hb⟩; refine ⟨_, rfl, ?_⟩; have n0_ := Aside0.mk (lqT (by repeat (first | (with_reducible first | exact HB.out | apply lqA | apply lqN | apply lqD) | exact HB.out)) hb); clear HB; have HB := n0_; clear n0_; (try clear hb); (try clear hb2); (try clear hk); (try clear hi)))
   go_ret
   exact ⟨by first | rfl | (simp [errW_none, errW_some] <;> rfl) | (simp [*, errW_none, errW_some] <;> rfl), by repeat (first | (with_reducible first | exact HB.out | apply lqA | apply lqN | apply lqD) | exact HB.out)⟩
 ·replace c4 := Bool.eq_false_iff.mpr c4
  subst c4
  have H1 : (none) = some r := by rw [if_neg (show ¬ (false = true) by decide)] at H; exact H
  clear H
  have H := H1
  clear H1
  exact absurd H (by simp)

/-- THE ONE PURE STATEMENT of spilelaw33_RankComplements: yours. -/
def spilelaw33_RankComplements.Pure : Prop := ∀ (a0 : Int) (a1 : Int), (Lit.int .i64 a0).wf = true → (Lit.int .i64 a1).wf = true → ∃ k, spilelaw33_RankComplements.f k a0 a1 = some true
theorem spilelaw33_RankComplements.walk (P : spilelaw33_RankComplements.Pure) (a0 : Int) (a1 : Int) (w : World) (w0 : (Lit.int .i64 a0).wf = true) (w1 : (Lit.int .i64 a1).wf = true) :
  Calls Try.prog 3 #[.int .i64 a0, .int .i64 a1] w fun e w' => e = .returned (.bool true) ∧ Below w.heap.size w w' := by
 obtain ⟨k, h⟩ := P a0 a1 w0 w1
 refine (spilelaw33_RankComplements.calls k a0 a1 true w h).mono ?_
 rintro e w' ⟨rfl, hd⟩
 exact ⟨rfl, hd⟩

/-! ### spileref33_Few: function 12 -/
def spileref33_Few.f (l0 : List Int) : Option (Bool) := if (l0.length : Int) ≤ 12 then (some true) else (some ((l0.length : Int) == 65))
set_option maxHeartbeats 8000000 in
set_option maxRecDepth 100000 in
theorem spileref33_Few.calls (A0 : Option Addr) (c0 : Nat) (l0 : List Int) (r : Bool) (w : World) (hr0 : Kd.C (Kd.int .i64) w A0 l0.length l0) (hc0 : l0.length ≤ c0) (h : spileref33_Few.f l0 = some r) :
  Calls Try.prog 12 #[.slice A0 l0.length c0] w fun e w' => e = .returned (.bool r) ∧ Drawn0 w w' := by
 have HR0 := Aside0.mk hr0
 have HC0 := Aside0.mk hc0
 clear hr0 hc0
 have H : (if (l0.length : Int) ≤ 12 then (some true) else (some ((l0.length : Int) == 65))) = some r := h
 clear h
 by_cases c2 : (l0.length : Int) ≤ 12
 ·rw [if_pos c2] at H
  have c2b0 : decide ((l0.length : Int) ≤ 12) = true := decide_eq_true c2
  have c2b1 : decide (l0.length ≤ 12) = true := decide_eq_true (by omega)
  clear c2
  obtain rfl := Option.some.inj H
  go_enter Try.func12, Try.ntmps12
  go_wp2
  go_ret
  exact ⟨by first | rfl | (simp; done) | (simp [*]; done), by repeat (first | exact Drawn0.refl _ | apply Drawn0.step)⟩
 ·rw [if_neg c2] at H
  have c2b0 : decide ((l0.length : Int) ≤ 12) = false := decide_eq_false c2
  have c2b1 : decide (l0.length ≤ 12) = false := decide_eq_false (by omega)
  clear c2
  obtain rfl := Option.some.inj H
  go_enter Try.func12, Try.ntmps12
  go_wp2
  go_ret
  exact ⟨by first | rfl | (simp; done) | (simp [*]; done), by repeat (first | exact Drawn0.refl _ | apply Drawn0.step)⟩

-- GIVEN: function 14 (slices_Clone_int_int)

end Go.Proofs.Ytbkoghmbacdiiaa.K
