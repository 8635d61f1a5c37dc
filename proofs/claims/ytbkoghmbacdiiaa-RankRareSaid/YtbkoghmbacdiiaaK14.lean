-- PRINTED by print.py (a twelfth state) out of the translation. Not trusted: Lean checks it.
import Derived.Test.YtbkoghmbacdiiaaK0
import Derived.Test.YtbkoghmbacdiiaaK9
import Derived.Test.YtbkoghmbacdiiaaK10
import Derived.Test.YtbkoghmbacdiiaaK11
import Derived.Test.YtbkoghmbacdiiaaK12
import Derived.Test.YtbkoghmbacdiiaaK13
import Derived.Test.YtbkoghmbacdiiaaGClone
import Derived.Test.YtbkoghmbacdiiaaGRank
namespace Go.Proofs.Ytbkoghmbacdiiaa.K
open Go.RowKit Go.Proofs.YtbkoghmbacdiiaaW.PrintWords Go.Proofs.YtbkoghmbacdiiaaW.PrintLast Go.Proofs.YtbkoghmbacdiiaaW.PrintMore
attribute [local go_sem] max2_int min2_int max_two min_two max_three min_three max_four min_four   -- for this text's walks alone
set_option linter.unusedVariables false
set_option linter.unusedSimpArgs false

/-! ### spileref33_Same: function 22 -/
def spileref33_Same.l0 : Nat → List Int → List Int → Int → Option (Bool)
 | 0, _, _, _ => none
 | k + 1, x0, x1, x5 => if x5 < (x0.length : Int) then (if 0 ≤ x5 then (if x5 < (x1.length : Int) then (if (rd x0 x5) = (rd x1 x5) then (spileref33_Same.l0 k x0 x1 (wrap64 (x5 + 1))) else (some false)) else (none)) else (none)) else (some true)
def spileref33_Same.f (k : Nat) (l0 : List Int) (l1 : List Int) : Option (Bool) := if (l0.length : Int) = (l1.length : Int) then (spileref33_Same.l0 k l0 l1 0) else (some false)
theorem spileref33_Same.mono_l : ∀ k, (∀ y0 y1 y2, LeO (spileref33_Same.l0 k y0 y1 y2) (spileref33_Same.l0 (k + 1) y0 y1 y2))
 | 0 => fun _ _ _ r h => by simp [spileref33_Same.l0] at h
 | k + 1 => by
  have ih0 := spileref33_Same.mono_l k
  ·intro y0 y1 y2
   unfold spileref33_Same.l0
   repeat' first
   | (with_reducible exact ih0 _ _ _)
   | (with_reducible exact LeO.refl _)
   | (with_reducible exact LeO.none _)
   | (with_reducible refine LeO.ite ?_ ?_)
   | (with_reducible refine LeO.bind ?_ (fun _ => ?_))
   | exact ih0 _ _ _
   | exact LeO.none _
   | refine LeO.ite ?_ ?_
   | refine LeO.bind ?_ (fun _ => ?_)
theorem spileref33_Same.mono : ∀ a0 a1 k, LeO (spileref33_Same.f k a0 a1) (spileref33_Same.f (k + 1) a0 a1) := by
 intro a0 a1 k
 have ih0 := spileref33_Same.mono_l k
 unfold spileref33_Same.f
 repeat' first
   | (with_reducible exact ih0 _ _ _)
   | (with_reducible exact LeO.refl _)
   | (with_reducible exact LeO.none _)
   | (with_reducible refine LeO.ite ?_ ?_)
   | (with_reducible refine LeO.bind ?_ (fun _ => ?_))
   | exact ih0 _ _ _
   | exact LeO.none _
   | refine LeO.ite ?_ ?_
   | refine LeO.bind ?_ (fun _ => ?_)
set_option maxHeartbeats 8000000 in
set_option maxRecDepth 100000 in
theorem spileref33_Same.calls (k : Nat) (A0 : Option Addr) (c0 : Nat) (l0 : List Int) (A1 : Option Addr) (c1 : Nat) (l1 : List Int) (r : Bool) (w : World) (hr0 : Kd.C (Kd.int .i64) w A0 l0.length l0) (hc0 : l0.length ≤ c0) (hr1 : Kd.C (Kd.int .i64) w A1 l1.length l1) (hc1 : l1.length ≤ c1) (h : spileref33_Same.f k l0 l1 = some r) :
  Calls Try.prog 22 #[.slice A0 l0.length c0, .slice A1 l1.length c1] w fun e w' => e = .returned (.bool r) ∧ Drawn0 w w' := by
 have HR0 := Aside0.mk hr0
 have HC0 := Aside0.mk hc0
 clear hr0 hc0
 have HR1 := Aside0.mk hr1
 have HC1 := Aside0.mk hc1
 clear hr1 hc1
 have H : (if (l0.length : Int) = (l1.length : Int) then (spileref33_Same.l0 k l0 l1 0) else (some false)) = some r := h
 clear h
 by_cases c3 : (l0.length : Int) = (l1.length : Int)
 ·rw [if_pos c3] at H
  have c3b0 : ((l0.length : Int) == (l1.length : Int)) = true := beq_iff_eq.mpr c3
  try simp only [beq_self_eq_true, Bool.not_true, Bool.false_or, Bool.true_and] at c3b0
  have c3b1 : ((l0.length : Int) != (l1.length : Int)) = false := bne_eq_false_iff_eq.mpr c3
  have c3b2 : (l0.length == l1.length) = true := by first | simpa using c3 | (simp at c3 ⊢; omega)
  clear c3
  have H' := Aside0.mk H
  clear H
  go_enter Try.func22, Try.ntmps22
  go_wp2
  repeat (go_quiet (fail); try go_wp2)
  go_loopg [5] k (fun kq v5 w' => ∃ (x5_1 : Int), v5 = .int .i64 x5_1 ∧ Aside0 (spileref33_Same.l0 kq l0 l1 x5_1 = some r) ∧ Aside0 (kq ≤ k) ∧ Drawn0 w w')
  case atStart => exact ⟨(0), (by first | rfl | (simp; done) | (simp [*]; done)), H', ⟨Nat.le_refl _⟩, by repeat (first | exact Drawn0.refl _ | apply Drawn0.step)⟩
  case round =>
   clear H'
   try clear c1
   try clear c2
   try clear p2
   try clear c3
   try clear c3b0
   try clear c3b1
   try clear c3b2
   obtain ⟨x5_1, rfl, HA, HK1, ⟨m1, rfl⟩⟩ := hrel
   cases gk with
   | zero => exact absurd HA.out (by simp [spileref33_Same.l0])
   | succ k1 =>
    have H := HA.out
    clear HA
    simp only [spileref33_Same.l0] at H
    by_cases c4 : x5_1 < (l0.length : Int)
    ·rw [if_pos c4] at H
     have c4b0 : decide (x5_1 < (l0.length : Int)) = true := decide_eq_true c4
     clear c4
     by_cases c5 : 0 ≤ x5_1
     ·rw [if_pos c5] at H
      have c5b0 : decide (0 ≤ x5_1) = true := decide_eq_true c5
      clear c5
      by_cases c6 : x5_1 < (l1.length : Int)
      ·rw [if_pos c6] at H
       have c6b0 : decide (x5_1 < (l1.length : Int)) = true := decide_eq_true c6
       clear c6
       by_cases c7 : (rd l0 x5_1) = (rd l1 x5_1)
       ·rw [if_pos c7] at H
        have c7b0 : ((rd l0 x5_1) == (rd l1 x5_1)) = true := beq_iff_eq.mpr c7
        try simp only [beq_self_eq_true, Bool.not_true, Bool.false_or, Bool.true_and] at c7b0
        have c7b1 : ((rd l0 x5_1) != (rd l1 x5_1)) = false := bne_eq_false_iff_eq.mpr c7
        clear c7
        have H' := Aside0.mk H
        clear H
        have p327 : 0 ≤ (x5_1 : Int) := of_decide_eq_true (by first | (with_reducible assumption) | assumption)
        have q327 : x5_1 < (l0.length : Int) := of_decide_eq_true (by first | (with_reducible assumption) | assumption)
        obtain ⟨ad327, e327, hx327_0⟩ := Kd.at_int HR0.out x5_1 p327 q327
        cases e327
        replace p327 := eq_true p327
        replace q327 := eq_true q327
        have p328 : 0 ≤ (x5_1 : Int) := of_decide_eq_true (by first | (with_reducible assumption) | assumption)
        have q328 : x5_1 < (l1.length : Int) := of_decide_eq_true (by first | (with_reducible assumption) | assumption)
        obtain ⟨ad328, e328, hx328_0⟩ := Kd.at_int HR1.out x5_1 p328 q328
        cases e328
        replace p328 := eq_true p328
        replace q328 := eq_true q328
        go_wp2
        repeat (go_quiet (fail); try go_wp2)
        go_roundg k1
        case measure => have := HK1.out; omega
        case rel => exact ⟨(wrap64 (x5_1 + 1)), (by first | rfl | (simp; done) | (simp [*]; done)), H', ⟨by have := HK1.out; omega⟩, by repeat (first | exact Drawn0.refl _ | apply Drawn0.step)⟩
       ·rw [if_neg c7] at H
        have c7b0 : ((rd l0 x5_1) == (rd l1 x5_1)) = false := beq_eq_false_iff_ne.mpr c7
        try simp only [beq_self_eq_true, Bool.not_true, Bool.false_or, Bool.true_and] at c7b0
        have c7b1 : ((rd l0 x5_1) != (rd l1 x5_1)) = true := bne_iff_ne.mpr c7
        obtain rfl := Option.some.inj H
        have p327 : 0 ≤ (x5_1 : Int) := of_decide_eq_true (by first | (with_reducible assumption) | assumption)
        have q327 : x5_1 < (l0.length : Int) := of_decide_eq_true (by first | (with_reducible assumption) | assumption)
        obtain ⟨ad327, e327, hx327_0⟩ := Kd.at_int HR0.out x5_1 p327 q327
        cases e327
        replace p327 := eq_true p327
        replace q327 := eq_true q327
        have p328 : 0 ≤ (x5_1 : Int) := of_decide_eq_true (by first | (with_reducible assumption) | assumption)
        have q328 : x5_1 < (l1.length : Int) := of_decide_eq_true (by first | (with_reducible assumption) | assumption)
        obtain ⟨ad328, e328, hx328_0⟩ := Kd.at_int HR1.out x5_1 p328 q328
        cases e328
        replace p328 := eq_true p328
        replace q328 := eq_true q328
        go_wp2
        repeat (go_quiet (fail); try go_wp2)
        go_ret
        exact ⟨by first | rfl | (simp; done) | (simp [*]; done), by repeat (first | exact Drawn0.refl _ | apply Drawn0.step)⟩
      ·rw [if_neg c6] at H
       exact absurd H (by simp)
     ·rw [if_neg c5] at H
      exact absurd H (by simp)
    ·rw [if_neg c4] at H
     have c4b0 : decide (x5_1 < (l0.length : Int)) = false := decide_eq_false c4
     clear c4
     obtain rfl := Option.some.inj H
     go_wp2
     repeat (go_quiet (fail); try go_wp2)
     go_ret
     exact ⟨by first | rfl | (simp; done) | (simp [*]; done), by repeat (first | exact Drawn0.refl _ | apply Drawn0.step)⟩
 ·rw [if_neg c3] at H
  have c3b0 : ((l0.length : Int) == (l1.length : Int)) = false := beq_eq_false_iff_ne.mpr c3
  try simp only [beq_self_eq_true, Bool.not_true, Bool.false_or, Bool.true_and] at c3b0
  have c3b1 : ((l0.length : Int) != (l1.length : Int)) = true := bne_iff_ne.mpr c3
  have c3b2 : (l0.length == l1.length) = false := by first | simpa using c3 | (simp at c3 ⊢; omega)
  obtain rfl := Option.some.inj H
  go_enter Try.func22, Try.ntmps22
  go_wp2
  repeat (go_quiet (fail); try go_wp2)
  go_ret
  exact ⟨by first | rfl | (simp; done) | (simp [*]; done), by repeat (first | exact Drawn0.refl _ | apply Drawn0.step)⟩

/-! ### spilelaw33_RankSorts: function 4 -/
def spilelaw33_RankSorts.f (k : Nat) (l0 : List Int) (a1 : Int) (a2 : Int) : Option (Bool) := (spilelaw33_awake.f k).bind fun t329 => (if t329 = true then ((spileref33_Few.f l0).bind fun t330 => (if t330 = true then ((clone14.f l0).bind fun t331 => ((rank_Sorted.f t331).bind fun bt334 => ((spileref33_Sorted.f k l0).bind fun bt338 => ((clone14.f l0).bind fun t342 => ((rank_Quantile.f k t342 a1 a2).bind fun bt345 => ((spileref33_Quantile.f k l0 a1 a2).bind fun bt347 => ((clone14.f l0).bind fun t349 => ((rank_Ranks.f k t349).bind fun bt352 => ((spileref33_Ranks.f k l0).bind fun bt356 => ((clone14.f l0).bind fun t360 => ((rank_Rises.f k t360).bind fun bt363 => ((spileref33_Rises.f k l0).bind fun bt365 => ((spileref33_Same.f k bt334.1 bt338.1).bind fun t367 => (if t367 = true then (if bt334.2 = bt338.2 then (if bt345.1 = bt347.1 then (if bt345.2 = bt347.2 then ((spileref33_Same.f k bt352.1 bt356.1).bind fun t368 => (if t368 = true then (if bt352.2 = bt356.2 then (if bt363.1 = bt365.1 then (some (bt363.2 == bt365.2)) else (none)) else (none)) else (none))) else (none)) else (none)) else (none)) else (none))))))))))))))) else (some true))) else (none))
theorem spilelaw33_RankSorts.mono : ∀ a0 a1 a2 k, LeO (spilelaw33_RankSorts.f k a0 a1 a2) (spilelaw33_RankSorts.f (k + 1) a0 a1 a2) := by
 intro a0 a1 a2 k
 unfold spilelaw33_RankSorts.f
 repeat' first
   | (with_reducible exact rank_Quantile.mono _ _ _ _)
   | (with_reducible exact rank_Ranks.mono _ _)
   | (with_reducible exact rank_Rises.mono _ _)
   | (with_reducible exact spilelaw33_awake.mono _)
   | (with_reducible exact spileref33_Quantile.mono _ _ _ _)
   | (with_reducible exact spileref33_Ranks.mono _ _)
   | (with_reducible exact spileref33_Rises.mono _ _)
   | (with_reducible exact spileref33_Same.mono _ _ _)
   | (with_reducible exact spileref33_Sorted.mono _ _)
   | (with_reducible exact LeO.refl _)
   | (with_reducible exact LeO.none _)
   | (with_reducible refine LeO.ite ?_ ?_)
   | (with_reducible refine LeO.bind ?_ (fun _ => ?_))
   | exact rank_Quantile.mono _ _ _ _
   | exact rank_Ranks.mono _ _
   | exact rank_Rises.mono _ _
   | exact spilelaw33_awake.mono _
   | exact spileref33_Quantile.mono _ _ _ _
   | exact spileref33_Ranks.mono _ _
   | exact spileref33_Rises.mono _ _
   | exact spileref33_Same.mono _ _ _
   | exact spileref33_Sorted.mono _ _
   | exact LeO.none _
   | refine LeO.ite ?_ ?_
   | refine LeO.bind ?_ (fun _ => ?_)
set_option maxHeartbeats 8000000 in
set_option maxRecDepth 100000 in
theorem spilelaw33_RankSorts.calls (k : Nat) (A0 : Option Addr) (c0 : Nat) (l0 : List Int) (a1 : Int) (a2 : Int) (r : Bool) (w : World) (hr0 : Kd.C (Kd.int .i64) w A0 l0.length l0) (hc0 : l0.length ≤ c0) (h : spilelaw33_RankSorts.f k l0 a1 a2 = some r) :
  Calls Try.prog 4 #[.slice A0 l0.length c0, .int .i64 a1, .int .i64 a2] w fun e w' => e = .returned (.bool r) ∧ Below w.heap.size w w' := by
 have HR0 := Aside0.mk hr0
 have HC0 := Aside0.mk hc0
 clear hr0 hc0
 have HB := Aside0.mk (Below.refl w.heap.size w)
 have H : ((spilelaw33_awake.f k).bind fun t329 => (if t329 = true then ((spileref33_Few.f l0).bind fun t330 => (if t330 = true then ((clone14.f l0).bind fun t331 => ((rank_Sorted.f t331).bind fun bt334 => ((spileref33_Sorted.f k l0).bind fun bt338 => ((clone14.f l0).bind fun t342 => ((rank_Quantile.f k t342 a1 a2).bind fun bt345 => ((spileref33_Quantile.f k l0 a1 a2).bind fun bt347 => ((clone14.f l0).bind fun t349 => ((rank_Ranks.f k t349).bind fun bt352 => ((spileref33_Ranks.f k l0).bind fun bt356 => ((clone14.f l0).bind fun t360 => ((rank_Rises.f k t360).bind fun bt363 => ((spileref33_Rises.f k l0).bind fun bt365 => ((spileref33_Same.f k bt334.1 bt338.1).bind fun t367 => (if t367 = true then (if bt334.2 = bt338.2 then (if bt345.1 = bt347.1 then (if bt345.2 = bt347.2 then ((spileref33_Same.f k bt352.1 bt356.1).bind fun t368 => (if t368 = true then (if bt352.2 = bt356.2 then (if bt363.1 = bt365.1 then (some (bt363.2 == bt365.2)) else (none)) else (none)) else (none))) else (none)) else (none)) else (none)) else (none))))))))))))))) else (some true))) else (none))) = some r := h
 clear h
 replace H := Option.bind_eq_some_iff.mp H
 obtain ⟨t329, A40, H⟩ := H
 replace H : (if t329 = true then ((spileref33_Few.f l0).bind fun t330 => (if t330 = true then ((clone14.f l0).bind fun t331 => ((rank_Sorted.f t331).bind fun bt334 => ((spileref33_Sorted.f k l0).bind fun bt338 => ((clone14.f l0).bind fun t342 => ((rank_Quantile.f k t342 a1 a2).bind fun bt345 => ((spileref33_Quantile.f k l0 a1 a2).bind fun bt347 => ((clone14.f l0).bind fun t349 => ((rank_Ranks.f k t349).bind fun bt352 => ((spileref33_Ranks.f k l0).bind fun bt356 => ((clone14.f l0).bind fun t360 => ((rank_Rises.f k t360).bind fun bt363 => ((spileref33_Rises.f k l0).bind fun bt365 => ((spileref33_Same.f k bt334.1 bt338.1).bind fun t367 => (if t367 = true then (if bt334.2 = bt338.2 then (if bt345.1 = bt347.1 then (if bt345.2 = bt347.2 then ((spileref33_Same.f k bt352.1 bt356.1).bind fun t368 => (if t368 = true then (if bt352.2 = bt356.2 then (if bt363.1 = bt365.1 then (some (bt363.2 == bt365.2)) else (none)) else (none)) else (none))) else (none)) else (none)) else (none)) else (none))))))))))))))) else (some true))) else (none)) = some r := H
 have A4 := Aside0.mk A40
 clear A40
 by_cases c5 : t329 = true
 ·subst c5
  have H1 : ((spileref33_Few.f l0).bind fun t330 => (if t330 = true then ((clone14.f l0).bind fun t331 => ((rank_Sorted.f t331).bind fun bt334 => ((spileref33_Sorted.f k l0).bind fun bt338 => ((clone14.f l0).bind fun t342 => ((rank_Quantile.f k t342 a1 a2).bind fun bt345 => ((spileref33_Quantile.f k l0 a1 a2).bind fun bt347 => ((clone14.f l0).bind fun t349 => ((rank_Ranks.f k t349).bind fun bt352 => ((spileref33_Ranks.f k l0).bind fun bt356 => ((clone14.f l0).bind fun t360 => ((rank_Rises.f k t360).bind fun bt363 => ((spileref33_Rises.f k l0).bind fun bt365 => ((spileref33_Same.f k bt334.1 bt338.1).bind fun t367 => (if t367 = true then (if bt334.2 = bt338.2 then (if bt345.1 = bt347.1 then (if bt345.2 = bt347.2 then ((spileref33_Same.f k bt352.1 bt356.1).bind fun t368 => (if t368 = true then (if bt352.2 = bt356.2 then (if bt363.1 = bt365.1 then (some (bt363.2 == bt365.2)) else (none)) else (none)) else (none))) else (none)) else (none)) else (none)) else (none))))))))))))))) else (some true))) = some r := by rw [if_pos rfl] at H; exact H
  clear H
  have H := H1
  clear H1
  replace H := Option.bind_eq_some_iff.mp H
  obtain ⟨t330, A60, H⟩ := H
  replace H : (if t330 = true then ((clone14.f l0).bind fun t331 => ((rank_Sorted.f t331).bind fun bt334 => ((spileref33_Sorted.f k l0).bind fun bt338 => ((clone14.f l0).bind fun t342 => ((rank_Quantile.f k t342 a1 a2).bind fun bt345 => ((spileref33_Quantile.f k l0 a1 a2).bind fun bt347 => ((clone14.f l0).bind fun t349 => ((rank_Ranks.f k t349).bind fun bt352 => ((spileref33_Ranks.f k l0).bind fun bt356 => ((clone14.f l0).bind fun t360 => ((rank_Rises.f k t360).bind fun bt363 => ((spileref33_Rises.f k l0).bind fun bt365 => ((spileref33_Same.f k bt334.1 bt338.1).bind fun t367 => (if t367 = true then (if bt334.2 = bt338.2 then (if bt345.1 = bt347.1 then (if bt345.2 = bt347.2 then ((spileref33_Same.f k bt352.1 bt356.1).bind fun t368 => (if t368 = true then (if bt352.2 = bt356.2 then (if bt363.1 = bt365.1 then (some (bt363.2 == bt365.2)) else (none)) else (none)) else (none))) else (none)) else (none)) else (none)) else (none))))))))))))))) else (some true)) = some r := H
  have A6 := Aside0.mk A60
  clear A60
  by_cases c7 : t330 = true
  ·subst c7
   have H1 : ((clone14.f l0).bind fun t331 => ((rank_Sorted.f t331).bind fun bt334 => ((spileref33_Sorted.f k l0).bind fun bt338 => ((clone14.f l0).bind fun t342 => ((rank_Quantile.f k t342 a1 a2).bind fun bt345 => ((spileref33_Quantile.f k l0 a1 a2).bind fun bt347 => ((clone14.f l0).bind fun t349 => ((rank_Ranks.f k t349).bind fun bt352 => ((spileref33_Ranks.f k l0).bind fun bt356 => ((clone14.f l0).bind fun t360 => ((rank_Rises.f k t360).bind fun bt363 => ((spileref33_Rises.f k l0).bind fun bt365 => ((spileref33_Same.f k bt334.1 bt338.1).bind fun t367 => (if t367 = true then (if bt334.2 = bt338.2 then (if bt345.1 = bt347.1 then (if bt345.2 = bt347.2 then ((spileref33_Same.f k bt352.1 bt356.1).bind fun t368 => (if t368 = true then (if bt352.2 = bt356.2 then (if bt363.1 = bt365.1 then (some (bt363.2 == bt365.2)) else (none)) else (none)) else (none))) else (none)) else (none)) else (none)) else (none))))))))))))))) = some r := by rw [if_pos rfl] at H; exact H
   clear H
   have H := H1
   clear H1
   replace H := Option.bind_eq_some_iff.mp H
   obtain ⟨t331, A80, H⟩ := H
   replace H : ((rank_Sorted.f t331).bind fun bt334 => ((spileref33_Sorted.f k l0).bind fun bt338 => ((clone14.f l0).bind fun t342 => ((rank_Quantile.f k t342 a1 a2).bind fun bt345 => ((spileref33_Quantile.f k l0 a1 a2).bind fun bt347 => ((clone14.f l0).bind fun t349 => ((rank_Ranks.f k t349).bind fun bt352 => ((spileref33_Ranks.f k l0).bind fun bt356 => ((clone14.f l0).bind fun t360 => ((rank_Rises.f k t360).bind fun bt363 => ((spileref33_Rises.f k l0).bind fun bt365 => ((spileref33_Same.f k bt334.1 bt338.1).bind fun t367 => (if t367 = true then (if bt334.2 = bt338.2 then (if bt345.1 = bt347.1 then (if bt345.2 = bt347.2 then ((spileref33_Same.f k bt352.1 bt356.1).bind fun t368 => (if t368 = true then (if bt352.2 = bt356.2 then (if bt363.1 = bt365.1 then (some (bt363.2 == bt365.2)) else (none)) else (none)) else (none))) else (none)) else (none)) else (none)) else (none)))))))))))))) = some r := H
   have A8 := Aside0.mk A80
   clear A80
   replace H := Option.bind_eq_some_iff.mp H
   obtain ⟨⟨t334, t335⟩, A90, H⟩ := H
   replace H : ((spileref33_Sorted.f k l0).bind fun bt338 => ((clone14.f l0).bind fun t342 => ((rank_Quantile.f k t342 a1 a2).bind fun bt345 => ((spileref33_Quantile.f k l0 a1 a2).bind fun bt347 => ((clone14.f l0).bind fun t349 => ((rank_Ranks.f k t349).bind fun bt352 => ((spileref33_Ranks.f k l0).bind fun bt356 => ((clone14.f l0).bind fun t360 => ((rank_Rises.f k t360).bind fun bt363 => ((spileref33_Rises.f k l0).bind fun bt365 => ((spileref33_Same.f k t334 bt338.1).bind fun t367 => (if t367 = true then (if t335 = bt338.2 then (if bt345.1 = bt347.1 then (if bt345.2 = bt347.2 then ((spileref33_Same.f k bt352.1 bt356.1).bind fun t368 => (if t368 = true then (if bt352.2 = bt356.2 then (if bt363.1 = bt365.1 then (some (bt363.2 == bt365.2)) else (none)) else (none)) else (none))) else (none)) else (none)) else (none)) else (none))))))))))))) = some r := H
   have A9 := Aside0.mk A90
   clear A90
   replace H := Option.bind_eq_some_iff.mp H
   obtain ⟨⟨t338, t339⟩, A100, H⟩ := H
   replace H : ((clone14.f l0).bind fun t342 => ((rank_Quantile.f k t342 a1 a2).bind fun bt345 => ((spileref33_Quantile.f k l0 a1 a2).bind fun bt347 => ((clone14.f l0).bind fun t349 => ((rank_Ranks.f k t349).bind fun bt352 => ((spileref33_Ranks.f k l0).bind fun bt356 => ((clone14.f l0).bind fun t360 => ((rank_Rises.f k t360).bind fun bt363 => ((spileref33_Rises.f k l0).bind fun bt365 => ((spileref33_Same.f k t334 t338).bind fun t367 => (if t367 = true then (if t335 = t339 then (if bt345.1 = bt347.1 then (if bt345.2 = bt347.2 then ((spileref33_Same.f k bt352.1 bt356.1).bind fun t368 => (if t368 = true then (if bt352.2 = bt356.2 then (if bt363.1 = bt365.1 then (some (bt363.2 == bt365.2)) else (none)) else (none)) else (none))) else (none)) else (none)) else (none)) else (none)))))))))))) = some r := H
   have A10 := Aside0.mk A100
   clear A100
   replace H := Option.bind_eq_some_iff.mp H
   obtain ⟨t342, A110, H⟩ := H
   replace H : ((rank_Quantile.f k t342 a1 a2).bind fun bt345 => ((spileref33_Quantile.f k l0 a1 a2).bind fun bt347 => ((clone14.f l0).bind fun t349 => ((rank_Ranks.f k t349).bind fun bt352 => ((spileref33_Ranks.f k l0).bind fun bt356 => ((clone14.f l0).bind fun t360 => ((rank_Rises.f k t360).bind fun bt363 => ((spileref33_Rises.f k l0).bind fun bt365 => ((spileref33_Same.f k t334 t338).bind fun t367 => (if t367 = true then (if t335 = t339 then (if bt345.1 = bt347.1 then (if bt345.2 = bt347.2 then ((spileref33_Same.f k bt352.1 bt356.1).bind fun t368 => (if t368 = true then (if bt352.2 = bt356.2 then (if bt363.1 = bt365.1 then (some (bt363.2 == bt365.2)) else (none)) else (none)) else (none))) else (none)) else (none)) else (none)) else (none))))))))))) = some r := H
   have A11 := Aside0.mk A110
   clear A110
   replace H := Option.bind_eq_some_iff.mp H
   obtain ⟨⟨t345, t346⟩, A120, H⟩ := H
   replace H : ((spileref33_Quantile.f k l0 a1 a2).bind fun bt347 => ((clone14.f l0).bind fun t349 => ((rank_Ranks.f k t349).bind fun bt352 => ((spileref33_Ranks.f k l0).bind fun bt356 => ((clone14.f l0).bind fun t360 => ((rank_Rises.f k t360).bind fun bt363 => ((spileref33_Rises.f k l0).bind fun bt365 => ((spileref33_Same.f k t334 t338).bind fun t367 => (if t367 = true then (if t335 = t339 then (if t345 = bt347.1 then (if t346 = bt347.2 then ((spileref33_Same.f k bt352.1 bt356.1).bind fun t368 => (if t368 = true then (if bt352.2 = bt356.2 then (if bt363.1 = bt365.1 then (some (bt363.2 == bt365.2)) else (none)) else (none)) else (none))) else (none)) else (none)) else (none)) else (none)))))))))) = some r := H
   have A12 := Aside0.mk A120
   clear A120
   replace H := Option.bind_eq_some_iff.mp H
   obtain ⟨⟨t347, t348⟩, A130, H⟩ := H
   replace H : ((clone14.f l0).bind fun t349 => ((rank_Ranks.f k t349).bind fun bt352 => ((spileref33_Ranks.f k l0).bind fun bt356 => ((clone14.f l0).bind fun t360 => ((rank_Rises.f k t360).bind fun bt363 => ((spileref33_Rises.f k l0).bind fun bt365 => ((spileref33_Same.f k t334 t338).bind fun t367 => (if t367 = true then (if t335 = t339 then (if t345 = t347 then (if t346 = t348 then ((spileref33_Same.f k bt352.1 bt356.1).bind fun t368 => (if t368 = true then (if bt352.2 = bt356.2 then (if bt363.1 = bt365.1 then (some (bt363.2 == bt365.2)) else (none)) else (none)) else (none))) else (none)) else (none)) else (none)) else (none))))))))) = some r := H
   have A13 := Aside0.mk A130
   clear A130
   replace H := Option.bind_eq_some_iff.mp H
   obtain ⟨t349, A140, H⟩ := H
   replace H : ((rank_Ranks.f k t349).bind fun bt352 => ((spileref33_Ranks.f k l0).bind fun bt356 => ((clone14.f l0).bind fun t360 => ((rank_Rises.f k t360).bind fun bt363 => ((spileref33_Rises.f k l0).bind fun bt365 => ((spileref33_Same.f k t334 t338).bind fun t367 => (if t367 = true then (if t335 = t339 then (if t345 = t347 then (if t346 = t348 then ((spileref33_Same.f k bt352.1 bt356.1).bind fun t368 => (if t368 = true then (if bt352.2 = bt356.2 then (if bt363.1 = bt365.1 then (some (bt363.2 == bt365.2)) else (none)) else (none)) else (none))) else (none)) else (none)) else (none)) else (none)))))))) = some r := H
   have A14 := Aside0.mk A140
   clear A140
   replace H := Option.bind_eq_some_iff.mp H
   obtain ⟨⟨t352, t353⟩, A150, H⟩ := H
   replace H : ((spileref33_Ranks.f k l0).bind fun bt356 => ((clone14.f l0).bind fun t360 => ((rank_Rises.f k t360).bind fun bt363 => ((spileref33_Rises.f k l0).bind fun bt365 => ((spileref33_Same.f k t334 t338).bind fun t367 => (if t367 = true then (if t335 = t339 then (if t345 = t347 then (if t346 = t348 then ((spileref33_Same.f k t352 bt356.1).bind fun t368 => (if t368 = true then (if t353 = bt356.2 then (if bt363.1 = bt365.1 then (some (bt363.2 == bt365.2)) else (none)) else (none)) else (none))) else (none)) else (none)) else (none)) else (none))))))) = some r := H
   have A15 := Aside0.mk A150
   clear A150
   replace H := Option.bind_eq_some_iff.mp H
   obtain ⟨⟨t356, t357⟩, A160, H⟩ := H
   replace H : ((clone14.f l0).bind fun t360 => ((rank_Rises.f k t360).bind fun bt363 => ((spileref33_Rises.f k l0).bind fun bt365 => ((spileref33_Same.f k t334 t338).bind fun t367 => (if t367 = true then (if t335 = t339 then (if t345 = t347 then (if t346 = t348 then ((spileref33_Same.f k t352 t356).bind fun t368 => (if t368 = true then (if t353 = t357 then (if bt363.1 = bt365.1 then (some (bt363.2 == bt365.2)) else (none)) else (none)) else (none))) else (none)) else (none)) else (none)) else (none)))))) = some r := H
   have A16 := Aside0.mk A160
   clear A160
   replace H := Option.bind_eq_some_iff.mp H
   obtain ⟨t360, A170, H⟩ := H
   replace H : ((rank_Rises.f k t360).bind fun bt363 => ((spileref33_Rises.f k l0).bind fun bt365 => ((spileref33_Same.f k t334 t338).bind fun t367 => (if t367 = true then (if t335 = t339 then (if t345 = t347 then (if t346 = t348 then ((spileref33_Same.f k t352 t356).bind fun t368 => (if t368 = true then (if t353 = t357 then (if bt363.1 = bt365.1 then (some (bt363.2 == bt365.2)) else (none)) else (none)) else (none))) else (none)) else (none)) else (none)) else (none))))) = some r := H
   have A17 := Aside0.mk A170
   clear A170
   replace H := Option.bind_eq_some_iff.mp H
   obtain ⟨⟨t363, t364⟩, A180, H⟩ := H
   replace H : ((spileref33_Rises.f k l0).bind fun bt365 => ((spileref33_Same.f k t334 t338).bind fun t367 => (if t367 = true then (if t335 = t339 then (if t345 = t347 then (if t346 = t348 then ((spileref33_Same.f k t352 t356).bind fun t368 => (if t368 = true then (if t353 = t357 then (if t363 = bt365.1 then (some (t364 == bt365.2)) else (none)) else (none)) else (none))) else (none)) else (none)) else (none)) else (none)))) = some r := H
   have A18 := Aside0.mk A180
   clear A180
   replace H := Option.bind_eq_some_iff.mp H
   obtain ⟨⟨t365, t366⟩, A190, H⟩ := H
   replace H : ((spileref33_Same.f k t334 t338).bind fun t367 => (if t367 = true then (if t335 = t339 then (if t345 = t347 then (if t346 = t348 then ((spileref33_Same.f k t352 t356).bind fun t368 => (if t368 = true then (if t353 = t357 then (if t363 = t365 then (some (t364 == t366)) else (none)) else (none)) else (none))) else (none)) else (none)) else (none)) else (none))) = some r := H
   have A19 := Aside0.mk A190
   clear A190
   replace H := Option.bind_eq_some_iff.mp H
   obtain ⟨t367, A200, H⟩ := H
   replace H : (if t367 = true then (if t335 = t339 then (if t345 = t347 then (if t346 = t348 then ((spileref33_Same.f k t352 t356).bind fun t368 => (if t368 = true then (if t353 = t357 then (if t363 = t365 then (some (t364 == t366)) else (none)) else (none)) else (none))) else (none)) else (none)) else (none)) else (none)) = some r := H
   have A20 := Aside0.mk A200
   clear A200
   by_cases c21 : t367 = true
   ·subst c21
    have H1 : (if t335 = t339 then (if t345 = t347 then (if t346 = t348 then ((spileref33_Same.f k t352 t356).bind fun t368 => (if t368 = true then (if t353 = t357 then (if t363 = t365 then (some (t364 == t366)) else (none)) else (none)) else (none))) else (none)) else (none)) else (none)) = some r := by rw [if_pos rfl] at H; exact H
    clear H
    have H := H1
    clear H1
    by_cases c22 : t335 = t339
    ·rw [if_pos c22] at H
     have c22b0 : (t335 == t339) = true := beq_iff_eq.mpr c22
     try simp only [beq_self_eq_true, Bool.not_true, Bool.false_or, Bool.true_and] at c22b0
     have c22b1 : (t335 != t339) = false := bne_eq_false_iff_eq.mpr c22
     clear c22
     by_cases c23 : t345 = t347
     ·rw [if_pos c23] at H
      have c23b0 : (t345 == t347) = true := beq_iff_eq.mpr c23
      try simp only [beq_self_eq_true, Bool.not_true, Bool.false_or, Bool.true_and] at c23b0
      have c23b1 : (t345 != t347) = false := bne_eq_false_iff_eq.mpr c23
      clear c23
      by_cases c24 : t346 = t348
      ·rw [if_pos c24] at H
       have c24b0 : (t346 == t348) = true := beq_iff_eq.mpr c24
       try simp only [beq_self_eq_true, Bool.not_true, Bool.false_or, Bool.true_and] at c24b0
       have c24b1 : (t346 != t348) = false := bne_eq_false_iff_eq.mpr c24
       clear c24
       replace H := Option.bind_eq_some_iff.mp H
       obtain ⟨t368, A250, H⟩ := H
       replace H : (if t368 = true then (if t353 = t357 then (if t363 = t365 then (some (t364 == t366)) else (none)) else (none)) else (none)) = some r := H
       have A25 := Aside0.mk A250
       clear A250
       by_cases c26 : t368 = true
       ·subst c26
        have H1 : (if t353 = t357 then (if t363 = t365 then (some (t364 == t366)) else (none)) else (none)) = some r := by rw [if_pos rfl] at H; exact H
        clear H
        have H := H1
        clear H1
        by_cases c27 : t353 = t357
        ·rw [if_pos c27] at H
         have c27b0 : (t353 == t357) = true := beq_iff_eq.mpr c27
         try simp only [beq_self_eq_true, Bool.not_true, Bool.false_or, Bool.true_and] at c27b0
         have c27b1 : (t353 != t357) = false := bne_eq_false_iff_eq.mpr c27
         clear c27
         by_cases c28 : t363 = t365
         ·rw [if_pos c28] at H
          have c28b0 : (t363 == t365) = true := beq_iff_eq.mpr c28
          try simp only [beq_self_eq_true, Bool.not_true, Bool.false_or, Bool.true_and] at c28b0
          have c28b1 : (t363 != t365) = false := bne_eq_false_iff_eq.mpr c28
          clear c28
          obtain rfl := Option.some.inj H
          go_enter Try.func4, Try.ntmps4
          go_wp2_with (first | ((with_reducible refine gqC (f := 10) rfl ?_); refine goesL_ (some 23) rfl rfl Try.func10 (by kernel_rfl) rfl #[] rfl (by (try simp only [List.map_toArray, List.map_cons, List.map_nil]); first | done | rfl | (simp only [List.length_drop, List.length_take]; rfl)) ?_; (with_reducible refine (spilelaw33_awake.calls k  true _ A4.out).mono ?_); rintro e w29 ⟨rfl, hb⟩; refine ⟨_, rfl, ?_⟩; have n0_ := Aside0.mk (lqT (by repeat (first | (with_reducible first | exact HB.out | apply lqA | apply lqN | apply lqD) | exact HB.out)) hb); clear HB; have HB := n0_; clear n0_; (try clear hb); (try clear hb2); (try clear hk); (try clear hi)) | ((with_reducible refine gqC (f := 12) rfl ?_); refine goesL_ (some 26) rfl rfl Try.func12 (by kernel_rfl) rfl #[.slice A0 l0.length c0] rfl (by (try simp only [List.map_toArray, List.map_cons, List.map_nil]); first | done | rfl | (simp only [List.length_drop, List.length_take]; rfl)) ?_; (with_reducible refine (spileref33_Few.calls _ _ l0 true _ ?side1 ?side2 A6.out).mono ?_); (case side1 => repeat (first | exact (Kd.C_below HR0.out HB.out) | (with_reducible refine Kd.C_alloc ?_ _) | (with_reducible refine Kd.C_drewN ?_ _) | (with_reducible refine Kd.C_drew ?_))); (case side2 => exact HC0.out); rintro e w' ⟨rfl, ⟨nd, rfl⟩⟩; refine ⟨_, rfl, ?_⟩) | ((with_reducible refine gqC (f := 14) rfl ?_); refine goesL_ (some 30) rfl rfl Try.func14 (by kernel_rfl) rfl #[.slice A0 l0.length c0] rfl (by (try simp only [List.map_toArray, List.map_cons, List.map_nil]); first | done | rfl | (simp only [List.length_drop, List.length_take]; rfl)) ?_; (with_reducible refine (clone14.calls _ _ l0 t331 _ ?side1 ?side2 A8.out).mono ?_); (case side1 => repeat (first | exact (Kd.C_below HR0.out (by repeat (first | (with_reducible first | exact HB.out | apply lqA | apply lqN | apply lqD) | exact HB.out))) | (with_reducible refine Kd.C_alloc ?_ _) | (with_reducible refine Kd.C_drewN ?_ _) | (with_reducible refine Kd.C_drew ?_))); (case side2 => exact HC0.out); rintro e w30 ⟨v332, rfl, ho0, hb⟩; refine ⟨_, rfl, ?_⟩; have n0_ := Aside0.mk (Kd.R_lower ho0 (lqZ (by repeat (first | (with_reducible first | exact HB.out | apply lqA | apply lqN | apply lqD) | exact HB.out)))); have n1_ := Aside0.mk (lqT (by repeat (first | (with_reducible first | exact HB.out | apply lqA | apply lqN | apply lqD) | exact HB.out)) hb); clear HB; have HO333 := n0_; have HB := n1_; clear n0_ n1_; (try clear hb); (try clear hb2); (try clear hk); (try clear hi); (try clear ho0); obtain ⟨Ao31, co31, eo31⟩ := Kd.R_slice HO333.out; subst eo31) | ((with_reducible refine gqC (f := 13) rfl ?_); refine goesL_ (some 31) rfl rfl Try.func13 (by kernel_rfl) rfl #[.slice Ao31 t331.length co31] rfl (by (try simp only [List.map_toArray, List.map_cons, List.map_nil]); first | done | rfl | (simp only [List.length_drop, List.length_take]; rfl)) ?_; (with_reducible refine (rank_Sorted.calls _ _ t331 t334 t335 _ ?side1 ?side2 A9.out).mono ?_); (case side1 => repeat (first | exact (Kd.R_reads' HO333.out).2.2 | (with_reducible refine Kd.C_alloc ?_ _) | (with_reducible refine Kd.C_drewN ?_ _) | (with_reducible refine Kd.C_drew ?_))); (case side2 => exact (Kd.R_reads' HO333.out).2.1); rintro e w32 ⟨v336, rfl, ho0, hb⟩; refine ⟨_, rfl, ?_⟩; have n0_ := Aside0.mk (Kd.R_elder' (by (with_reducible repeat (first | apply Kd.R_alloc | apply Kd.R_drewN | apply Kd.R_drew)); exact HO333.out) (Kd.R_base ho0) hb); have n1_ := Aside0.mk (Kd.R_lower (Kd.R_new' ho0 (Kd.R_lt (by (with_reducible repeat (first | apply Kd.R_alloc | apply Kd.R_drewN | apply Kd.R_drew)); exact HO333.out))) (lqZ (by repeat (first | (with_reducible first | exact HB.out | apply lqA | apply lqN | apply lqD) | exact HB.out)))); have n2_ := Aside0.mk (lqT (by repeat (first | (with_reducible first | exact HB.out | apply lqA | apply lqN | apply lqD) | exact HB.out)) hb); clear HO333; clear HB; have HO333 := n0_; have HO337 := n1_; have HB := n2_; clear n0_ n1_ n2_; (try clear hb); (try clear hb2); (try clear hk); (try clear hi); (try clear ho0)) | ((with_reducible refine gqC (f := 15) rfl ?_); refine goesL_ (some 36) rfl rfl Try.func15 (by kernel_rfl) rfl #[.slice A0 l0.length c0] rfl (by (try simp only [List.map_toArray, List.map_cons, List.map_nil]); first | done | rfl | (simp only [List.length_drop, List.length_take]; rfl)) ?_; (with_reducible refine (spileref33_Sorted.calls k _ _ l0 t338 t339 _ ?side1 ?side2 A10.out).mono ?_); (case side1 => repeat (first | exact (Kd.C_below HR0.out HB.out) | (with_reducible refine Kd.C_alloc ?_ _) | (with_reducible refine Kd.C_drewN ?_ _) | (with_reducible refine Kd.C_drew ?_))); (case side2 => exact HC0.out); rintro e w33 ⟨v340, rfl, ho0, hb⟩; refine ⟨_, rfl, ?_⟩; have n0_ := Aside0.mk (Kd.R_elder' (by (with_reducible repeat (first | apply Kd.R_alloc | apply Kd.R_drewN | apply Kd.R_drew)); exact HO333.out) (Kd.R_base ho0) hb); have n1_ := Aside0.mk (Kd.R_elder' (by (with_reducible repeat (first | apply Kd.R_alloc | apply Kd.R_drewN | apply Kd.R_drew)); exact HO337.out) (Kd.R_base ho0) hb); have n2_ := Aside0.mk (Kd.R_lower (Kd.R_new' (Kd.R_new' ho0 (Kd.R_lt (by (with_reducible repeat (first | apply Kd.R_alloc | apply Kd.R_drewN | apply Kd.R_drew)); exact HO333.out))) (Kd.R_lt (by (with_reducible repeat (first | apply Kd.R_alloc | apply Kd.R_drewN | apply Kd.R_drew)); exact HO337.out))) (lqZ (by repeat (first | (with_reducible first | exact HB.out | apply lqA | apply lqN | apply lqD) | exact HB.out)))); have n3_ := Aside0.mk (lqT (by repeat (first | (with_reducible first | exact HB.out | apply lqA | apply lqN | apply lqD) | exact HB.out)) hb); clear HO333; clear HO337; clear HB; have HO333 := n0_; have HO337 := n1_; have HO341 := n2_; have HB := n3_; clear n0_ n1_ n2_ n3_; (try clear hb); (try clear hb2); (try clear hk); (try clear hi); (try clear ho0)) | ((with_reducible refine gqC (f := 14) rfl ?_); refine goesL_ (some 41) rfl rfl Try.func14 (by kernel_rfl) rfl #[.slice A0 l0.length c0] rfl (by (try simp only [List.map_toArray, List.map_cons, List.map_nil]); first | done | rfl | (simp only [List.length_drop, List.length_take]; rfl)) ?_; (with_reducible refine (clone14.calls _ _ l0 t342 _ ?side1 ?side2 A11.out).mono ?_); (case side1 => repeat (first | exact (Kd.C_below HR0.out HB.out) | (with_reducible refine Kd.C_alloc ?_ _) | (with_reducible refine Kd.C_drewN ?_ _) | (with_reducible refine Kd.C_drew ?_))); (case side2 => exact HC0.out); rintro e w34 ⟨v343, rfl, ho0, hb⟩; refine ⟨_, rfl, ?_⟩; have n0_ := Aside0.mk (Kd.R_elder' (by (with_reducible repeat (first | apply Kd.R_alloc | apply Kd.R_drewN | apply Kd.R_drew)); exact HO333.out) (Kd.R_base ho0) hb); have n1_ := Aside0.mk (Kd.R_elder' (by (with_reducible repeat (first | apply Kd.R_alloc | apply Kd.R_drewN | apply Kd.R_drew)); exact HO337.out) (Kd.R_base ho0) hb); have n2_ := Aside0.mk (Kd.R_elder' (by (with_reducible repeat (first | apply Kd.R_alloc | apply Kd.R_drewN | apply Kd.R_drew)); exact HO341.out) (Kd.R_base ho0) hb); have n3_ := Aside0.mk (Kd.R_lower (Kd.R_new' (Kd.R_new' (Kd.R_new' ho0 (Kd.R_lt (by (with_reducible repeat (first | apply Kd.R_alloc | apply Kd.R_drewN | apply Kd.R_drew)); exact HO333.out))) (Kd.R_lt (by (with_reducible repeat (first | apply Kd.R_alloc | apply Kd.R_drewN | apply Kd.R_drew)); exact HO337.out))) (Kd.R_lt (by (with_reducible repeat (first | apply Kd.R_alloc | apply Kd.R_drewN | apply Kd.R_drew)); exact HO341.out))) (lqZ (by repeat (first | (with_reducible first | exact HB.out | apply lqA | apply lqN | apply lqD) | exact HB.out)))); have n4_ := Aside0.mk (lqT (by repeat (first | (with_reducible first | exact HB.out | apply lqA | apply lqN | apply lqD) | exact HB.out)) hb); clear HO333; clear HO337; clear HO341; clear HB; have HO333 := n0_; have HO337 := n1_; have HO341 := n2_; have HO344 := n3_; have HB := n4_; clear n0_ n1_ n2_ n3_ n4_; (try clear hb); (try clear hb2); (try clear hk); (try clear hi); (try clear ho0); obtain ⟨Ao35, co35, eo35⟩ := Kd.R_slice HO344.out; subst eo35) | ((with_reducible refine gqC (f := 16) rfl ?_); refine goesL_ (some 44) rfl rfl Try.func16 (by kernel_rfl) rfl #[.slice Ao35 t342.length co35, .int .i64 a1, .int .i64 a2] rfl (by (try simp only [List.map_toArray, List.map_cons, List.map_nil]); first | done | rfl | (simp only [List.length_drop, List.length_take]; rfl)) ?_; (with_reducible refine (rank_Quantile.calls k _ _ t342 a1 a2 t345 t346 _ ?side1 ?side2 A12.out).mono ?_); (case side1 => repeat (first | exact (Kd.R_reads' HO344.out).2.2 | (with_reducible refine Kd.C_alloc ?_ _) | (with_reducible refine Kd.C_drewN ?_ _) | (with_reducible refine Kd.C_drew ?_))); (case side2 => exact (Kd.R_reads' HO344.out).2.1); rintro e w36 ⟨rfl, hb⟩; refine ⟨_, rfl, ?_⟩; have n0_ := Aside0.mk (Kd.R_below (by (with_reducible repeat (first | apply Kd.R_alloc | apply Kd.R_drewN | apply Kd.R_drew)); exact HO333.out) hb); have n1_ := Aside0.mk (Kd.R_below (by (with_reducible repeat (first | apply Kd.R_alloc | apply Kd.R_drewN | apply Kd.R_drew)); exact HO337.out) hb); have n2_ := Aside0.mk (Kd.R_below (by (with_reducible repeat (first | apply Kd.R_alloc | apply Kd.R_drewN | apply Kd.R_drew)); exact HO341.out) hb); have n3_ := Aside0.mk (Kd.R_below (by (with_reducible repeat (first | apply Kd.R_alloc | apply Kd.R_drewN | apply Kd.R_drew)); exact HO344.out) hb); have n4_ := Aside0.mk (lqT (by repeat (first | (with_reducible first | exact HB.out | apply lqA | apply lqN | apply lqD) | exact HB.out)) hb); clear HO333; clear HO337; clear HO341; clear HO344; clear HB; have HO333 := n0_; have HO337 := n1_; have HO341 := n2_; have HO344 := n3_; have HB := n4_; clear n0_ n1_ n2_ n3_ n4_; (try clear hb); (try clear hb2); (try clear hk); (try clear hi)) | ((with_reducible refine gqC (f := 17) rfl ?_); refine goesL_ (some 51) rfl rfl Try.func17 (by kernel_rfl) rfl #[.slice A0 l0.length c0, .int .i64 a1, .int .i64 a2] rfl (by (try simp only [List.map_toArray, List.map_cons, List.map_nil]); first | done | rfl | (simp only [List.length_drop, List.length_take]; rfl)) ?_; (with_reducible refine (spileref33_Quantile.calls k _ _ l0 a1 a2 t347 t348 _ ?side1 ?side2 A13.out).mono ?_); (case side1 => repeat (first | exact (Kd.C_below HR0.out HB.out) | (with_reducible refine Kd.C_alloc ?_ _) | (with_reducible refine Kd.C_drewN ?_ _) | (with_reducible refine Kd.C_drew ?_))); (case side2 => exact HC0.out); rintro e w37 ⟨rfl, hb⟩; refine ⟨_, rfl, ?_⟩; have n0_ := Aside0.mk (Kd.R_below (by (with_reducible repeat (first | apply Kd.R_alloc | apply Kd.R_drewN | apply Kd.R_drew)); exact HO333.out) hb); have n1_ := Aside0.mk (Kd.R_below (by (with_reducible repeat (first | apply Kd.R_alloc | apply Kd.R_drewN | apply Kd.R_drew)); exact HO337.out) hb); have n2_ := Aside0.mk (Kd.R_below (by (with_reducible repeat (first | apply Kd.R_alloc | apply Kd.R_drewN | apply Kd.R_drew)); exact HO341.out) hb); have n3_ := Aside0.mk (Kd.R_below (by (with_reducible repeat (first | apply Kd.R_alloc | apply Kd.R_drewN | apply Kd.R_drew)); exact HO344.out) hb); have n4_ := Aside0.mk (lqT (by repeat (first | (with_reducible first | exact HB.out | apply lqA | apply lqN | apply lqD) | exact HB.out)) hb); clear HO333; clear HO337; clear HO341; clear HO344; clear HB; have HO333 := n0_; have HO337 := n1_; have HO341 := n2_; have HO344 := n3_; have HB := n4_; clear n0_ n1_ n2_ n3_ n4_; (try clear hb); (try clear hb2); (try clear hk); (try clear hi)) | ((with_reducible refine gqC (f := 14) rfl ?_); refine goesL_ (some 56) rfl rfl Try.func14 (by kernel_rfl) rfl #[.slice A0 l0.length c0] rfl (by (try simp only [List.map_toArray, List.map_cons, List.map_nil]); first | done | rfl | (simp only [List.length_drop, List.length_take]; rfl)) ?_; (with_reducible refine (clone14.calls _ _ l0 t349 _ ?side1 ?side2 A14.out).mono ?_); (case side1 => repeat (first | exact (Kd.C_below HR0.out HB.out) | (with_reducible refine Kd.C_alloc ?_ _) | (with_reducible refine Kd.C_drewN ?_ _) | (with_reducible refine Kd.C_drew ?_))); (case side2 => exact HC0.out); rintro e w38 ⟨v350, rfl, ho0, hb⟩; refine ⟨_, rfl, ?_⟩; have n0_ := Aside0.mk (Kd.R_elder' (by (with_reducible repeat (first | apply Kd.R_alloc | apply Kd.R_drewN | apply Kd.R_drew)); exact HO333.out) (Kd.R_base ho0) hb); have n1_ := Aside0.mk (Kd.R_elder' (by (with_reducible repeat (first | apply Kd.R_alloc | apply Kd.R_drewN | apply Kd.R_drew)); exact HO337.out) (Kd.R_base ho0) hb); have n2_ := Aside0.mk (Kd.R_elder' (by (with_reducible repeat (first | apply Kd.R_alloc | apply Kd.R_drewN | apply Kd.R_drew)); exact HO341.out) (Kd.R_base ho0) hb); have n3_ := Aside0.mk (Kd.R_elder' (by (with_reducible repeat (first | apply Kd.R_alloc | apply Kd.R_drewN | apply Kd.R_drew)); exact HO344.out) (Kd.R_base ho0) hb); have n4_ := Aside0.mk (Kd.R_lower (Kd.R_new' (Kd.R_new' (Kd.R_new' (Kd.R_new' ho0 (Kd.R_lt (by (with_reducible repeat (first | apply Kd.R_alloc | apply Kd.R_drewN | apply Kd.R_drew)); exact HO333.out))) (Kd.R_lt (by (with_reducible repeat (first | apply Kd.R_alloc | apply Kd.R_drewN | apply Kd.R_drew)); exact HO337.out))) (Kd.R_lt (by (with_reducible repeat (first | apply Kd.R_alloc | apply Kd.R_drewN | apply Kd.R_drew)); exact HO341.out))) (Kd.R_lt (by (with_reducible repeat (first | apply Kd.R_alloc | apply Kd.R_drewN | apply Kd.R_drew)); exact HO344.out))) (lqZ (by repeat (first | (with_reducible first | exact HB.out | apply lqA | apply lqN | apply lqD) | exact HB.out)))); have n5_ := Aside0.mk (lqT (by repeat (first | (with_reducible first | exact HB.out | apply lqA | apply lqN | apply lqD) | exact HB.out)) hb); clear HO333; clear HO337; clear HO341; clear HO344; clear HB; have HO333 := n0_; have HO337 := n1_; have HO341 := n2_; have HO344 := n3_; have HO351 := n4_; have HB := n5_; clear n0_ n1_ n2_ n3_ n4_ n5_; (try clear hb); (try clear hb2); (try clear hk); (try clear hi); (try clear ho0); obtain ⟨Ao39, co39, eo39⟩ := Kd.R_slice HO351.out; subst eo39) | ((with_reducible refine gqC (f := 18) rfl ?_); refine goesL_ (some 57) rfl rfl Try.func18 (by kernel_rfl) rfl #[.slice Ao39 t349.length co39] rfl (by (try simp only [List.map_toArray, List.map_cons, List.map_nil]); first | done | rfl | (simp only [List.length_drop, List.length_take]; rfl)) ?_; (with_reducible refine (rank_Ranks.calls k _ _ t349 t352 t353 _ ?side1 ?side2 A15.out).mono ?_); (case side1 => repeat (first | exact (Kd.R_reads' HO351.out).2.2 | (with_reducible refine Kd.C_alloc ?_ _) | (with_reducible refine Kd.C_drewN ?_ _) | (with_reducible refine Kd.C_drew ?_))); (case side2 => exact (Kd.R_reads' HO351.out).2.1); rintro e w40 ⟨v354, rfl, ho0, hb⟩; refine ⟨_, rfl, ?_⟩; have n0_ := Aside0.mk (Kd.R_elder' (by (with_reducible repeat (first | apply Kd.R_alloc | apply Kd.R_drewN | apply Kd.R_drew)); exact HO333.out) (Kd.R_base ho0) hb); have n1_ := Aside0.mk (Kd.R_elder' (by (with_reducible repeat (first | apply Kd.R_alloc | apply Kd.R_drewN | apply Kd.R_drew)); exact HO337.out) (Kd.R_base ho0) hb); have n2_ := Aside0.mk (Kd.R_elder' (by (with_reducible repeat (first | apply Kd.R_alloc | apply Kd.R_drewN | apply Kd.R_drew)); exact HO341.out) (Kd.R_base ho0) hb); have n3_ := Aside0.mk (Kd.R_elder' (by (with_reducible repeat (first | apply Kd.R_alloc | apply Kd.R_drewN | apply Kd.R_drew)); exact HO344.out) (Kd.R_base ho0) hb); have n4_ := Aside0.mk (Kd.R_elder' (by (with_reducible repeat (first | apply Kd.R_alloc | apply Kd.R_drewN | apply Kd.R_drew)); exact HO351.out) (Kd.R_base ho0) hb); have n5_ := Aside0.mk (Kd.R_lower (Kd.R_new' (Kd.R_new' (Kd.R_new' (Kd.R_new' (Kd.R_new' ho0 (Kd.R_lt (by (with_reducible repeat (first | apply Kd.R_alloc | apply Kd.R_drewN | apply Kd.R_drew)); exact HO333.out))) (Kd.R_lt (by (with_reducible repeat (first | apply Kd.R_alloc | apply Kd.R_drewN | apply Kd.R_drew)); exact HO337.out))) (Kd.R_lt (by (with_reducible repeat (first | apply Kd.R_alloc | apply Kd.R_drewN | apply Kd.R_drew)); exact HO341.out))) (Kd.R_lt (by (with_reducible repeat (first | apply Kd.R_alloc | apply Kd.R_drewN | apply Kd.R_drew)); exact HO344.out))) (Kd.R_lt (by (with_reducible repeat (first | apply Kd.R_alloc | apply Kd.R_drewN | apply Kd.R_drew)); exact HO351.out))) (lqZ (by repeat (first | (with_reducible first | exact HB.out | apply lqA | apply lqN | apply lqD) | exact HB.out)))); have n6_ := Aside0.mk (lqT (by repeat (first | (with_reducible first | exact HB.out | apply lqA | apply lqN | apply lqD) | exact HB.out)) hb); clear HO333; clear HO337; clear HO341; clear HO344; clear HO351; clear HB; have HO333 := n0_; have HO337 := n1_; have HO341 := n2_; have HO344 := n3_; have HO351 := n4_; have HO355 := n5_; have HB := n6_; clear n0_ n1_ n2_ n3_ n4_ n5_ n6_; (try clear hb); (try clear hb2); (try clear hk); (try clear hi); (try clear ho0)) | ((with_reducible refine gqC (f := 19) rfl ?_); refine goesL_ (some 62) rfl rfl Try.func19 (by kernel_rfl) rfl #[.slice A0 l0.length c0] rfl (by (try simp only [List.map_toArray, List.map_cons, List.map_nil]); first | done | rfl | (simp only [List.length_drop, List.length_take]; rfl)) ?_; (with_reducible refine (spileref33_Ranks.calls k _ _ l0 t356 t357 _ ?side1 ?side2 A16.out).mono ?_); (case side1 => repeat (first | exact (Kd.C_below HR0.out HB.out) | (with_reducible refine Kd.C_alloc ?_ _) | (with_reducible refine Kd.C_drewN ?_ _) | (with_reducible refine Kd.C_drew ?_))); (case side2 => exact HC0.out); rintro e w41 ⟨v358, rfl, ho0, hb⟩; refine ⟨_, rfl, ?_⟩; have n0_ := Aside0.mk (Kd.R_elder' (by (with_reducible repeat (first | apply Kd.R_alloc | apply Kd.R_drewN | apply Kd.R_drew)); exact HO333.out) (Kd.R_base ho0) hb); have n1_ := Aside0.mk (Kd.R_elder' (by (with_reducible repeat (first | apply Kd.R_alloc | apply Kd.R_drewN | apply Kd.R_drew)); exact HO337.out) (Kd.R_base ho0) hb); have n2_ := Aside0.mk (Kd.R_elder' (by (with_reducible repeat (first | apply Kd.R_alloc | apply Kd.R_drewN | apply Kd.R_drew)); exact HO341.out) (Kd.R_base ho0) hb); have n3_ := Aside0.mk (Kd.R_elder' (by (with_reducible repeat (first | apply Kd.R_alloc | apply Kd.R_drewN | apply Kd.R_drew)); exact HO344.out) (Kd.R_base ho0) hb); have n4_ := Aside0.mk (Kd.R_elder' (by (with_reducible repeat (first | apply Kd.R_alloc | apply Kd.R_drewN | apply Kd.R_drew)); exact HO351.out) (Kd.R_base ho0) hb); have n5_ := Aside0.mk (Kd.R_elder' (by (with_reducible repeat (first | apply Kd.R_alloc | apply Kd.R_drewN | apply Kd.R_drew)); exact HO355.out) (Kd.R_base ho0) hb); have n6_ := Aside0.mk (Kd.R_lower (Kd.R_new' (Kd.R_new' (Kd.R_new' (Kd.R_new' (Kd.R_new' (Kd.R_new' ho0 (Kd.R_lt (by (with_reducible repeat (first | apply Kd.R_alloc | apply Kd.R_drewN | apply Kd.R_drew)); exact HO333.out))) (Kd.R_lt (by (with_reducible repeat (first | apply Kd.R_alloc | apply Kd.R_drewN | apply Kd.R_drew)); exact HO337.out))) (Kd.R_lt (by (with_reducible repeat (first | apply Kd.R_alloc | apply Kd.R_drewN | apply Kd.R_drew)); exact HO341.out))) (Kd.R_lt (by (with_reducible repeat (first | apply Kd.R_alloc | apply Kd.R_drewN | apply Kd.R_drew)); exact HO344.out))) (Kd.R_lt (by (with_reducible repeat (first | apply Kd.R_alloc | apply Kd.R_drewN | apply Kd.R_drew)); exact HO351.out))) (Kd.R_lt (by (with_reducible repeat (first | apply Kd.R_alloc | apply Kd.R_drewN | apply Kd.R_drew)); exact HO355.out))) (lqZ (by repeat (first | (with_reducible first | exact HB.out | apply lqA | apply lqN | apply lqD) | exact HB.out)))); have n7_ := Aside0.mk (lqT (by repeat (first | (with_reducible first | exact HB.out | apply lqA | apply lqN | apply lqD) | exact HB.out)) hb); clear HO333; clear HO337; clear HO341; clear HO344; clear HO351; clear HO355; clear HB; have HO333 := n0_; have HO337 := n1_; have HO341 := n2_; have HO344 := n3_; have HO351 := n4_; have HO355 := n5_; have HO359 := n6_; have HB := n7_; clear n0_ n1_ n2_ n3_ n4_ n5_ n6_ n7_; (try clear hb); (try clear hb2); (try clear hk); (try clear hi); (try clear ho0)) | ((with_reducible refine gqC (f := 14) rfl ?_); refine goesL_ (some 67) rfl rfl Try.func14 (by kernel_rfl) rfl #[.slice A0 l0.length c0] rfl (by (try simp only [List.map_toArray, List.map_cons, List.map_nil]); first | done | rfl | (simp only [List.length_drop, List.length_take]; rfl)) ?_; (with_reducible refine (clone14.calls _ _ l0 t360 _ ?side1 ?side2 A17.out).mono ?_); (case side1 => repeat (first | exact (Kd.C_below HR0.out HB.out) | (with_reducible refine Kd.C_alloc ?_ _) | (with_reducible refine Kd.C_drewN ?_ _) | (with_reducible refine Kd.C_drew ?_))); (case side2 => exact HC0.out); rintro e w42 ⟨v361, rfl, ho0, hb⟩; refine ⟨_, rfl, ?_⟩; have n0_ := Aside0.mk (Kd.R_elder' (by (with_reducible repeat (first | apply Kd.R_alloc | apply Kd.R_drewN | apply Kd.R_drew)); exact HO333.out) (Kd.R_base ho0) hb); have n1_ := Aside0.mk (Kd.R_elder' (by (with_reducible repeat (first | apply Kd.R_alloc | apply Kd.R_drewN | apply Kd.R_drew)); exact HO337.out) (Kd.R_base ho0) hb); have n2_ := Aside0.mk (Kd.R_elder' (by (with_reducible repeat (first | apply Kd.R_alloc | apply Kd.R_drewN | apply Kd.R_drew)); exact HO341.out) (Kd.R_base ho0) hb); have n3_ := Aside0.mk (Kd.R_elder' (by (with_reducible repeat (first | apply Kd.R_alloc | apply Kd.R_drewN | apply Kd.R_drew)); exact HO344.out) (Kd.R_base ho0) hb); have n4_ := Aside0.mk (Kd.R_elder' (by (with_reducible repeat (first | apply Kd.R_alloc | apply Kd.R_drewN | apply Kd.R_drew)); exact HO351.out) (Kd.R_base ho0) hb); have n5_ := Aside0.mk (Kd.R_elder' (by (with_reducible repeat (first | apply Kd.R_alloc | apply Kd.R_drewN | apply Kd.R_drew)); exact HO355.out) (Kd.R_base ho0) hb); have n6_ := Aside0.mk (Kd.R_elder' (by (with_reducible repeat (first | apply Kd.R_alloc | apply Kd.R_drewN | apply Kd.R_drew)); exact HO359.out) (Kd.R_base ho0) hb); have n7_ := Aside0.mk (Kd.R_lower (Kd.R_new' (Kd.R_new' (Kd.R_new' (Kd.R_new' (Kd.R_new' (Kd.R_new' (Kd.R_new' ho0 (Kd.R_lt (by (with_reducible repeat (first | apply Kd.R_alloc | apply Kd.R_drewN | apply Kd.R_drew)); exact HO333.out))) (Kd.R_lt (by (with_reducible repeat (first | apply Kd.R_alloc | apply Kd.R_drewN | apply Kd.R_drew)); exact HO337.out))) (Kd.R_lt (by (with_reducible repeat (first | apply Kd.R_alloc | apply Kd.R_drewN | apply Kd.R_drew)); exact HO341.out))) (Kd.R_lt (by (with_reducible repeat (first | apply Kd.R_alloc | apply Kd.R_drewN | apply Kd.R_drew)); exact HO344.out))) (Kd.R_lt (by (with_reducible repeat (first | apply Kd.R_alloc | apply Kd.R_drewN | apply Kd.R_drew)); exact HO351.out))) (Kd.R_lt (by (with_reducible repeat (first | apply Kd.R_alloc | apply Kd.R_drewN | apply Kd.R_drew)); exact HO355.out))) (Kd.R_lt (by (with_reducible repeat (first | apply Kd.R_alloc | apply Kd.R_drewN | apply Kd.R_drew)); exact HO359.out))) (lqZ (by repeat (first | (with_reducible first | exact HB.out | apply lqA | apply lqN | apply lqD) | exact HB.out)))); have n8_ := Aside0.mk (lqT (by repeat (first | (with_reducible first | exact HB.out | apply lqA | apply lqN | apply lqD) | exact HB.out)) hb); clear HO333; clear HO337; clear HO341; clear HO344; clear HO351; clear HO355; clear HO359; clear HB; have HO333 := n0_; have HO337 := n1_; have HO341 := n2_; have HO344 := n3_; have HO351 := n4_; have HO355 := n5_; have HO359 := n6_; have HO362 := n7_; have HB := n8_; clear n0_ n1_ n2_ n3_ n4_ n5_ n6_ n7_ n8_; (try clear hb); (try clear hb2); (try clear hk); (try clear hi); (try clear ho0); obtain ⟨Ao43, co43, eo43⟩ := Kd.R_slice HO362.out; subst eo43) | ((with_reducible refine gqC (f := 20) rfl ?_); refine goesL_ (some 68) rfl rfl Try.func20 (by kernel_rfl) rfl #[.slice Ao43 t360.length co43] rfl (by (try simp only [List.map_toArray, List.map_cons, List.map_nil]); first | done | rfl | (simp only [List.length_drop, List.length_take]; rfl)) ?_; (with_reducible refine (rank_Rises.calls k _ _ t360 t363 t364 _ ?side1 ?side2 A18.out).mono ?_); (case side1 => repeat (first | exact (Kd.R_reads' HO362.out).2.2 | (with_reducible refine Kd.C_alloc ?_ _) | (with_reducible refine Kd.C_drewN ?_ _) | (with_reducible refine Kd.C_drew ?_))); (case side2 => exact (Kd.R_reads' HO362.out).2.1); rintro e w' ⟨rfl, ⟨nd, rfl⟩⟩; refine ⟨_, rfl, ?_⟩) | ((with_reducible refine gqC (f := 21) rfl ?_); refine goesL_ (some 73) rfl rfl Try.func21 (by kernel_rfl) rfl #[.slice A0 l0.length c0] rfl (by (try simp only [List.map_toArray, List.map_cons, List.map_nil]); first | done | rfl | (simp only [List.length_drop, List.length_take]; rfl)) ?_; (with_reducible refine (spileref33_Rises.calls k _ _ l0 t365 t366 _ ?side1 ?side2 A19.out).mono ?_); (case side1 => repeat (first | exact (Kd.C_below HR0.out (by repeat (first | (with_reducible first | exact HB.out | apply lqA | apply lqN | apply lqD) | exact HB.out))) | (with_reducible refine Kd.C_alloc ?_ _) | (with_reducible refine Kd.C_drewN ?_ _) | (with_reducible refine Kd.C_drew ?_))); (case side2 => exact HC0.out); rintro e w' ⟨rfl, ⟨nd, rfl⟩⟩; refine ⟨_, rfl, ?_⟩; obtain ⟨Ao44, co44, eo44⟩ := Kd.R_slice HO337.out; subst eo44; obtain ⟨Ao45, co45, eo45⟩ := Kd.R_slice HO341.out; subst eo45) | ((with_reducible refine gqC (f := 22) rfl ?_); refine goesL_ (some 78) rfl rfl Try.func22 (by kernel_rfl) rfl #[.slice Ao44 t334.length co44, .slice Ao45 t338.length co45] rfl (by (try simp only [List.map_toArray, List.map_cons, List.map_nil]); first | done | rfl | (simp only [List.length_drop, List.length_take]; rfl)) ?_; (with_reducible refine (spileref33_Same.calls k _ _ t334 _ _ t338 true _ ?side1 ?side2 ?side3 ?side4 A20.out).mono ?_); (case side1 => repeat (first | exact (Kd.R_reads' HO337.out).2.2 | (with_reducible refine Kd.C_alloc ?_ _) | (with_reducible refine Kd.C_drewN ?_ _) | (with_reducible refine Kd.C_drew ?_))); (case side2 => exact (Kd.R_reads' HO337.out).2.1); (case side3 => repeat (first | exact (Kd.R_reads' HO341.out).2.2 | (with_reducible refine Kd.C_alloc ?_ _) | (with_reducible refine Kd.C_drewN ?_ _) | (with_reducible refine Kd.C_drew ?_))); (case side4 => exact (Kd.R_reads' HO341.out).2.1); rintro e w' ⟨rfl, ⟨nd, rfl⟩⟩; refine ⟨_, rfl, ?_⟩; obtain ⟨Ao46, co46, eo46⟩ := Kd.R_slice HO355.out; subst eo46; obtain ⟨Ao47, co47, eo47⟩ := Kd.R_slice HO359.out; subst eo47) | (go_at_call 22; (with_reducible refine (spileref33_Same.calls k _ _ t352 _ _ t356 true _ ?side1 ?side2 ?side3 ?side4 A25.out).mono ?_); (case side1 => repeat (first | exact (Kd.R_reads' HO355.out).2.2 | (with_reducible refine Kd.C_alloc ?_ _) | (with_reducible refine Kd.C_drewN ?_ _) | (with_reducible refine Kd.C_drew ?_))); (case side2 => exact (Kd.R_reads' HO355.out).2.1); (case side3 => repeat (first | exact (Kd.R_reads' HO359.out).2.2 | (with_reducible refine Kd.C_alloc ?_ _) | (with_reducible refine Kd.C_drewN ?_ _) | (with_reducible refine Kd.C_drew ?_))); (case side4 => exact (Kd.R_reads' HO359.out).2.1); rintro e w' ⟨rfl, ⟨nd, rfl⟩⟩))
          go_ret
          exact ⟨by first | rfl | (simp [errW_none, errW_some] <;> rfl) | (simp [*, errW_none, errW_some] <;> rfl), by repeat (first | (with_reducible first | exact HB.out | apply lqA | apply lqN | apply lqD) | exact HB.out)⟩
         ·rw [if_neg c28] at H
          exact absurd H (by simp)
        ·rw [if_neg c27] at H
         exact absurd H (by simp)
       ·replace c26 := Bool.eq_false_iff.mpr c26
        subst c26
        have H1 : (none) = some r := by rw [if_neg (show ¬ (false = true) by decide)] at H; exact H
        clear H
        have H := H1
        clear H1
        exact absurd H (by simp)
      ·rw [if_neg c24] at H
       exact absurd H (by simp)
     ·rw [if_neg c23] at H
      exact absurd H (by simp)
    ·rw [if_neg c22] at H
     exact absurd H (by simp)
   ·replace c21 := Bool.eq_false_iff.mpr c21
    subst c21
    have H1 : (none) = some r := by rw [if_neg (show ¬ (false = true) by decide)] at H; exact H
    clear H
    have H := H1
    clear H1
    exact absurd H (by simp)
  ·replace c7 := Bool.eq_false_iff.mpr c7
   subst c7
   have H1 : (some true) = some r := by rw [if_neg (show ¬ (false = true) by decide)] at H; exact H
   clear H
   have H := H1
   clear H1
   obtain rfl := Option.some.inj H
   go_enter Try.func4, Try.ntmps4
   go_wp2_with (first | ((with_reducible refine gqC (f := 10) rfl ?_); refine goesL_ (some 23) rfl rfl Try.func10 (by kernel_rfl) rfl #[] rfl (by (try simp only [List.map_toArray, List.map_cons, List.map_nil]); first | done | rfl | (simp only [List.length_drop, List.length_take]; rfl)) ?_; (with_reducible refine (spilelaw33_awake.calls k  true _ A4.out).mono ?_); rintro e w48 ⟨rfl, hb⟩; refine ⟨_, rfl, ?_⟩; have n0_ := Aside0.mk (lqT (by repeat (first | (with_reducible first | exact HB.out | apply lqA | apply lqN | apply lqD) | exact HB.out)) hb); clear HB; have HB := n0_; clear n0_; (try clear hb); (try clear hb2); (try clear hk); (try clear hi)) | ((with_reducible refine gqC (f := 12) rfl ?_); refine goesL_ (some 26) rfl rfl Try.func12 (by kernel_rfl) rfl #[.slice A0 l0.length c0] rfl (by (try simp only [List.map_toArray, List.map_cons, List.map_nil]); first | done | rfl | (simp only [List.length_drop, List.length_take]; rfl)) ?_; (with_reducible refine (spileref33_Few.calls _ _ l0 false _ ?side1 ?side2 A6.out).mono ?_); (case side1 => repeat (first | exact (Kd.C_below HR0.out HB.out) | (with_reducible refine Kd.C_alloc ?_ _) | (with_reducible refine Kd.C_drewN ?_ _) | (with_reducible refine Kd.C_drew ?_))); (case side2 => exact HC0.out); rintro e w' ⟨rfl, ⟨nd, rfl⟩⟩; refine ⟨_, rfl, ?_⟩))
   go_ret
   exact ⟨by first | rfl | (simp [errW_none, errW_some] <;> rfl) | (simp [*, errW_none, errW_some] <;> rfl), by repeat (first | (with_reducible first | exact HB.out | apply lqA | apply lqN | apply lqD) | exact HB.out)⟩
 ·replace c5 := Bool.eq_false_iff.mpr c5
  subst c5
  have H1 : (none) = some r := by rw [if_neg (show ¬ (false = true) by decide)] at H; exact H
  clear H
  have H := H1
  clear H1
  exact absurd H (by simp)

/-- THE ONE PURE STATEMENT of spilelaw33_RankSorts: yours. -/
def spilelaw33_RankSorts.Pure : Prop := ∀ (l0 : List Int) (a1 : Int) (a2 : Int), l0.length ≤ maxLen → l0.length * 8 ≤ 140737488351232 → (∀ x ∈ l0, (Lit.int .i64 x).wf = true) → (Lit.int .i64 a1).wf = true → (Lit.int .i64 a2).wf = true → ∃ k, spilelaw33_RankSorts.f k l0 a1 a2 = some true
theorem spilelaw33_RankSorts.walk (P : spilelaw33_RankSorts.Pure) (a0 : Option Addr) (len0 cap0 : Nat) (z0 : List Int) (a1 : Int) (a2 : Int) (w : World) (w0 : (a0 = none ∧ len0 = 0 ∧ cap0 = 0 ∧ z0 = []) ∨ ∃ x, a0 = some x ∧ len0 ≤ cap0 ∧ cap0 ≤ maxLen ∧ z0.length = cap0 ∧ (∀ i, i < z0.length → w.cell? (x.add i) = some (.int .i64 (z0.getD i 0))) ∧ ∀ n ∈ z0, (Lit.int .i64 n).wf = true) (y0 : len0 * 8 ≤ 140737488351232) (w1 : (Lit.int .i64 a1).wf = true) (w2 : (Lit.int .i64 a2).wf = true) :
  Calls Try.prog 4 #[.slice a0 len0 cap0, .int .i64 a1, .int .i64 a2] w fun e w' => e = .returned (.bool true) ∧ Below w.heap.size w w' := by
 obtain ⟨l0, rfl, hr0, hm0, hw0, hc0⟩ := ReadsInt.ofRowC w0
 obtain ⟨k, h⟩ := P l0 a1 a2 hm0 y0 hw0 w1 w2
 refine (spilelaw33_RankSorts.calls k _ _ l0 a1 a2 true w (Kd.C_of_reads (d := (0 : Int)) (h1 := fun _ => rfl) hr0) hc0 h).mono ?_
 rintro e w' ⟨rfl, hd⟩
 exact ⟨rfl, hd⟩

/-! ### spileref33_start: function 46 -/
def spileref33_start.f (k : Nat) (l0 : List Int) (l1 : List Int) : Option (List Int × Int) := (spileref33_Check.f k l0).bind fun t369 => (if t369 = 0 then ((spileref33_Check.f k l1).bind fun t370 => (if t370 = 0 then (if (wrap64 ((l0.length : Int) + (l1.length : Int))) > 24 then (some (([] : List Int), 8)) else ((some (([] : List Int) : List Int)).bind fun y371 => (if y371.length + l0.length < 17592186044416 then ((some (y371 ++ l0 : List Int)).bind fun y374 => (if y374.length + l1.length < 17592186044416 then ((spileref33_ranks.f k (y374 ++ l1)).bind fun t380 => (some (t380, 0))) else (none))) else (none)))) else (some (([] : List Int), t370)))) else (some (([] : List Int), t369)))
theorem spileref33_start.mono : ∀ a0 a1 k, LeO (spileref33_start.f k a0 a1) (spileref33_start.f (k + 1) a0 a1) := by
 intro a0 a1 k
 unfold spileref33_start.f
 repeat' first
   | (with_reducible exact spileref33_Check.mono _ _)
   | (with_reducible exact spileref33_ranks.mono _ _)
   | (with_reducible exact LeO.refl _)
   | (with_reducible exact LeO.none _)
   | (with_reducible refine LeO.ite ?_ ?_)
   | (with_reducible refine LeO.bind ?_ (fun _ => ?_))
   | exact spileref33_Check.mono _ _
   | exact spileref33_ranks.mono _ _
   | exact LeO.none _
   | refine LeO.ite ?_ ?_
   | refine LeO.bind ?_ (fun _ => ?_)
set_option maxHeartbeats 8000000 in
set_option maxRecDepth 100000 in
theorem spileref33_start.calls (k : Nat) (A0 : Option Addr) (c0 : Nat) (l0 : List Int) (A1 : Option Addr) (c1 : Nat) (l1 : List Int) (r1 : List Int) (r2 : Int) (w : World) (hr0 : Kd.C (Kd.int .i64) w A0 l0.length l0) (hc0 : l0.length ≤ c0) (hr1 : Kd.C (Kd.int .i64) w A1 l1.length l1) (hc1 : l1.length ≤ c1) (h : spileref33_start.f k l0 l1 = some (r1, r2)) :
  Calls Try.prog 46 #[.slice A0 l0.length c0, .slice A1 l1.length c1] w fun e w' => ∃ v0_ : Value, e = .returned (.tuple #[v0_, .int .i64 r2]) ∧ Kd.R (Kd.int .i64) 3 w' w.heap.size (fun _ => True) v0_ r1 ∧ Below w.heap.size w w' := by
 have HR0 := Aside0.mk hr0
 have HC0 := Aside0.mk hc0
 clear hr0 hc0
 have HR1 := Aside0.mk hr1
 have HC1 := Aside0.mk hc1
 clear hr1 hc1
 have HB := Aside0.mk (Below.refl w.heap.size w)
 have H : ((spileref33_Check.f k l0).bind fun t369 => (if t369 = 0 then ((spileref33_Check.f k l1).bind fun t370 => (if t370 = 0 then (if (wrap64 ((l0.length : Int) + (l1.length : Int))) > 24 then (some (([] : List Int), 8)) else ((some (([] : List Int) : List Int)).bind fun y371 => (if y371.length + l0.length < 17592186044416 then ((some (y371 ++ l0 : List Int)).bind fun y374 => (if y374.length + l1.length < 17592186044416 then ((spileref33_ranks.f k (y374 ++ l1)).bind fun t380 => (some (t380, 0))) else (none))) else (none)))) else (some (([] : List Int), t370)))) else (some (([] : List Int), t369)))) = some (r1, r2) := h
 clear h
 replace H := Option.bind_eq_some_iff.mp H
 obtain ⟨t369, A30, H⟩ := H
 replace H : (if t369 = 0 then ((spileref33_Check.f k l1).bind fun t370 => (if t370 = 0 then (if (wrap64 ((l0.length : Int) + (l1.length : Int))) > 24 then (some (([] : List Int), 8)) else ((some (([] : List Int) : List Int)).bind fun y371 => (if y371.length + l0.length < 17592186044416 then ((some (y371 ++ l0 : List Int)).bind fun y374 => (if y374.length + l1.length < 17592186044416 then ((spileref33_ranks.f k (y374 ++ l1)).bind fun t380 => (some (t380, 0))) else (none))) else (none)))) else (some (([] : List Int), t370)))) else (some (([] : List Int), t369))) = some (r1, r2) := H
 have A3 := Aside0.mk A30
 clear A30
 by_cases c4 : t369 = 0
 ·rw [if_pos c4] at H
  have c4b0 : (t369 == 0) = true := beq_iff_eq.mpr c4
  try simp only [beq_self_eq_true, Bool.not_true, Bool.false_or, Bool.true_and] at c4b0
  have c4b1 : (t369 != 0) = false := bne_eq_false_iff_eq.mpr c4
  clear c4
  replace H := Option.bind_eq_some_iff.mp H
  obtain ⟨t370, A50, H⟩ := H
  replace H : (if t370 = 0 then (if (wrap64 ((l0.length : Int) + (l1.length : Int))) > 24 then (some (([] : List Int), 8)) else ((some (([] : List Int) : List Int)).bind fun y371 => (if y371.length + l0.length < 17592186044416 then ((some (y371 ++ l0 : List Int)).bind fun y374 => (if y374.length + l1.length < 17592186044416 then ((spileref33_ranks.f k (y374 ++ l1)).bind fun t380 => (some (t380, 0))) else (none))) else (none)))) else (some (([] : List Int), t370))) = some (r1, r2) := H
  have A5 := Aside0.mk A50
  clear A50
  by_cases c6 : t370 = 0
  ·rw [if_pos c6] at H
   have c6b0 : (t370 == 0) = true := beq_iff_eq.mpr c6
   try simp only [beq_self_eq_true, Bool.not_true, Bool.false_or, Bool.true_and] at c6b0
   have c6b1 : (t370 != 0) = false := bne_eq_false_iff_eq.mpr c6
   clear c6
   by_cases c7 : (wrap64 ((l0.length : Int) + (l1.length : Int))) > 24
   ·rw [if_pos c7] at H
    have c7b0 : decide (24 < (wrap64 ((l0.length : Int) + (l1.length : Int)))) = true := decide_eq_true c7
    clear c7
    simp only [Option.some.injEq, Prod.mk.injEq] at H
    obtain ⟨rfl, rfl⟩ := H
    go_enter Try.func46, Try.ntmps46
    go_wp2_with (first | ((with_reducible refine gqC (f := 40) rfl ?_); refine goesL_ (some 9) rfl rfl Try.func40 (by kernel_rfl) rfl #[.slice A0 l0.length c0] rfl (by (try simp only [List.map_toArray, List.map_cons, List.map_nil]); first | done | rfl | (simp only [List.length_drop, List.length_take]; rfl)) ?_; (with_reducible refine (spileref33_Check.calls k _ _ l0 t369 _ ?side1 ?side2 A3.out).mono ?_); (case side1 => repeat (first | exact HR0.out | (with_reducible refine Kd.C_alloc ?_ _) | (with_reducible refine Kd.C_drewN ?_ _) | (with_reducible refine Kd.C_drew ?_))); (case side2 => exact HC0.out); rintro e w' ⟨rfl, ⟨nd, rfl⟩⟩; refine ⟨_, rfl, ?_⟩) | ((with_reducible refine gqC (f := 40) rfl ?_); refine goesL_ (some 14) rfl rfl Try.func40 (by kernel_rfl) rfl #[.slice A1 l1.length c1] rfl (by (try simp only [List.map_toArray, List.map_cons, List.map_nil]); first | done | rfl | (simp only [List.length_drop, List.length_take]; rfl)) ?_; (with_reducible refine (spileref33_Check.calls k _ _ l1 t370 _ ?side1 ?side2 A5.out).mono ?_); (case side1 => repeat (first | exact HR1.out | (with_reducible refine Kd.C_alloc ?_ _) | (with_reducible refine Kd.C_drewN ?_ _) | (with_reducible refine Kd.C_drew ?_))); (case side2 => exact HC1.out); rintro e w' ⟨rfl, ⟨nd, rfl⟩⟩; refine ⟨_, rfl, ?_⟩))
    go_ret2
    exact ⟨_, by first | rfl | (simp [errW_none, errW_some] <;> rfl) | (simp [*, errW_none, errW_some] <;> rfl), by first | exact Kd.R_nil _ _ _ _ _ | exact Kd.N_nil _ _ _ _ _ | exact Kd.V_nil _ _ _ _ _ | exact Kd.Q_nil _ _ _ _ _ | exact Kd.S_nil _ _ _ _ _, by repeat (first | (with_reducible first | exact HB.out | apply lqA | apply lqN | apply lqD) | exact HB.out)⟩
   ·rw [if_neg c7] at H
    have c7b0 : decide (24 < (wrap64 ((l0.length : Int) + (l1.length : Int)))) = false := decide_eq_false c7
    clear c7
    obtain ⟨y371, hy371⟩ : ∃ y_ : List Int, y_ = (([] : List Int)) := ⟨_, rfl⟩
    replace H : (if y371.length + l0.length < 17592186044416 then ((some (y371 ++ l0 : List Int)).bind fun y374 => (if y374.length + l1.length < 17592186044416 then ((spileref33_ranks.f k (y374 ++ l1)).bind fun t380 => (some (t380, 0))) else (none))) else (none)) = some (r1, r2) := by first | (rw [hy371]; with_reducible exact H) | (have H2_ := (Option.bind_some _ _).symm.trans H; rw [hy371]; with_reducible exact H2_) | (have H2_ := (Option.bind_some _ _).symm.trans H; with_reducible exact H2_) | with_reducible exact H | (rw [hy371]; exact H) | exact H
    have Ny371 := Aside0.mk hy371
    clear hy371
    by_cases c8 : y371.length + l0.length < 17592186044416
    ·rw [if_pos c8] at H
     have LMc8 := Aside0.mk c8
     clear c8
     obtain ⟨y374, hy374⟩ : ∃ y_ : List Int, y_ = (y371 ++ l0) := ⟨_, rfl⟩
     replace H : (if y374.length + l1.length < 17592186044416 then ((spileref33_ranks.f k (y374 ++ l1)).bind fun t380 => (some (t380, 0))) else (none)) = some (r1, r2) := by first | (rw [hy374]; with_reducible exact H) | (have H2_ := (Option.bind_some _ _).symm.trans H; rw [hy374]; with_reducible exact H2_) | (have H2_ := (Option.bind_some _ _).symm.trans H; with_reducible exact H2_) | with_reducible exact H | (rw [hy374]; exact H) | exact H
     have Ny374 := Aside0.mk hy374
     clear hy374
     by_cases c9 : y374.length + l1.length < 17592186044416
     ·rw [if_pos c9] at H
      have LMc9 := Aside0.mk c9
      clear c9
      obtain ⟨y377, hy377⟩ : ∃ y_ : List Int, y_ = (y374 ++ l1) := ⟨_, rfl⟩
      replace H : ((spileref33_ranks.f k y377).bind fun t380 => (some (t380, 0))) = some (r1, r2) := by first | (rw [hy377]; with_reducible exact H) | (have H2_ := (Option.bind_some _ _).symm.trans H; rw [hy377]; with_reducible exact H2_) | (have H2_ := (Option.bind_some _ _).symm.trans H; with_reducible exact H2_) | with_reducible exact H | (rw [hy377]; exact H) | exact H
      have Ny377 := Aside0.mk hy377
      clear hy377
      replace H := Option.bind_eq_some_iff.mp H
      obtain ⟨t380, A100, H⟩ := H
      replace H : (some (t380, 0)) = some (r1, r2) := H
      have A10 := Aside0.mk A100
      clear A100
      simp only [Option.some.injEq, Prod.mk.injEq] at H
      obtain ⟨rfl, rfl⟩ := H
      go_enter Try.func46, Try.ntmps46
      go_wp2_with (first | ((with_reducible refine gqC (f := 40) rfl ?_); refine goesL_ (some 9) rfl rfl Try.func40 (by kernel_rfl) rfl #[.slice A0 l0.length c0] rfl (by (try simp only [List.map_toArray, List.map_cons, List.map_nil]); first | done | rfl | (simp only [List.length_drop, List.length_take]; rfl)) ?_; (with_reducible refine (spileref33_Check.calls k _ _ l0 t369 _ ?side1 ?side2 A3.out).mono ?_); (case side1 => repeat (first | exact HR0.out | (with_reducible refine Kd.C_alloc ?_ _) | (with_reducible refine Kd.C_drewN ?_ _) | (with_reducible refine Kd.C_drew ?_))); (case side2 => exact HC0.out); rintro e w' ⟨rfl, ⟨nd, rfl⟩⟩; refine ⟨_, rfl, ?_⟩) | ((with_reducible refine gqC (f := 40) rfl ?_); refine goesL_ (some 14) rfl rfl Try.func40 (by kernel_rfl) rfl #[.slice A1 l1.length c1] rfl (by (try simp only [List.map_toArray, List.map_cons, List.map_nil]); first | done | rfl | (simp only [List.length_drop, List.length_take]; rfl)) ?_; (with_reducible refine (spileref33_Check.calls k _ _ l1 t370 _ ?side1 ?side2 A5.out).mono ?_); (case side1 => repeat (first | exact HR1.out | (with_reducible refine Kd.C_alloc ?_ _) | (with_reducible refine Kd.C_drewN ?_ _) | (with_reducible refine Kd.C_drew ?_))); (case side2 => exact HC1.out); rintro e w' ⟨rfl, ⟨nd, rfl⟩⟩; refine ⟨_, rfl, ?_⟩) | ((with_reducible refine gqD (N := 24) rfl ?_); refine Kd.R_lit (Kd.int .i64) _ 3 ?hg (N := 24) ?hd (xs := ([] : List Int)) (inner := []) (ok := fun _ => True) (okp := fun _ => True) ?hr ?hp (fun _ hk => hk) trivial (Below.refl _ _) (Nat.le_refl _) (by simp) ?_; (case hd => rfl); (case hg => rfl); (case hr => first | (go_simp; done) | (go_simp; rfl)); (case hp => exact (Reps.none _ _)); intro v372 w11 ho12 hb hg_ hnew_; clear hg_ hnew_; (first | rw [← Ny371.out] at ho12 | (simp only [Int.reduceToNat] at ho12; rw [← Ny371.out] at ho12)); have n0_ := Aside0.mk (Kd.R_lower ho12 (lqZ (by repeat (first | (with_reducible first | exact HB.out | apply lqA | apply lqN | apply lqD) | exact HB.out)))); have n1_ := Aside0.mk (lqT (by repeat (first | (with_reducible first | exact HB.out | apply lqA | apply lqN | apply lqD) | exact HB.out)) hb); clear HB; have HO373 := n0_; have HB := n1_; clear n0_ n1_; clear hb ho12) | ((with_reducible refine gate_builtin (b := .append) (xs := #[.tmp 24, .tmp 25]) rfl ?_); at_builtin; refine Kd.R_append_rows (Kd.int .i64) (w0 := w) w.heap.size rfl (.tmp 24) (.tmp 25) 27 3 (.int .i64 0) 8 rfl Try.underlying27 info3 rfl (by decide) (by omega) v372 y371 l0 _ _ _ (fun _ => True) (fun _ => False) rfl rfl ?aO ?aR (fun _ _ h => h) (fun _ h => h.elim) ?aF ?aB ?aS ?aL ?_; (case aR => repeat (first | exact (Kd.C_below HR0.out HB.out) | (with_reducible refine Kd.C_alloc ?_ _) | (with_reducible refine Kd.C_drewN ?_ _) | (with_reducible refine Kd.C_drew ?_))); (case aB => exact (by repeat (first | (with_reducible first | exact HB.out | apply lqA | apply lqN | apply lqD) | exact HB.out))); (case aF => exact (fun _ _ => trivial)); (case aO => exact (by (with_reducible repeat (first | apply Kd.R_alloc | apply Kd.R_drewN | apply Kd.R_drew)); exact HO373.out)); (case aS => exact (lqZ (by repeat (first | (with_reducible first | exact HB.out | apply lqA | apply lqN | apply lqD) | exact HB.out)))); (case aL => have := LMc8.out; omega); intro v375 w13 ho hb hg hat; rw [← Ny374.out] at ho; have n0_ := Aside0.mk (hb); have n1_ := Aside0.mk (ho); clear HB; clear HO373; have HB := n0_; have HO376 := n1_; clear n0_ n1_; clear ho hb hg hat) | ((with_reducible refine gate_builtin (b := .append) (xs := #[.tmp 26, .tmp 27]) rfl ?_); at_builtin; refine Kd.R_append_rows (Kd.int .i64) (w0 := w) w.heap.size rfl (.tmp 26) (.tmp 27) 27 3 (.int .i64 0) 8 rfl Try.underlying27 info3 rfl (by decide) (by omega) v375 y374 l1 _ _ _ (fun _ => True) (fun _ => False) rfl rfl ?aO ?aR (fun _ _ h => h) (fun _ h => h.elim) ?aF ?aB ?aS ?aL ?_; (case aR => repeat (first | exact (Kd.C_below HR1.out HB.out) | (with_reducible refine Kd.C_alloc ?_ _) | (with_reducible refine Kd.C_drewN ?_ _) | (with_reducible refine Kd.C_drew ?_))); (case aB => exact (by repeat (first | (with_reducible first | exact HB.out | apply lqA | apply lqN | apply lqD) | exact HB.out))); (case aF => exact (fun _ _ => trivial)); (case aO => exact (by (with_reducible repeat (first | apply Kd.R_alloc | apply Kd.R_drewN | apply Kd.R_drew)); exact HO376.out)); (case aS => exact (lqZ (by repeat (first | (with_reducible first | exact HB.out | apply lqA | apply lqN | apply lqD) | exact HB.out)))); (case aL => have := LMc9.out; omega); intro v378 w14 ho hb hg hat; rw [← Ny377.out] at ho; have n0_ := Aside0.mk (hb); have n1_ := Aside0.mk (ho); clear HB; clear HO376; have HB := n0_; have HO379 := n1_; clear n0_ n1_; clear ho hb hg hat; obtain ⟨Ao15, co15, eo15⟩ := Kd.R_slice HO379.out; subst eo15) | ((with_reducible refine gqC (f := 43) rfl ?_); refine goesL_ (some 29) rfl rfl Try.func43 (by kernel_rfl) rfl #[.slice Ao15 y377.length co15] rfl (by (try simp only [List.map_toArray, List.map_cons, List.map_nil]); first | done | rfl | (simp only [List.length_drop, List.length_take]; rfl)) ?_; (with_reducible refine (spileref33_ranks.calls k _ _ y377 t380 _ ?side1 ?side2 A10.out).mono ?_); (case side1 => repeat (first | exact (Kd.R_reads' HO379.out).2.2 | (with_reducible refine Kd.C_alloc ?_ _) | (with_reducible refine Kd.C_drewN ?_ _) | (with_reducible refine Kd.C_drew ?_))); (case side2 => exact (Kd.R_reads' HO379.out).2.1); rintro e w16 ⟨v381, rfl, ho0, hb⟩; refine ⟨_, rfl, ?_⟩; have n0_ := Aside0.mk (Kd.R_elder' (by (with_reducible repeat (first | apply Kd.R_alloc | apply Kd.R_drewN | apply Kd.R_drew)); exact HO379.out) (Kd.R_base ho0) hb); have n1_ := Aside0.mk (Kd.R_lower (Kd.R_new' ho0 (Kd.R_lt (by (with_reducible repeat (first | apply Kd.R_alloc | apply Kd.R_drewN | apply Kd.R_drew)); exact HO379.out))) (lqZ (by repeat (first | (with_reducible first | exact HB.out | apply lqA | apply lqN | apply lqD) | exact HB.out)))); have n2_ := Aside0.mk (lqT (by repeat (first | (with_reducible first | exact HB.out | apply lqA | apply lqN | apply lqD) | exact HB.out)) hb); clear HO379; clear HB; have HO379 := n0_; have HO382 := n1_; have HB := n2_; clear n0_ n1_ n2_; (try clear hb); (try clear hb2); (try clear hk); (try clear hi); (try clear ho0)))
      go_ret2
      exact ⟨_, by first | rfl | (simp [errW_none, errW_some] <;> rfl) | (simp [*, errW_none, errW_some] <;> rfl), by (with_reducible repeat (first | apply Kd.R_alloc | apply Kd.R_drewN | apply Kd.R_drew)); exact Kd.R_mono HO382.out (fun _ hk => trivial), by repeat (first | (with_reducible first | exact HB.out | apply lqA | apply lqN | apply lqD) | exact HB.out)⟩
     ·rw [if_neg c9] at H
      exact absurd H (by simp)
    ·rw [if_neg c8] at H
     exact absurd H (by simp)
  ·rw [if_neg c6] at H
   have c6b0 : (t370 == 0) = false := beq_eq_false_iff_ne.mpr c6
   try simp only [beq_self_eq_true, Bool.not_true, Bool.false_or, Bool.true_and] at c6b0
   have c6b1 : (t370 != 0) = true := bne_iff_ne.mpr c6
   simp only [Option.some.injEq, Prod.mk.injEq] at H
   obtain ⟨rfl, rfl⟩ := H
   go_enter Try.func46, Try.ntmps46
   go_wp2_with (first | ((with_reducible refine gqC (f := 40) rfl ?_); refine goesL_ (some 9) rfl rfl Try.func40 (by kernel_rfl) rfl #[.slice A0 l0.length c0] rfl (by (try simp only [List.map_toArray, List.map_cons, List.map_nil]); first | done | rfl | (simp only [List.length_drop, List.length_take]; rfl)) ?_; (with_reducible refine (spileref33_Check.calls k _ _ l0 t369 _ ?side1 ?side2 A3.out).mono ?_); (case side1 => repeat (first | exact HR0.out | (with_reducible refine Kd.C_alloc ?_ _) | (with_reducible refine Kd.C_drewN ?_ _) | (with_reducible refine Kd.C_drew ?_))); (case side2 => exact HC0.out); rintro e w' ⟨rfl, ⟨nd, rfl⟩⟩; refine ⟨_, rfl, ?_⟩) | ((with_reducible refine gqC (f := 40) rfl ?_); refine goesL_ (some 14) rfl rfl Try.func40 (by kernel_rfl) rfl #[.slice A1 l1.length c1] rfl (by (try simp only [List.map_toArray, List.map_cons, List.map_nil]); first | done | rfl | (simp only [List.length_drop, List.length_take]; rfl)) ?_; (with_reducible refine (spileref33_Check.calls k _ _ l1 t370 _ ?side1 ?side2 A5.out).mono ?_); (case side1 => repeat (first | exact HR1.out | (with_reducible refine Kd.C_alloc ?_ _) | (with_reducible refine Kd.C_drewN ?_ _) | (with_reducible refine Kd.C_drew ?_))); (case side2 => exact HC1.out); rintro e w' ⟨rfl, ⟨nd, rfl⟩⟩; refine ⟨_, rfl, ?_⟩))
   go_ret2
   exact ⟨_, by first | rfl | (simp [errW_none, errW_some] <;> rfl) | (simp [*, errW_none, errW_some] <;> rfl), by first | exact Kd.R_nil _ _ _ _ _ | exact Kd.N_nil _ _ _ _ _ | exact Kd.V_nil _ _ _ _ _ | exact Kd.Q_nil _ _ _ _ _ | exact Kd.S_nil _ _ _ _ _, by repeat (first | (with_reducible first | exact HB.out | apply lqA | apply lqN | apply lqD) | exact HB.out)⟩
 ·rw [if_neg c4] at H
  have c4b0 : (t369 == 0) = false := beq_eq_false_iff_ne.mpr c4
  try simp only [beq_self_eq_true, Bool.not_true, Bool.false_or, Bool.true_and] at c4b0
  have c4b1 : (t369 != 0) = true := bne_iff_ne.mpr c4
  simp only [Option.some.injEq, Prod.mk.injEq] at H
  obtain ⟨rfl, rfl⟩ := H
  go_enter Try.func46, Try.ntmps46
  go_wp2_with (first | ((with_reducible refine gqC (f := 40) rfl ?_); refine goesL_ (some 9) rfl rfl Try.func40 (by kernel_rfl) rfl #[.slice A0 l0.length c0] rfl (by (try simp only [List.map_toArray, List.map_cons, List.map_nil]); first | done | rfl | (simp only [List.length_drop, List.length_take]; rfl)) ?_; (with_reducible refine (spileref33_Check.calls k _ _ l0 t369 _ ?side1 ?side2 A3.out).mono ?_); (case side1 => repeat (first | exact HR0.out | (with_reducible refine Kd.C_alloc ?_ _) | (with_reducible refine Kd.C_drewN ?_ _) | (with_reducible refine Kd.C_drew ?_))); (case side2 => exact HC0.out); rintro e w' ⟨rfl, ⟨nd, rfl⟩⟩; refine ⟨_, rfl, ?_⟩))
  go_ret2
  exact ⟨_, by first | rfl | (simp [errW_none, errW_some] <;> rfl) | (simp [*, errW_none, errW_some] <;> rfl), by first | exact Kd.R_nil _ _ _ _ _ | exact Kd.N_nil _ _ _ _ _ | exact Kd.V_nil _ _ _ _ _ | exact Kd.Q_nil _ _ _ _ _ | exact Kd.S_nil _ _ _ _ _, by repeat (first | (with_reducible first | exact HB.out | apply lqA | apply lqN | apply lqD) | exact HB.out)⟩

/-! ### spileref33_total: function 47 -/
def spileref33_total.l0 : Nat → List Int → Int → Int → Option (Int)
 | 0, _, _, _ => none
 | k + 1, x0, x3, x4 => if x4 < (x0.length : Int) then (if 0 ≤ x4 then (spileref33_total.l0 k x0 (wrap64 (x3 + (rd x0 x4))) (wrap64 (x4 + 1))) else (none)) else (some x3)
def spileref33_total.f (k : Nat) (l0 : List Int) : Option (Int) := spileref33_total.l0 k l0 0 0
theorem spileref33_total.mono_l : ∀ k, (∀ y0 y1 y2, LeO (spileref33_total.l0 k y0 y1 y2) (spileref33_total.l0 (k + 1) y0 y1 y2))
 | 0 => fun _ _ _ r h => by simp [spileref33_total.l0] at h
 | k + 1 => by
  have ih0 := spileref33_total.mono_l k
  ·intro y0 y1 y2
   unfold spileref33_total.l0
   repeat' first
   | (with_reducible exact ih0 _ _ _)
   | (with_reducible exact LeO.refl _)
   | (with_reducible exact LeO.none _)
   | (with_reducible refine LeO.ite ?_ ?_)
   | (with_reducible refine LeO.bind ?_ (fun _ => ?_))
   | exact ih0 _ _ _
   | exact LeO.none _
   | refine LeO.ite ?_ ?_
   | refine LeO.bind ?_ (fun _ => ?_)
theorem spileref33_total.mono : ∀ a0 k, LeO (spileref33_total.f k a0) (spileref33_total.f (k + 1) a0) := by
 intro a0 k
 have ih0 := spileref33_total.mono_l k
 unfold spileref33_total.f
 repeat' first
   | (with_reducible exact ih0 _ _ _)
   | (with_reducible exact LeO.refl _)
   | (with_reducible exact LeO.none _)
   | (with_reducible refine LeO.ite ?_ ?_)
   | (with_reducible refine LeO.bind ?_ (fun _ => ?_))
   | exact ih0 _ _ _
   | exact LeO.none _
   | refine LeO.ite ?_ ?_
   | refine LeO.bind ?_ (fun _ => ?_)
set_option maxHeartbeats 8000000 in
set_option maxRecDepth 100000 in
theorem spileref33_total.calls (k : Nat) (A0 : Option Addr) (c0 : Nat) (l0 : List Int) (r : Int) (w : World) (hr0 : Kd.C (Kd.int .i64) w A0 l0.length l0) (hc0 : l0.length ≤ c0) (h : spileref33_total.f k l0 = some r) :
  Calls Try.prog 47 #[.slice A0 l0.length c0] w fun e w' => e = .returned (.int .i64 r) ∧ Drawn0 w w' := by
 have HR0 := Aside0.mk hr0
 have HC0 := Aside0.mk hc0
 clear hr0 hc0
 have H : (spileref33_total.l0 k l0 0 0) = some r := h
 clear h
 have H' := Aside0.mk H
 clear H
 go_enter Try.func47, Try.ntmps47
 go_wp2
 go_loopg [3, 4] k (fun kq v3 v4 w' => ∃ (x3_1 : Int) (x4_1 : Int), v3 = .int .i64 x3_1 ∧ v4 = .int .i64 x4_1 ∧ Aside0 (spileref33_total.l0 kq l0 x3_1 x4_1 = some r) ∧ Aside0 (kq ≤ k) ∧ Drawn0 w w')
 case atStart => exact ⟨(0), (0), (by first | rfl | (simp; done) | (simp [*]; done)), (by first | rfl | (simp; done) | (simp [*]; done)), H', ⟨Nat.le_refl _⟩, by repeat (first | exact Drawn0.refl _ | apply Drawn0.step)⟩
 case round =>
  clear H'
  obtain ⟨x3_1, x4_1, rfl, rfl, HA, HK1, ⟨m1, rfl⟩⟩ := hrel
  cases gk with
  | zero => exact absurd HA.out (by simp [spileref33_total.l0])
  | succ k1 =>
   have H := HA.out
   clear HA
   simp only [spileref33_total.l0] at H
   by_cases c2 : x4_1 < (l0.length : Int)
   ·rw [if_pos c2] at H
    have c2b0 : decide (x4_1 < (l0.length : Int)) = true := decide_eq_true c2
    clear c2
    by_cases c3 : 0 ≤ x4_1
    ·rw [if_pos c3] at H
     have c3b0 : decide (0 ≤ x4_1) = true := decide_eq_true c3
     clear c3
     have H' := Aside0.mk H
     clear H
     have p383 : 0 ≤ (x4_1 : Int) := of_decide_eq_true (by first | (with_reducible assumption) | assumption)
     have q383 : x4_1 < (l0.length : Int) := of_decide_eq_true (by first | (with_reducible assumption) | assumption)
     obtain ⟨ad383, e383, hx383_0⟩ := Kd.at_int HR0.out x4_1 p383 q383
     cases e383
     replace p383 := eq_true p383
     replace q383 := eq_true q383
     go_wp2
     go_roundg k1
     case measure => have := HK1.out; omega
     case rel => exact ⟨(wrap64 (x3_1 + (rd l0 x4_1))), (wrap64 (x4_1 + 1)), (by first | rfl | (simp; done) | (simp [*]; done)), (by first | rfl | (simp; done) | (simp [*]; done)), H', ⟨by have := HK1.out; omega⟩, by repeat (first | exact Drawn0.refl _ | apply Drawn0.step)⟩
    ·rw [if_neg c3] at H
     exact absurd H (by simp)
   ·rw [if_neg c2] at H
    have c2b0 : decide (x4_1 < (l0.length : Int)) = false := decide_eq_false c2
    clear c2
    obtain rfl := Option.some.inj H
    go_wp2
    go_ret
    exact ⟨by first | rfl | (simp; done) | (simp [*]; done), by repeat (first | exact Drawn0.refl _ | apply Drawn0.step)⟩

/-! ### spileref33_Statistic: function 24 -/
def spileref33_Statistic.f (k : Nat) (l0 : List Int) (l1 : List Int) : Option (Int × Int) := (spileref33_start.f k l0 l1).bind fun bt384 => (if bt384.2 = 0 then (if 0 ≤ (l0.length : Int) then (if (l0.length : Int) ≤ (bt384.1.length : Int) then ((spileref33_total.f k (bt384.1.take ((l0.length : Int) : Int).toNat)).bind fun t392 => (some (t392, 0))) else (none)) else (none)) else (some (0, bt384.2)))
theorem spileref33_Statistic.mono : ∀ a0 a1 k, LeO (spileref33_Statistic.f k a0 a1) (spileref33_Statistic.f (k + 1) a0 a1) := by
 intro a0 a1 k
 unfold spileref33_Statistic.f
 repeat' first
   | (with_reducible exact spileref33_start.mono _ _ _)
   | (with_reducible exact spileref33_total.mono _ _)
   | (with_reducible exact LeO.refl _)
   | (with_reducible exact LeO.none _)
   | (with_reducible refine LeO.ite ?_ ?_)
   | (with_reducible refine LeO.bind ?_ (fun _ => ?_))
   | exact spileref33_start.mono _ _ _
   | exact spileref33_total.mono _ _
   | exact LeO.none _
   | refine LeO.ite ?_ ?_
   | refine LeO.bind ?_ (fun _ => ?_)
set_option maxHeartbeats 8000000 in
set_option maxRecDepth 100000 in
theorem spileref33_Statistic.calls (k : Nat) (A0 : Option Addr) (c0 : Nat) (l0 : List Int) (A1 : Option Addr) (c1 : Nat) (l1 : List Int) (r1 : Int) (r2 : Int) (w : World) (hr0 : Kd.C (Kd.int .i64) w A0 l0.length l0) (hc0 : l0.length ≤ c0) (hr1 : Kd.C (Kd.int .i64) w A1 l1.length l1) (hc1 : l1.length ≤ c1) (h : spileref33_Statistic.f k l0 l1 = some (r1, r2)) :
  Calls Try.prog 24 #[.slice A0 l0.length c0, .slice A1 l1.length c1] w fun e w' => e = .returned (.tuple #[.int .i64 r1, .int .i64 r2]) ∧ Below w.heap.size w w' := by
 have HR0 := Aside0.mk hr0
 have HC0 := Aside0.mk hc0
 clear hr0 hc0
 have HR1 := Aside0.mk hr1
 have HC1 := Aside0.mk hc1
 clear hr1 hc1
 have HB := Aside0.mk (Below.refl w.heap.size w)
 have H : ((spileref33_start.f k l0 l1).bind fun bt384 => (if bt384.2 = 0 then (if 0 ≤ (l0.length : Int) then (if (l0.length : Int) ≤ (bt384.1.length : Int) then ((spileref33_total.f k (bt384.1.take ((l0.length : Int) : Int).toNat)).bind fun t392 => (some (t392, 0))) else (none)) else (none)) else (some (0, bt384.2)))) = some (r1, r2) := h
 clear h
 replace H := Option.bind_eq_some_iff.mp H
 obtain ⟨⟨t384, t385⟩, A30, H⟩ := H
 replace H : (if t385 = 0 then (if 0 ≤ (l0.length : Int) then (if (l0.length : Int) ≤ (t384.length : Int) then ((spileref33_total.f k (t384.take ((l0.length : Int) : Int).toNat)).bind fun t392 => (some (t392, 0))) else (none)) else (none)) else (some (0, t385))) = some (r1, r2) := H
 have A3 := Aside0.mk A30
 clear A30
 by_cases c4 : t385 = 0
 ·rw [if_pos c4] at H
  have c4b0 : (t385 == 0) = true := beq_iff_eq.mpr c4
  try simp only [beq_self_eq_true, Bool.not_true, Bool.false_or, Bool.true_and] at c4b0
  have c4b1 : (t385 != 0) = false := bne_eq_false_iff_eq.mpr c4
  clear c4
  by_cases c5 : 0 ≤ (l0.length : Int)
  ·rw [if_pos c5] at H
   have c5b0 := eq_true c5
   have c5b1 : decide (0 ≤ (l0.length : Int)) = true := decide_eq_true c5
   clear c5
   by_cases c6 : (l0.length : Int) ≤ (t384.length : Int)
   ·rw [if_pos c6] at H
    have c6b0 := eq_true c6
    have c6b1 : decide ((l0.length : Int) ≤ (t384.length : Int)) = true := decide_eq_true c6
    clear c6
    obtain ⟨y388, hy388⟩ : ∃ y_ : List Int, y_ = (t384.take ((l0.length : Int) : Int).toNat) := ⟨_, rfl⟩
    replace H : ((spileref33_total.f k y388).bind fun t392 => (some (t392, 0))) = some (r1, r2) := by first | (rw [hy388]; with_reducible exact H) | (have H2_ := (Option.bind_some _ _).symm.trans H; rw [hy388]; with_reducible exact H2_) | (have H2_ := (Option.bind_some _ _).symm.trans H; with_reducible exact H2_) | with_reducible exact H | (rw [hy388]; exact H) | exact H
    have Ny388 := Aside0.mk hy388
    clear hy388
    replace H := Option.bind_eq_some_iff.mp H
    obtain ⟨t392, A70, H⟩ := H
    replace H : (some (t392, 0)) = some (r1, r2) := H
    have A7 := Aside0.mk A70
    clear A70
    simp only [Option.some.injEq, Prod.mk.injEq] at H
    obtain ⟨rfl, rfl⟩ := H
    go_enter Try.func24, Try.ntmps24
    go_wp2_with (first | ((with_reducible refine gqC (f := 46) rfl ?_); refine goesL_ (some 11) rfl rfl Try.func46 (by kernel_rfl) rfl #[.slice A0 l0.length c0, .slice A1 l1.length c1] rfl (by (try simp only [List.map_toArray, List.map_cons, List.map_nil]); first | done | rfl | (simp only [List.length_drop, List.length_take]; rfl)) ?_; (with_reducible refine (spileref33_start.calls k _ _ l0 _ _ l1 t384 t385 _ ?side1 ?side2 ?side3 ?side4 A3.out).mono ?_); (case side1 => repeat (first | exact HR0.out | (with_reducible refine Kd.C_alloc ?_ _) | (with_reducible refine Kd.C_drewN ?_ _) | (with_reducible refine Kd.C_drew ?_))); (case side2 => exact HC0.out); (case side3 => repeat (first | exact HR1.out | (with_reducible refine Kd.C_alloc ?_ _) | (with_reducible refine Kd.C_drewN ?_ _) | (with_reducible refine Kd.C_drew ?_))); (case side4 => exact HC1.out); rintro e w8 ⟨v386, rfl, ho0, hb⟩; refine ⟨_, rfl, ?_⟩; have n0_ := Aside0.mk (Kd.R_lower ho0 (lqZ (by repeat (first | (with_reducible first | exact HB.out | apply lqA | apply lqN | apply lqD) | exact HB.out)))); have n1_ := Aside0.mk (lqT (by repeat (first | (with_reducible first | exact HB.out | apply lqA | apply lqN | apply lqD) | exact HB.out)) hb); clear HB; have HO387 := n0_; have HB := n1_; clear n0_ n1_; (try clear hb); (try clear hb2); (try clear hk); (try clear hi); (try clear ho0); obtain ⟨Ao10, co10, eo10⟩ := Kd.R_slice HO387.out; subst eo10; have q9 : ((l0.length : Int) : Int) ≤ ((t384.length : Int) : Int) := of_decide_eq_true (by first | (with_reducible assumption) | assumption); obtain ⟨i09, hi09, _, hsz9, _⟩ := info_parts info3; have hroom9 : t384.length ≤ co10 := (Kd.R_reads' HO387.out).2.1; have hC9 : Kd.C (Kd.int .i64) _ Ao10 t384.length t384 := (Kd.R_reads' HO387.out).2.2; have hcut9 := cut_to (P := Try.prog) 27 3 .i64 Try.underlying27 hi09 Ao10 t384.length co10 (l0.length : Int) (of_decide_eq_true (by first | (with_reducible assumption) | assumption)) q9 hroom9; have hr9 := Kd.C_take (m := ((l0.length : Int) : Int).toNat) hC9 (by omega); have hy9 : y388.length = ((l0.length : Int) : Int).toNat := (by rw [Ny388.out, List.length_take]; omega); rw [← Ny388.out] at hr9; rw [← hy9] at hcut9; have HR391 := Aside0.mk hr9; have HC391 := Aside0.mk (show y388.length ≤ co10 from by omega); clear hr9 hC9 hroom9 hi09 hsz9; have KY9 := Aside0.mk hy9; clear hy9; have KL9 := Aside0.mk (show ((l0.length : Int) : Int).toNat ≤ t384.length from by omega); replace q9 := eq_true q9) | ((with_reducible refine gqC (f := 47) rfl ?_); refine goesL_ (some 21) rfl rfl Try.func47 (by kernel_rfl) rfl #[.slice Ao10 y388.length co10] rfl (by (try simp only [List.map_toArray, List.map_cons, List.map_nil]); first | done | rfl | (simp only [List.length_drop, List.length_take]; rfl)) ?_; (with_reducible refine (spileref33_total.calls k _ _ y388 t392 _ ?side1 ?side2 A7.out).mono ?_); (case side1 => repeat (first | exact (by repeat (first | (with_reducible exact HR391.out) | (with_reducible refine Kd.C_alloc ?_ _) | (with_reducible refine Kd.C_drewN ?_ _) | (with_reducible refine Kd.C_drew ?_) | exact HR391.out)) | (with_reducible refine Kd.C_alloc ?_ _) | (with_reducible refine Kd.C_drewN ?_ _) | (with_reducible refine Kd.C_drew ?_))); (case side2 => exact HC391.out); rintro e w' ⟨rfl, ⟨nd, rfl⟩⟩; refine ⟨_, rfl, ?_⟩))
    go_ret2
    exact ⟨by first | rfl | (simp [errW_none, errW_some] <;> rfl) | (simp [*, errW_none, errW_some] <;> rfl), by repeat (first | (with_reducible first | exact HB.out | apply lqA | apply lqN | apply lqD) | exact HB.out)⟩
   ·rw [if_neg c6] at H
    exact absurd H (by simp)
  ·rw [if_neg c5] at H
   exact absurd H (by simp)
 ·rw [if_neg c4] at H
  have c4b0 : (t385 == 0) = false := beq_eq_false_iff_ne.mpr c4
  try simp only [beq_self_eq_true, Bool.not_true, Bool.false_or, Bool.true_and] at c4b0
  have c4b1 : (t385 != 0) = true := bne_iff_ne.mpr c4
  simp only [Option.some.injEq, Prod.mk.injEq] at H
  obtain ⟨rfl, rfl⟩ := H
  go_enter Try.func24, Try.ntmps24
  go_wp2_with (first | ((with_reducible refine gqC (f := 46) rfl ?_); refine goesL_ (some 11) rfl rfl Try.func46 (by kernel_rfl) rfl #[.slice A0 l0.length c0, .slice A1 l1.length c1] rfl (by (try simp only [List.map_toArray, List.map_cons, List.map_nil]); first | done | rfl | (simp only [List.length_drop, List.length_take]; rfl)) ?_; (with_reducible refine (spileref33_start.calls k _ _ l0 _ _ l1 t384 t385 _ ?side1 ?side2 ?side3 ?side4 A3.out).mono ?_); (case side1 => repeat (first | exact HR0.out | (with_reducible refine Kd.C_alloc ?_ _) | (with_reducible refine Kd.C_drewN ?_ _) | (with_reducible refine Kd.C_drew ?_))); (case side2 => exact HC0.out); (case side3 => repeat (first | exact HR1.out | (with_reducible refine Kd.C_alloc ?_ _) | (with_reducible refine Kd.C_drewN ?_ _) | (with_reducible refine Kd.C_drew ?_))); (case side4 => exact HC1.out); rintro e w11 ⟨v386, rfl, ho0, hb⟩; refine ⟨_, rfl, ?_⟩; have n0_ := Aside0.mk (Kd.R_lower ho0 (lqZ (by repeat (first | (with_reducible first | exact HB.out | apply lqA | apply lqN | apply lqD) | exact HB.out)))); have n1_ := Aside0.mk (lqT (by repeat (first | (with_reducible first | exact HB.out | apply lqA | apply lqN | apply lqD) | exact HB.out)) hb); clear HB; have HO387 := n0_; have HB := n1_; clear n0_ n1_; (try clear hb); (try clear hb2); (try clear hk); (try clear hi); (try clear ho0)))
  go_ret2
  exact ⟨by first | rfl | (simp [errW_none, errW_some] <;> rfl) | (simp [*, errW_none, errW_some] <;> rfl), by repeat (first | (with_reducible first | exact HB.out | apply lqA | apply lqN | apply lqD) | exact HB.out)⟩

end Go.Proofs.Ytbkoghmbacdiiaa.K
