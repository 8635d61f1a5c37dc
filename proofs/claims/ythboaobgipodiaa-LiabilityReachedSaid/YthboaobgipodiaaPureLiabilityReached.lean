/- By hand: the plain law of LiabilityReached: the worst outcomes fit, and cause just the greatest liability. -/
import Derived.Test.YthboaobgipodiaaSayLiabilityReached
import Derived.Test.YthboaobgipodiaaPFact
import Derived.Test.YthboaobgipodiaaPAwake
namespace Go.Proofs.Ythboaobgipodiaa.K
open Go.RowKit Go.Proofs.YthboaobgipodiaaW.PrintWords
set_option linter.unusedVariables false
set_option linter.unusedSimpArgs false

theorem reached_loop (a : Int) (l : List S60) (x : List S35) (day : Int) (h : sentP a l x day = 0) (hl : l.length ≤ 1000) : ∀ (d i : Nat), i + d = x.length →
    Ev (fun k => spilelaw51_LiabilityReached.l0 k x day (x.map fun y => worstP a l y day) (x.map (gP a l day)) (gsum a l day 0 x) (x.map fun y => worstP a l y day) ((x.map fun y => worstP a l y day).length : Int) (i : Int) a l) true
  | 0, i, hd => by
    have hx := (lchk_to (asks_zero (sent_zero h).1).2.1).1
    have e : ∀ k, spilelaw51_LiabilityReached.l0 (k + 1) x day (x.map fun y => worstP a l y day) (x.map (gP a l day)) (gsum a l day 0 x) (x.map fun y => worstP a l y day) ((x.map fun y => worstP a l y day).length : Int) (i : Int) a l = (liability_Sum.f k a l x (x.map fun y => worstP a l y day) day).bind fun t => if t.2 = 0 then some (t.1 == gsum a l day 0 x) else none := by
      intro k
      rw [spilelaw51_LiabilityReached.l0, if_neg (by simp; omega), ct_f a l hl, cl13_f x (by omega)]
      rfl
    refine Ev.succ (Ev.bind (S_ev a l x _ day) ?_) e
    have : SP a l x (x.map fun y => worstP a l y day) day = (gsum a l day 0 x, 0) := by
      unfold SP
      rw [if_pos h, if_pos (by simp), sum_worst a l day x 0 (sent_zero h).2]
    rw [this]
    simp only [if_true, beq_self_eq_true]
    exact Ev.const _
  | d + 1, i, hd => by
    obtain ⟨hs1, hs2⟩ := sent_zero h
    have hx := (lchk_to (asks_zero hs1).2.1).1
    have hi : i < x.length := by omega
    have h1 : (i : Int) < (x.length : Int) := by omega
    have h0 : (0 : Int) ≤ (i : Int) := by omega
    have ih := reached_loop a l x day h hl d (i + 1) (by omega)
    have hm := List.getElem_mem hi
    have hrw : rd_T51 (x.map fun y => worstP a l y day) (i : Int) = worstP a l x[i] day := by rw [rd51_get _ i (by simpa using hi)]; simp
    have hrg : Go.Proofs.YthboaobgipodiaaW.PrintWords.rd (x.map (gP a l day)) (i : Int) = gP a l day x[i] := by rw [rdI_get _ i (by simpa using hi)]; simp
    have e : ∀ k, spilelaw51_LiabilityReached.l0 (k + 1) x day (x.map fun y => worstP a l y day) (x.map (gP a l day)) (gsum a l day 0 x) (x.map fun y => worstP a l y day) ((x.map fun y => worstP a l y day).length : Int) (i : Int) a l =
        (liability_Causes.f k a l x[i].f0 x[i].f1 x[i].f2 x[i].f3 x[i].f4 (worstP a l x[i] day).f0 (worstP a l x[i] day).f1 (worstP a l x[i] day).f2 (worstP a l x[i] day).f3 day).bind fun t => if t.2 = 0 then (if t.1 = gP a l day x[i] then (liability_Fits.f k x[i].f0 x[i].f1 x[i].f2 x[i].f3 x[i].f4 (worstP a l x[i] day).f0 (worstP a l x[i] day).f1 (worstP a l x[i] day).f2 (worstP a l x[i] day).f3 day).bind fun t => spilelaw51_LiabilityReached.j3 k x day (x.map fun y => worstP a l y day) (x.map (gP a l day)) (gsum a l day 0 x) (x.map fun y => worstP a l y day) ((x.map fun y => worstP a l y day).length : Int) (i : Int) (!t) a l else none) else none := by
      intro k
      rw [spilelaw51_LiabilityReached.l0, if_pos (by simpa using h1), if_pos h0, if_pos (by simpa using h1), ct_f a l hl, Option.bind_some, if_pos h1, rd_get x i hi, hrw, hrg]
      simp only [if_pos (show (i : Int) < ((x.map (gP a l day)).length : Int) by simpa using h1)]
    refine Ev.succ (Ev.bind (C_ev a l x[i] (worstP a l x[i] day) day) ?_) e
    have hf := worst_fits a l x[i] day (hs2 _ hm)
    have : CP a l x[i] (worstP a l x[i] day) day = (gP a l day x[i], 0) := by
      unfold CP
      rw [if_pos (asks_one hs1 _ hm), if_pos hf, g_worst (hs2 _ hm)]
    rw [this]
    simp only [if_true]
    refine Ev.bind (fits_ev x[i] (worstP a l x[i] day) day) ?_
    rw [hf]
    exact Ev.succ ih (fun k => by rw [spilelaw51_LiabilityReached.j3, if_neg (by decide), w1 hi (by omega)])
theorem reached_pure : LiabilityReachedPure := by
  intro x0 x1 x2 _ _ _
  refine Ev.one (g := fun k => spilelaw51_LiabilityReached.f k x0.f0 x0.f1 x1 x2) ?_
  unfold spilelaw51_LiabilityReached.f
  refine Ev.bind awake_ev ?_
  simp only [if_true, few_f, Option.bind_some]
  cases hf : fewB x0.f1 x1 with
  | false => exact Ev.succ (Ev.bind awake_ev (Ev.const _)) (fun k => by rw [spilelaw51_LiabilityReached.j0, if_pos (by rfl)])
  | true =>
    obtain ⟨h1, h2⟩ := few_len hf
    have e : ∀ k, spilelaw51_LiabilityReached.j0 (k + 1) x1 x2 (!true) x0.f0 x0.f1 = (liability_Witness.f k x0.f0 x0.f1 x1 x2).bind fun bt682 => (liability_Greatest.f k x0.f0 x0.f1 x1 x2).bind fun bt693 => (if bt682.2 = 0 then (if bt693.2.2 = 0 then (if (bt682.1.length : Int) = (x1.length : Int) then (spilelaw51_LiabilityReached.j1 k x1 x2 bt682.1 bt693.1 bt693.2.1 ((bt693.1.length : Int) != (x1.length : Int)) x0.f0 x0.f1) else (none)) else (none)) else (if (bt682.1.length : Int) = 0 then (if bt682.2 = bt693.2.2 then (some true) else (some (bt682.2 == 11))) else (none))) := by
      intro k
      rw [spilelaw51_LiabilityReached.j0, if_neg (by decide)]
      simp only [ct_f x0.f0 x0.f1 (by omega), cl13_f x1 (by omega), Option.bind_some]
    refine Ev.succ (Ev.bind (W_ev _ _ _ _) (Ev.bind (G_ev _ _ _ _) ?_)) e
    by_cases hs : sentP x0.f0 x0.f1 x1 x2 = 0
    · have hw : WP x0.f0 x0.f1 x1 x2 = (x1.map (fun y => worstP x0.f0 x0.f1 y x2), 0) := by unfold WP; rw [if_pos hs]
      have hg : GP x0.f0 x0.f1 x1 x2 = (x1.map (gP x0.f0 x0.f1 x2), gsum x0.f0 x0.f1 x2 0 x1, 0) := by unfold GP; rw [if_pos (sent_zero hs).1]
      rw [hw, hg]
      simp only [if_true, List.length_map]
      refine Ev.succ (reached_loop x0.f0 x0.f1 x1 x2 hs (by omega) x1.length 0 (by omega)) (fun k => ?_)
      rw [spilelaw51_LiabilityReached.j1, if_neg (by simp), List.length_map]
      rfl
    · have hw : WP x0.f0 x0.f1 x1 x2 = ([], sentP x0.f0 x0.f1 x1 x2) := by unfold WP; rw [if_neg hs]
      rw [hw]
      simp only [if_neg hs, List.length_nil]
      by_cases ha : asksP x0.f0 x0.f1 x1 x2 = 0
      · have : sentP x0.f0 x0.f1 x1 x2 = 11 := by
          unfold sentP at hs ⊢
          rw [if_pos ha] at hs ⊢
          split
          · rfl
          · rename_i hc
            rw [if_neg hc] at hs
            exact absurd rfl hs
        rw [this]
        refine (Ev.const true).congr (fun k => ?_)
        split
        · split <;> rfl
        · rename_i hc
          exact absurd rfl hc
      · have hg : (GP x0.f0 x0.f1 x1 x2).2.2 = sentP x0.f0 x0.f1 x1 x2 := by
          unfold GP sentP
          rw [if_neg ha, if_neg ha]
        rw [hg]
        refine (Ev.const true).congr (fun k => ?_)
        rw [if_pos (by rfl), if_pos rfl]
end Go.Proofs.Ythboaobgipodiaa.K
namespace Go.Proofs.Ythboaobgipodiaa.Pure
theorem LiabilityReached : K.LiabilityReachedPure := K.reached_pure
end Go.Proofs.Ythboaobgipodiaa.Pure
