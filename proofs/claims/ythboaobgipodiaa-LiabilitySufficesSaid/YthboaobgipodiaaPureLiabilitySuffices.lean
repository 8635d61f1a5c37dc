/- By hand: the plain law of LiabilitySuffices: no outcomes cause more than the greatest liability. -/
import Derived.Test.YthboaobgipodiaaSayLiabilitySuffices
import Derived.Test.YthboaobgipodiaaPSum
import Derived.Test.YthboaobgipodiaaPAwake
namespace Go.Proofs.Ythboaobgipodiaa.K
open Go.RowKit Go.Proofs.YthboaobgipodiaaW.PrintWords
set_option linter.unusedVariables false
set_option linter.unusedSimpArgs false

theorem suffices_loop (a : Int) (l : List S60) (x : List S35) (o : List S51) (day : Int) (h : asksP a l x day = 0) (hl : l.length ≤ 1000) (ho : o.length = x.length) (hf : ∀ i, (h : i < x.length) → (h' : i < o.length) → fitsP x[i] o[i] day = true) : ∀ (d i : Nat), i + d = x.length →
    Ev (fun k => spilelaw51_LiabilitySuffices.l0 k x day (x.map (gP a l day)) o (o.length : Int) (i : Int) a l) true
  | 0, i, hd => Ev.succ (Ev.const _) (fun k => by rw [spilelaw51_LiabilitySuffices.l0, if_neg (by omega)])
  | d + 1, i, hd => by
    have hx := lchk_to (asks_zero h).2.1
    have hi : i < x.length := by omega
    have hi' : i < o.length := by omega
    have h1 : (i : Int) < (x.length : Int) := by omega
    have h2 : (i : Int) < (o.length : Int) := by omega
    have h0 : (0 : Int) ≤ (i : Int) := by omega
    have ih := suffices_loop a l x o day h hl ho hf d (i + 1) (by omega)
    have hm := List.getElem_mem hi
    have hrg : Go.Proofs.YthboaobgipodiaaW.PrintWords.rd (x.map (gP a l day)) (i : Int) = gP a l day x[i] := by rw [rdI_get _ i (by simpa using hi)]; simp
    have hff := hf i hi hi'
    have hc := causes_le (asks_zero h).1 (asks_zero h).2.2 (hx.2 _ hm) hff
    have e : ∀ k, spilelaw51_LiabilitySuffices.l0 (k + 1) x day (x.map (gP a l day)) o (o.length : Int) (i : Int) a l =
        (liability_Causes.f k a l x[i].f0 x[i].f1 x[i].f2 x[i].f3 x[i].f4 o[i].f0 o[i].f1 o[i].f2 o[i].f3 day).bind fun t => if t.2 = 0 then (if t.1 < 0 then none else spilelaw51_LiabilitySuffices.j3 k x day (x.map (gP a l day)) o (o.length : Int) (i : Int) (decide (t.1 > gP a l day x[i])) a l) else none := by
      intro k
      rw [spilelaw51_LiabilitySuffices.l0, if_pos h2, if_pos h0, if_pos h2, ct_f a l hl, Option.bind_some, if_pos h1, rd_get x i hi, rd51_get o i hi', hrg]
      simp only [if_pos (show (i : Int) < ((x.map (gP a l day)).length : Int) by simpa using h1)]
    refine Ev.succ (Ev.bind (C_ev a l x[i] o[i] day) ?_) e
    have : CP a l x[i] o[i] day = (causesP a l x[i] o[i], 0) := by
      unfold CP
      rw [if_pos (asks_one h _ hm), if_pos hff]
    rw [this]
    simp only [if_true, if_neg (show ¬ causesP a l x[i] o[i] < 0 by omega)]
    refine Ev.succ ih (fun k => ?_)
    rw [spilelaw51_LiabilitySuffices.j3, if_neg (by rw [decide_eq_true_eq]; omega), w1 hi (by omega)]
theorem suffices_pure : LiabilitySufficesPure := by
  intro x0 x1 x2 x3 _ _ _ _
  refine Ev.one (g := fun k => spilelaw51_LiabilitySuffices.f k x0.f0 x0.f1 x1 x2 x3) ?_
  unfold spilelaw51_LiabilitySuffices.f
  refine Ev.bind awake_ev ?_
  simp only [if_true, few_f, Option.bind_some]
  have hout : Ev (fun k => spilelaw51_LiabilitySuffices.j0 k x1 x2 x3 true x0.f0 x0.f1) true := Ev.succ (Ev.bind awake_ev (Ev.const _)) (fun k => by rw [spilelaw51_LiabilitySuffices.j0, if_pos (by rfl)])
  cases hf : fewB x0.f1 x1 with
  | false => exact hout
  | true =>
    simp only [if_true]
    by_cases h12 : (x2.length : Int) > 12
    · rw [decide_eq_true h12]
      exact hout
    · rw [decide_eq_false h12]
      obtain ⟨h1, h2⟩ := few_len hf
      have e : ∀ k, spilelaw51_LiabilitySuffices.j0 (k + 1) x1 x2 x3 false x0.f0 x0.f1 = (liability_Sum.f k x0.f0 x0.f1 x1 x2 x3).bind fun bt647 => if bt647.2 = 0 then ((liability_Greatest.f k x0.f0 x0.f1 x1 x3).bind fun bt656 => (if bt656.2.2 = 0 then (if bt647.1 > bt656.2.1 then (none) else (if (bt656.1.length : Int) = (x1.length : Int) then (spilelaw51_LiabilitySuffices.j1 k x1 x2 x3 bt656.1 ((x2.length : Int) != (x1.length : Int)) x0.f0 x0.f1) else (none))) else (none))) else (some (bt647.1 == 0)) := by
        intro k
        rw [spilelaw51_LiabilitySuffices.j0, if_neg (by decide)]
        simp only [ct_f x0.f0 x0.f1 (by omega), cl13_f x1 (by omega), cl22_f x2 (by omega), Option.bind_some]
      refine Ev.succ (Ev.bind (S_ev _ _ _ _ _) ?_) e
      by_cases hz : (SP x0.f0 x0.f1 x1 x2 x3).2 = 0
      · simp only [if_pos hz]
        refine Ev.bind (G_ev _ _ _ _) ?_
        have hz' := hz
        unfold SP at hz'
        by_cases hs : sentP x0.f0 x0.f1 x1 x3 = 0
        · rw [if_pos hs] at hz'
          by_cases ho : x2.length = x1.length
          · rw [if_pos ho] at hz'
            obtain ⟨ha, _⟩ := sent_zero hs
            obtain ⟨t1, t2, t3⟩ := asks_zero ha
            obtain ⟨c1, c2⟩ := lchk_to t2
            obtain ⟨s1, s2⟩ := sumP_le t1 t3 x1 x2 0 0 c2 ho (Int.le_refl _) (Int.le_refl _) (by omega) hz'
            have hS : (SP x0.f0 x0.f1 x1 x2 x3).1 = (sumP x0.f0 x0.f1 x3 0 x1 x2).1 := by unfold SP; rw [if_pos hs, if_pos ho]
            have hg : GP x0.f0 x0.f1 x1 x3 = (x1.map (gP x0.f0 x0.f1 x3), gsum x0.f0 x0.f1 x3 0 x1, 0) := by unfold GP; rw [if_pos ha]
            rw [hg]
            simp only [if_true, List.length_map, hS, if_neg (show ¬ (sumP x0.f0 x0.f1 x3 0 x1 x2).1 > gsum x0.f0 x0.f1 x3 0 x1 by omega)]
            refine Ev.succ (suffices_loop x0.f0 x0.f1 x1 x2 x3 ha (by omega) ho s1 x1.length 0 (by omega)) (fun k => ?_)
            rw [spilelaw51_LiabilitySuffices.j1, if_neg (by rw [ho]; simp)]
            rfl
          · rw [if_neg ho] at hz'
            cases hz'
        · rw [if_neg hs] at hz'
          exact absurd hz' hs
      · simp only [if_neg hz]
        rw [SP_err hz]
        exact Ev.const _
end Go.Proofs.Ythboaobgipodiaa.K
namespace Go.Proofs.Ythboaobgipodiaa.Pure
theorem LiabilitySuffices : K.LiabilitySufficesPure := K.suffices_pure
end Go.Proofs.Ythboaobgipodiaa.Pure
