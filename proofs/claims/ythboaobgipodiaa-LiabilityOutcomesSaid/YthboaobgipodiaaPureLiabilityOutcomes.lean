/- By hand: the plain law of LiabilityOutcomes: Witness and Sum tell what the reference tells. -/
import Derived.Test.YthboaobgipodiaaSayLiabilityOutcomes
import Derived.Test.YthboaobgipodiaaPRef
import Derived.Test.YthboaobgipodiaaPMono
import Derived.Test.YthboaobgipodiaaPAwake
namespace Go.Proofs.Ythboaobgipodiaa.K
open Go.RowKit Go.Proofs.YthboaobgipodiaaW.PrintWords
set_option linter.unusedVariables false
set_option linter.unusedSimpArgs false

theorem same51l (L : List S51) (hL : L.length ≤ 1000) : ∀ (d i : Nat), i + d = L.length → Ev (fun k => api_Outcome_24.l0 k L L (L.length : Int) (i : Int)) true
  | 0, i, h => Ev.succ (Ev.const _) (fun k => by rw [api_Outcome_24.l0, if_neg (by omega)])
  | d + 1, i, h => by
    have hi : i < L.length := by omega
    have h1 : (i : Int) < (L.length : Int) := by omega
    have h0 : (0 : Int) ≤ (i : Int) := by omega
    exact Ev.succ (same51l L hL d (i + 1) (by omega)) (fun k => by rw [api_Outcome_24.l0, if_pos h1, if_pos h0, if_pos h1, if_pos h1, w1 hi hL]; simp)
theorem same51 (L : List S51) (hL : L.length ≤ 1000) : Ev (fun k => api_Outcome_24.f k L L) true := by
  unfold api_Outcome_24.f
  simp only [if_true]
  exact same51l L hL L.length 0 (by omega)
theorem outcomes_pure : LiabilityOutcomesPure := by
  intro x0 x1 x2 x3 _ _ _ _
  refine Ev.one (g := fun k => spilelaw51_LiabilityOutcomes.f k x0.f0 x0.f1 x1 x2 x3) ?_
  unfold spilelaw51_LiabilityOutcomes.f
  refine Ev.bind awake_ev ?_
  simp only [if_true, few_f, Option.bind_some]
  have hout : Ev (fun k => spilelaw51_LiabilityOutcomes.j0 k x1 x2 x3 true x0.f0 x0.f1) true := Ev.succ (Ev.bind awake_ev (Ev.const _)) (fun k => by rw [spilelaw51_LiabilityOutcomes.j0, if_pos (by rfl)])
  cases hf : fewB x0.f1 x1 with
  | false => exact hout
  | true =>
    simp only [if_true]
    by_cases h12 : (x2.length : Int) > 12
    · rw [decide_eq_true h12]
      exact hout
    · rw [decide_eq_false h12]
      obtain ⟨h1, h2⟩ := few_len hf
      have hw : (WP x0.f0 x0.f1 x1 x3).1.length ≤ 1000 := by
        unfold WP
        split
        · rw [List.length_map]
          omega
        · exact Nat.zero_le _
      have e : ∀ k, spilelaw51_LiabilityOutcomes.j0 (k + 1) x1 x2 x3 false x0.f0 x0.f1 = (liability_Witness.f k x0.f0 x0.f1 x1 x3).bind fun bt610 => ((spileref51_Witness.f k x0.f0 x0.f1 x1 x3).bind fun bt614 => ((liability_Sum.f k x0.f0 x0.f1 x1 x2 x3).bind fun bt628 => ((spileref51_Sum.f k x0.f0 x0.f1 x1 x2 x3).bind fun bt630 => ((api_Outcome_24.f k bt610.1 bt614.1).bind fun t632 => (if t632 = true then (if bt610.2 = bt614.2 then (if bt628.1 = bt630.1 then (some (bt628.2 == bt630.2)) else (none)) else (none)) else (none)))))) := by
        intro k
        rw [spilelaw51_LiabilityOutcomes.j0, if_neg (by decide)]
        simp only [ct_f x0.f0 x0.f1 (by omega), cl13_f x1 (by omega), cl22_f x2 (by omega), Option.bind_some]
      refine Ev.succ (Ev.bind (W_ev _ _ _ _) (Ev.bind (rW_ev _ _ _ _ (by omega)) (Ev.bind (S_ev _ _ _ _ _) (Ev.bind (rS_ev _ _ _ _ _ (by omega)) (Ev.bind (same51 _ hw) ?_))))) e
      simp only [if_true, beq_self_eq_true]
      exact Ev.const _
end Go.Proofs.Ythboaobgipodiaa.K
namespace Go.Proofs.Ythboaobgipodiaa.Pure
theorem LiabilityOutcomes : K.LiabilityOutcomesPure := K.outcomes_pure
end Go.Proofs.Ythboaobgipodiaa.Pure
