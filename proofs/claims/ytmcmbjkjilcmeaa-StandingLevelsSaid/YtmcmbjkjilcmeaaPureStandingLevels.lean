/- By hand: the law StandingLevels in plain words. -/
import Derived.Test.YtmcmbjkjilcmeaaPStd
import Derived.Test.YtmcmbjkjilcmeaaSayStandingLevels
import Derived.Test.YtmcmbjkjilcmeaaK21
namespace Go.Proofs.Ytmcmbjkjilcmeaa.K
open Go.RowKit Go.Proofs.YtmcmbjkjilcmeaaW.PrintWords
set_option linter.unusedVariables false
set_option linter.unusedSimpArgs false
theorem levels_pure (a : ByteArray) (p : Int) (l : List S33) (d dip n : Int) (lv : List Int) : ∃ k, spilelaw12_StandingLevels.f k a p l d dip n lv = some true := by
  refine Ev.one ?_
  unfold spilelaw12_StandingLevels.f
  refine Ev.bind awake_ev ?_
  simp only [if_true]
  refine Ev.bind (few_ev a p l d lv) ?_
  cases hf : fewP a l lv with
  | false => exact (Ev.const true).congr (fun k => by rw [if_neg (by simp)])
  | true =>
    obtain ⟨f1, f2, f3⟩ := few_spec hf
    simp only [if_true, cloneP_ev l (by omega), cloneI_ev lv (by omega), Option.bind_some]
    refine Ev.bind (slev_ev l dip n) ?_
    refine Ev.bind (rlev_ev l dip n) ?_
    have hlen : (levE l dip n).1.length ≤ 100000 := by
      unfold levE
      split
      · split
        · simp
        · rename_i h1 h2
          have h0 := prof_len l h1
          have h3 : (ptsL l dip).length ≤ l.length := by rw [ptsL, List.length_map]; exact List.length_filter_le _ _
          have h4 : (gridL dip n).length = n.toNat + 1 := by simp [gridL]
          have h5 : (levL l dip n).length ≤ (gridL dip n ++ ptsL l dip).length := Nat.le_trans (compact_le _) (by rw [show (srt (gridL dip n ++ ptsL l dip)).length = _ from List.length_mergeSort _]; exact Nat.le_refl _)
          rw [List.length_append] at h5
          dsimp only
          omega
      · simp
    refine Ev.bind (by have := eqI_ev (levE l dip n).1 (levE l dip n).1 hlen; rw [decide_eq_true rfl] at this; exact this) ?_
    simp only [if_true]
    refine Ev.bind (own_ev a p l d (by omega)) ?_
    refine Ev.bind (schk_ev a p l d lv) ?_
    refine Ev.bind (rchk_ev a p l d lv (by omega)) ?_
    exact (Ev.const true).congr (fun k => by simp)
end Go.Proofs.Ytmcmbjkjilcmeaa.K
namespace Go.Proofs.Ytmcmbjkjilcmeaa.Pure
theorem StandingLevels : K.StandingLevelsPure := fun x0 x1 x2 x3 _ _ _ _ => K.levels_pure x0.f0 x0.f1 x0.f2 x0.f3 x1 x2 x3
end Go.Proofs.Ytmcmbjkjilcmeaa.Pure
