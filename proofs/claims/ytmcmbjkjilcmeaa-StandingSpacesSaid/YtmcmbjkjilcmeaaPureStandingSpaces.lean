/- By hand: the law StandingSpaces in plain words. -/
import Derived.Test.YtmcmbjkjilcmeaaPStd
import Derived.Test.YtmcmbjkjilcmeaaSayStandingSpaces
import Derived.Test.YtmcmbjkjilcmeaaK24
namespace Go.Proofs.Ytmcmbjkjilcmeaa.K
open Go.RowKit Go.Proofs.YtmcmbjkjilcmeaaW.PrintWords
set_option linter.unusedVariables false
set_option linter.unusedSimpArgs false
theorem sums_len (a : ByteArray) (p : Int) (l : List S33) (d : Int) (lv : List Int) (h : lv.length ≤ 1000) : (sumsE a p l d lv).1.length ≤ 100000 := by
  unfold sumsE
  split
  · rw [outS_len]; omega
  · simp
theorem spaces_pure (a : ByteArray) (p : Int) (l : List S33) (d : Int) (lv : List Int) : ∃ k, spilelaw12_StandingSpaces.f k a p l d lv = some true := by
  refine Ev.one ?_
  unfold spilelaw12_StandingSpaces.f
  refine Ev.bind awake_ev ?_
  simp only [if_true]
  refine Ev.bind (few_ev a p l d lv) ?_
  cases hf : fewP a l lv with
  | false => exact (Ev.const true).congr (fun k => by rw [if_neg (by simp)])
  | true =>
    obtain ⟨f1, f2, f3⟩ := few_spec hf
    simp only [if_true, cloneI_ev lv (by omega), Option.bind_some]
    refine Ev.bind (own_ev a p l d (by omega)) ?_
    refine Ev.bind (sbet_ev a p l d lv) ?_
    refine Ev.bind (rbet_ev a p l d lv (by omega)) ?_
    refine Ev.bind (own_ev a p l d (by omega)) ?_
    refine Ev.bind (ssums_ev a p l d lv) ?_
    refine Ev.bind (rsums_ev a p l d lv (by omega)) ?_
    simp only [beq_self_eq_true, Bool.and_self, if_true]
    refine Ev.bind (eqB_ev _ (sums_len a p l d lv (by omega))) ?_
    exact (Ev.const true).congr (fun k => by simp)
end Go.Proofs.Ytmcmbjkjilcmeaa.K
namespace Go.Proofs.Ytmcmbjkjilcmeaa.Pure
theorem StandingSpaces : K.StandingSpacesPure := fun x0 x1 _ _ => K.spaces_pure x0.f0 x0.f1 x0.f2 x0.f3 x1
end Go.Proofs.Ytmcmbjkjilcmeaa.Pure
