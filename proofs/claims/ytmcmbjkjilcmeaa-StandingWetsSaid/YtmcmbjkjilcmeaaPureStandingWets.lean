/- By hand: the law StandingWets in plain words. -/
import Derived.Test.YtmcmbjkjilcmeaaPStd
import Derived.Test.YtmcmbjkjilcmeaaSayStandingWets
import Derived.Test.YtmcmbjkjilcmeaaK24
namespace Go.Proofs.Ytmcmbjkjilcmeaa.K
open Go.RowKit Go.Proofs.YtmcmbjkjilcmeaaW.PrintWords
set_option linter.unusedVariables false
set_option linter.unusedSimpArgs false
theorem wets_pure (a : ByteArray) (p : Int) (l : List S33) (d dip n : Int) : ∃ k, spilelaw12_StandingWets.f k a p l d dip n = some true := by
  refine Ev.one ?_
  unfold spilelaw12_StandingWets.f
  refine Ev.bind awake_ev ?_
  simp only [if_true]
  refine Ev.bind (few_ev a p l d []) ?_
  cases hf : fewP a l [] with
  | false => exact (Ev.const true).congr (fun k => by rw [if_neg (by simp)])
  | true =>
    obtain ⟨f1, f2, f3⟩ := few_spec hf
    simp only [if_true]
    refine Ev.bind (own_ev a p l d (by omega)) ?_
    refine Ev.bind (swet_ev a p l d dip n) ?_
    refine Ev.bind (rwet_ev a p l d dip n (by omega)) ?_
    exact (Ev.const true).congr (fun k => by simp)
end Go.Proofs.Ytmcmbjkjilcmeaa.K
namespace Go.Proofs.Ytmcmbjkjilcmeaa.Pure
theorem StandingWets : K.StandingWetsPure := fun x0 x1 x2 _ _ _ => K.wets_pure x0.f0 x0.f1 x0.f2 x0.f3 x1 x2
end Go.Proofs.Ytmcmbjkjilcmeaa.Pure
