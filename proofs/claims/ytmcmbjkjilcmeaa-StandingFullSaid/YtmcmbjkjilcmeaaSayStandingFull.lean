-- PRINTED by row.py: what the plain law of StandingFull has to say.
import Derived.Test.YtmcmbjkjilcmeaaK28
import Derived.Test.YtmcmbjkjilcmeaaROpenStandingFull
namespace Go.Proofs.Ytmcmbjkjilcmeaa.K
open Go.RowKit Go.Proofs.YtmcmbjkjilcmeaaW.PrintWords
def StandingFullPure : Prop := ∀ (x0 : S24) (x1 : Int), ok24 x0 → ok3 x1 → ∃ k, spilelaw12_StandingFull.f k x0.f0 x0.f1 x0.f2 x0.f3 x1 = some true
end Go.Proofs.Ytmcmbjkjilcmeaa.K
