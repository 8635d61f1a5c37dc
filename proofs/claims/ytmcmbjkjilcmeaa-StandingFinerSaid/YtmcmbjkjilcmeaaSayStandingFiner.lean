-- PRINTED by row.py: what the plain law of StandingFiner has to say.
import Derived.Test.YtmcmbjkjilcmeaaK30
import Derived.Test.YtmcmbjkjilcmeaaROpenStandingFiner
namespace Go.Proofs.Ytmcmbjkjilcmeaa.K
open Go.RowKit Go.Proofs.YtmcmbjkjilcmeaaW.PrintWords
def StandingFinerPure : Prop := ∀ (x0 : S24) (x1 : (List Int)) (x2 : Int), ok24 x0 → ok25 x1 → ok3 x2 → ∃ k, spilelaw12_StandingFiner.f k x0.f0 x0.f1 x0.f2 x0.f3 x1 x2 = some true
end Go.Proofs.Ytmcmbjkjilcmeaa.K
