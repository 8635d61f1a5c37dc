-- PRINTED by row.py: what the plain law of StandingLevels has to say.
import Derived.Test.YtmcmbjkjilcmeaaK21
import Derived.Test.YtmcmbjkjilcmeaaROpenStandingLevels
namespace Go.Proofs.Ytmcmbjkjilcmeaa.K
open Go.RowKit Go.Proofs.YtmcmbjkjilcmeaaW.PrintWords
def StandingLevelsPure : Prop := ∀ (x0 : S24) (x1 : Int) (x2 : Int) (x3 : (List Int)), ok24 x0 → ok3 x1 → ok3 x2 → ok25 x3 → ∃ k, spilelaw12_StandingLevels.f k x0.f0 x0.f1 x0.f2 x0.f3 x1 x2 x3 = some true
end Go.Proofs.Ytmcmbjkjilcmeaa.K
