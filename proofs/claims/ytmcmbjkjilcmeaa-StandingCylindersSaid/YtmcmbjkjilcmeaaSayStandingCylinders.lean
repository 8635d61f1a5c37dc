-- PRINTED by row.py: what the plain law of StandingCylinders has to say.
import Derived.Test.YtmcmbjkjilcmeaaK26
import Derived.Test.YtmcmbjkjilcmeaaROpenStandingCylinders
namespace Go.Proofs.Ytmcmbjkjilcmeaa.K
open Go.RowKit Go.Proofs.YtmcmbjkjilcmeaaW.PrintWords
def StandingCylindersPure : Prop := ∀ (x0 : Int) (x1 : Int) (x2 : (List Int)), ok3 x0 → ok3 x1 → ok25 x2 → ∃ k, spilelaw12_StandingCylinders.f k x0 x1 x2 = some true
end Go.Proofs.Ytmcmbjkjilcmeaa.K
