-- PRINTED by row.py: what the plain law of StandingRises has to say.
import Derived.Test.YtmcmbjkjilcmeaaK25
import Derived.Test.YtmcmbjkjilcmeaaROpenStandingRises
namespace Go.Proofs.Ytmcmbjkjilcmeaa.K
open Go.RowKit Go.Proofs.YtmcmbjkjilcmeaaW.PrintWords
def StandingRisesPure : Prop := ∀ (x0 : S24) (x1 : (List Int)), ok24 x0 → ok25 x1 → ∃ k, spilelaw12_StandingRises.f k x0.f0 x0.f1 x0.f2 x0.f3 x1 = some true
end Go.Proofs.Ytmcmbjkjilcmeaa.K
