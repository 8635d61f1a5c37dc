-- PRINTED by row.py: what the plain law of SealChecks has to say.
import Derived.Test.YtfjenooajbdcmaaK18
import Derived.Test.YtfjenooajbdcmaaROpenSealChecks
namespace Go.Proofs.Ytfjenooajbdcmaa.K
open Go.RowKit Go.Proofs.YtfjenooajbdcmaaW.PrintWords
def SealChecksPure : Prop := ∀ (x0 : (List S34)) (x1 : S34) (x2 : Int), ok22 x0 → ok34 x1 → ok3 x2 → ∃ k, spilelaw39_SealChecks.f k x0 x1.f0 x1.f1 x1.f2 x1.f3 x2 = some true
end Go.Proofs.Ytfjenooajbdcmaa.K
