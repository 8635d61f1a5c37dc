-- PRINTED by row.py: what the plain law of SealTimes has to say.
import Derived.Test.YtfjenooajbdcmaaK15
import Derived.Test.YtfjenooajbdcmaaROpenSealTimes
namespace Go.Proofs.Ytfjenooajbdcmaa.K
open Go.RowKit Go.Proofs.YtfjenooajbdcmaaW.PrintWords
def SealTimesPure : Prop := ∀ (x0 : (List S34)) (x1 : S24), ok22 x0 → ok24 x1 → ∃ k, spilelaw39_SealTimes.f k x0 x1.f0 x1.f1 x1.f2 = some true
end Go.Proofs.Ytfjenooajbdcmaa.K
