-- PRINTED by row.py: what the plain law of SealSame has to say.
import Derived.Test.YtfjenooajbdcmaaKSame
import Derived.Test.YtfjenooajbdcmaaROpenSealSame
namespace Go.Proofs.Ytfjenooajbdcmaa.K
open Go.RowKit Go.Proofs.YtfjenooajbdcmaaW.PrintWords
def SealSamePure : Prop := ∀ (x0 : (List S34)) (x1 : S24), ok22 x0 → ok24 x1 → ∃ k, spilelaw39_SealSame.f k x0 x1.f0 x1.f1 x1.f2 = some true
end Go.Proofs.Ytfjenooajbdcmaa.K
