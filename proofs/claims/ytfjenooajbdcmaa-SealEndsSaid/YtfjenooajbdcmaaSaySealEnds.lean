-- PRINTED by row.py: what the plain law of SealEnds has to say.
import Derived.Test.YtfjenooajbdcmaaKEnds
import Derived.Test.YtfjenooajbdcmaaROpenSealEnds
namespace Go.Proofs.Ytfjenooajbdcmaa.K
open Go.RowKit Go.Proofs.YtfjenooajbdcmaaW.PrintWords
def SealEndsPure : Prop := ∀ (x0 : (List S34)) (x1 : S24) (x2 : Int), ok22 x0 → ok24 x1 → ok3 x2 → ∃ k, spilelaw39_SealEnds.f k x0 x1.f0 x1.f1 x1.f2 x2 = some true
end Go.Proofs.Ytfjenooajbdcmaa.K
