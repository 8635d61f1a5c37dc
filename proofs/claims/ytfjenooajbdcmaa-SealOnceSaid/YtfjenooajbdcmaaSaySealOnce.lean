-- PRINTED by row.py: what the plain law of SealOnce has to say.
import Derived.Test.YtfjenooajbdcmaaKOnce
import Derived.Test.YtfjenooajbdcmaaROpenSealOnce
namespace Go.Proofs.Ytfjenooajbdcmaa.K
open Go.RowKit Go.Proofs.YtfjenooajbdcmaaW.PrintWords
def SealOncePure : Prop := ∀ (x0 : (List S34)) (x1 : Int) (x2 : Int) (x3 : Int), ok22 x0 → ok3 x1 → ok3 x2 → ok3 x3 → ∃ k, spilelaw39_SealOnce.f k x0 x1 x2 x3 = some true
end Go.Proofs.Ytfjenooajbdcmaa.K
