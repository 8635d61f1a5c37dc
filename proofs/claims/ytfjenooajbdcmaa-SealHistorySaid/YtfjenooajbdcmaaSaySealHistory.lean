-- PRINTED by row.py: what the plain law of SealHistory has to say.
import Derived.Test.YtfjenooajbdcmaaK18
import Derived.Test.YtfjenooajbdcmaaROpenSealHistory
namespace Go.Proofs.Ytfjenooajbdcmaa.K
open Go.RowKit Go.Proofs.YtfjenooajbdcmaaW.PrintWords
def SealHistoryPure : Prop := ∀ (x0 : (List S34)) (x1 : Int), ok22 x0 → ok3 x1 → ∃ k, spilelaw39_SealHistory.f k x0 x1 = some true
end Go.Proofs.Ytfjenooajbdcmaa.K
