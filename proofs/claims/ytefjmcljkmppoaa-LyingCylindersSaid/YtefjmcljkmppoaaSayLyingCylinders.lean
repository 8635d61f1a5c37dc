-- PRINTED by row.py: what the plain law of LyingCylinders has to say.
import Derived.Test.YtefjmcljkmppoaaK23
import Derived.Test.YtefjmcljkmppoaaROpenLyingCylinders
namespace Go.Proofs.Ytefjmcljkmppoaa.K
open Go.RowKit Go.Proofs.YtefjmcljkmppoaaW.PrintWords
def LyingCylindersPure : Prop := ∀ (x0 : Int) (x1 : (List Int)) (x2 : (List Int)), ok3 x0 → ok34 x1 → ok34 x2 → ∃ k, spilelaw11_LyingCylinders.f k x0 x1 x2 = some true
end Go.Proofs.Ytefjmcljkmppoaa.K
