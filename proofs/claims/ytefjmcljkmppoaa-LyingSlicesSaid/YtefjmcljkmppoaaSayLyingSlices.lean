-- PRINTED by row.py: what the plain law of LyingSlices has to say.
import Derived.Test.YtefjmcljkmppoaaK21
import Derived.Test.YtefjmcljkmppoaaROpenLyingSlices
namespace Go.Proofs.Ytefjmcljkmppoaa.K
open Go.RowKit Go.Proofs.YtefjmcljkmppoaaW.PrintWords
def LyingSlicesPure : Prop := ∀ (x0 : S24) (x1 : Int) (x2 : (List Int)), ok24 x0 → ok3 x1 → ok34 x2 → ∃ k, spilelaw11_LyingSlices.f k x0.f0 x0.f1 x0.f2 x0.f3 x1 x2 = some true
end Go.Proofs.Ytefjmcljkmppoaa.K
