-- PRINTED by row.py: what the plain law of LyingWets has to say.
import Derived.Test.YtefjmcljkmppoaaK19
import Derived.Test.YtefjmcljkmppoaaROpenLyingWets
namespace Go.Proofs.Ytefjmcljkmppoaa.K
open Go.RowKit Go.Proofs.YtefjmcljkmppoaaW.PrintWords
def LyingWetsPure : Prop := ∀ (x0 : S24) (x1 : Int) (x2 : Int) (x3 : Int), ok24 x0 → ok3 x1 → ok3 x2 → ok3 x3 → ∃ k, spilelaw11_LyingWets.f k x0.f0 x0.f1 x0.f2 x0.f3 x1 x2 x3 = some true
end Go.Proofs.Ytefjmcljkmppoaa.K
