-- PRINTED by row.py: what the plain law of LiabilityGrows has to say.
import Derived.Test.YthboaobgipodiaaK28
import Derived.Test.YthboaobgipodiaaROpenLiabilityGrows
namespace Go.Proofs.Ythboaobgipodiaa.K
open Go.RowKit Go.Proofs.YthboaobgipodiaaW.PrintWords
def LiabilityGrowsPure : Prop := ∀ (x0 : S24) (x1 : (List S35)) (x2 : Int) (x3 : Int) (x4 : Int), ok24 x0 → ok25 x1 → ok3 x2 → ok3 x3 → ok3 x4 → ∃ k, spilelaw51_LiabilityGrows.f k x0.f0 x0.f1 x1 x2 x3 x4 = some true
end Go.Proofs.Ythboaobgipodiaa.K
