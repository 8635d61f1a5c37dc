-- PRINTED by row.py: what the plain law of LiabilityReached has to say.
import Derived.Test.YthboaobgipodiaaK26
import Derived.Test.YthboaobgipodiaaROpenLiabilityReached
namespace Go.Proofs.Ythboaobgipodiaa.K
open Go.RowKit Go.Proofs.YthboaobgipodiaaW.PrintWords
def LiabilityReachedPure : Prop := ∀ (x0 : S24) (x1 : (List S35)) (x2 : Int), ok24 x0 → ok25 x1 → ok3 x2 → ∃ k, spilelaw51_LiabilityReached.f k x0.f0 x0.f1 x1 x2 = some true
end Go.Proofs.Ythboaobgipodiaa.K
