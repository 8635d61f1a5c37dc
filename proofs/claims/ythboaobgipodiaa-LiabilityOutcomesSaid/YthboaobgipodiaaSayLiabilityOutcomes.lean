-- PRINTED by row.py: what the plain law of LiabilityOutcomes has to say.
import Derived.Test.YthboaobgipodiaaK24
import Derived.Test.YthboaobgipodiaaROpenLiabilityOutcomes
namespace Go.Proofs.Ythboaobgipodiaa.K
open Go.RowKit Go.Proofs.YthboaobgipodiaaW.PrintWords
def LiabilityOutcomesPure : Prop := ∀ (x0 : S24) (x1 : (List S35)) (x2 : (List S51)) (x3 : Int), ok24 x0 → ok25 x1 → ok44 x2 → ok3 x3 → ∃ k, spilelaw51_LiabilityOutcomes.f k x0.f0 x0.f1 x1 x2 x3 = some true
end Go.Proofs.Ythboaobgipodiaa.K
