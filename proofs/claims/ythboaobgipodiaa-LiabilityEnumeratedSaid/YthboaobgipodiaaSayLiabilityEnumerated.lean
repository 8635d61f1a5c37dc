-- PRINTED by row.py: what the plain law of LiabilityEnumerated has to say.
import Derived.Test.YthboaobgipodiaaK27
import Derived.Test.YthboaobgipodiaaROpenLiabilityEnumerated
namespace Go.Proofs.Ythboaobgipodiaa.K
open Go.RowKit Go.Proofs.YthboaobgipodiaaW.PrintWords
def LiabilityEnumeratedPure : Prop := ∀ (x0 : S24) (x1 : S35) (x2 : Int), ok24 x0 → ok35 x1 → ok5 x2 → ∃ k, spilelaw51_LiabilityEnumerated.f k x0.f0 x0.f1 x1.f0 x1.f1 x1.f2 x1.f3 x1.f4 x2 = some true
end Go.Proofs.Ythboaobgipodiaa.K
