-- PRINTED by row.py: what the plain law of SenderTakes has to say.
import Derived.Test.YtfafeeobjlkjnaaKTakes
import Derived.Test.YtfafeeobjlkjnaaROpenSenderTakes
namespace Go.Proofs.Ytfafeeobjlkjnaa.K
open Go.RowKit Go.Proofs.YtfafeeobjlkjnaaW.PrintWords
def SenderTakesPure : Prop := ∀ (x0 : S24) (x1 : S44), ok24 x0 → ok44 x1 → ∃ k, spilelaw42_SenderTakes.f k x0.f0 x0.f1 x0.f2 x1.f0 x1.f1 = some true
end Go.Proofs.Ytfafeeobjlkjnaa.K
