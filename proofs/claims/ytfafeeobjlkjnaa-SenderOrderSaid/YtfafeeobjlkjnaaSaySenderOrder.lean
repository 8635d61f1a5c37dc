-- PRINTED by row.py: what the plain law of SenderOrder has to say.
import Derived.Test.YtfafeeobjlkjnaaKOrd
import Derived.Test.YtfafeeobjlkjnaaROpenSenderOrder
namespace Go.Proofs.Ytfafeeobjlkjnaa.K
open Go.RowKit Go.Proofs.YtfafeeobjlkjnaaW.PrintWords
def SenderOrderPure : Prop := ∀ (x0 : S24) (x1 : (List Int)), ok24 x0 → ok51 x1 → ∃ k, spilelaw42_SenderOrder.f k x0.f0 x0.f1 x0.f2 x1 = some true
end Go.Proofs.Ytfafeeobjlkjnaa.K
