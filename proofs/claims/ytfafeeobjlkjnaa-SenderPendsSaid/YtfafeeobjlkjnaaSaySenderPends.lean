-- PRINTED by row.py: what the plain law of SenderPends has to say.
import Derived.Test.YtfafeeobjlkjnaaKPends
import Derived.Test.YtfafeeobjlkjnaaROpenSenderPends
namespace Go.Proofs.Ytfafeeobjlkjnaa.K
open Go.RowKit Go.Proofs.YtfafeeobjlkjnaaW.PrintWords
def SenderPendsPure : Prop := ∀ (x0 : S24) (x1 : Int) (x2 : S26), ok24 x0 → ok3 x1 → ok26 x2 → ∃ k, spilelaw42_SenderPends.f k x0.f0 x0.f1 x0.f2 x1 x2.f0 x2.f1 x2.f2 x2.f3 x2.f4 x2.f5 x2.f6 = some true
end Go.Proofs.Ytfafeeobjlkjnaa.K
