-- PRINTED by row.py: what the plain law of SenderCounts has to say.
import Derived.Test.YtfafeeobjlkjnaaK14
import Derived.Test.YtfafeeobjlkjnaaROpenSenderCounts
namespace Go.Proofs.Ytfafeeobjlkjnaa.K
open Go.RowKit Go.Proofs.YtfafeeobjlkjnaaW.PrintWords
def SenderCountsPure : Prop := ∀ (x0 : Int) (x1 : Int) (x2 : (List Bool)), ok3 x0 → ok3 x1 → ok48 x2 → ∃ k, spilelaw42_SenderCounts.f k x0 x1 x2 = some true
end Go.Proofs.Ytfafeeobjlkjnaa.K
