-- Out of the words that print.sh lays, trimmed by trim.py to what this claim comes to.
import Derived.Test.YtfafeeobjlkjnaaWInv
import Derived.Test.YtfafeeobjlkjnaaWFootNe
namespace Go.Proofs.YtfafeeobjlkjnaaW.PrintWords
open Go.RowKit
end Go.Proofs.YtfafeeobjlkjnaaW.PrintWords
namespace Go.Proofs.YtfafeeobjlkjnaaW.PrintLast
section
variable {ops : Array Oper} {a : Act} {o og : Oper} {g : Nat} {t : Tmp} {u : Bool}
end
end Go.Proofs.YtfafeeobjlkjnaaW.PrintLast
