-- Out of the words that print.sh lays, trimmed by trim.py to what this claim comes to.
import Derived.Test.YthboaobgipodiaaWInv
import Derived.Test.YthboaobgipodiaaWFootNe
namespace Go.Proofs.YthboaobgipodiaaW.PrintWords
open Go.RowKit
end Go.Proofs.YthboaobgipodiaaW.PrintWords
namespace Go.Proofs.YthboaobgipodiaaW.PrintLast
section
variable {ops : Array Oper} {a : Act} {o og : Oper} {g : Nat} {t : Tmp} {u : Bool}
end
end Go.Proofs.YthboaobgipodiaaW.PrintLast
