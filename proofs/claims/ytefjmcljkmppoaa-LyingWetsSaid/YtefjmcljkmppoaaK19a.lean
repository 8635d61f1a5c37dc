import Derived.Test.YtefjmcljkmppoaaK0
import Derived.Test.YtefjmcljkmppoaaGShort
namespace Go.Proofs.Ytefjmcljkmppoaa.K
open Go.RowKit Go.Proofs.YtefjmcljkmppoaaW.PrintWords Go.Proofs.YtefjmcljkmppoaaW.PrintLast Go.Proofs.YtefjmcljkmppoaaW.PrintMore
attribute [local go_sem] max2_int min2_int max_two min_two max_three min_three max_four min_four   -- for this text's walks alone
set_option linter.unusedVariables false
set_option linter.unusedSimpArgs false
def spileref11_has.l0 : Nat → List Int → Int → Int → Option (Bool)
 | 0, _, _, _ => none
 | k + 1, x0, x1, x5 => if x5 < (x0.length : Int) then (if 0 ≤ x5 then (if (rd x0 x5) = x1 then (some true) else (spileref11_has.l0 k x0 x1 (wrap64 (x5 + 1)))) else (none)) else (some false)
def spileref11_has.f (k : Nat) (l0 : List Int) (a1 : Int) : Option (Bool) := spileref11_has.l0 k l0 a1 0
end Go.Proofs.Ytefjmcljkmppoaa.K
