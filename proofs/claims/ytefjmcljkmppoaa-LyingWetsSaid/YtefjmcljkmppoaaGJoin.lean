/- By hand: what follows a part of a drawing region is walked once, from whatever its orders come to. -/
import Derived.Test.YtefjmcljkmppoaaK0
import Derived.Test.YtefjmcljkmppoaaWLast
namespace Go.Proofs.Ytefjmcljkmppoaa.GS
open Go.RowKit Go.Proofs.YtefjmcljkmppoaaW.PrintWords Go.Proofs.YtefjmcljkmppoaaW.PrintLast
set_option linter.unusedVariables false
variable {P : Program} {ops : Array Oper} {Q : Exit → Act → World → Prop} {md : Region.Mode} {S : World → Prop} {ds : List Nat}
def putL (t : Array Value) (vs : List (Nat × Value)) : Array Value := vs.foldl (fun t x => t.setIfInBounds x.1 x.2) t
theorem joinA {fuel : Nat} {l : Array Bool} {a : Act} {w : World} (fE : Nat) (lE : Array Bool) (vs : List (Nat × Value)) (hx : wpAnyLast P md ops Q S ds fE lE { tmps := putL a.tmps vs, defers := a.defers } w)
    (h : wpAnyLast P md ops Q S ds fE lE { tmps := putL a.tmps vs, defers := a.defers } w → wpAnyLast P md ops Q S ds fuel l a w) : wpAnyLast P md ops Q S ds fuel l a w := h hx
end Go.Proofs.Ytefjmcljkmppoaa.GS
