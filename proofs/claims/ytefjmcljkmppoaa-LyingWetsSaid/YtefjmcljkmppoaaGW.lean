/- Words for walks by hand: a map that the call makes, as an event of a walk. -/
import Derived.Test.YtefjmcljkmppoaaWMore
import Derived.Maps.OwnOps
import Derived.WalkSpells
namespace Go.Proofs.Ytefjmcljkmppoaa.GW
open Go.RowKit Go.Proofs.YtefjmcljkmppoaaW.PrintWords Go.Proofs.YtefjmcljkmppoaaW.PrintLast Go.Proofs.YtefjmcljkmppoaaW.PrintMore
set_option linter.unusedVariables false
def mset (w : World) (b : Nat) (o : Obj) : World := { heap := w.heap.setIfInBounds b o, tape := w.tape, drawn := w.drawn, os := w.os, output := w.output }
section
variable {P : Program} {ops : Array Oper} {rest : List Oper} {o : Oper} {a : Act} {Q : Exit → Act → World → Prop} {W : World}
end
section
variable {P : Program} {t e sz : Nat} (ht : P.underlying t = some (.slice e)) (hs : ∀ W, (sizeOf e).run P W = .ok sz W) (A : Option Addr) (n c : Nat)
include ht hs
end
end Go.Proofs.Ytefjmcljkmppoaa.GW
