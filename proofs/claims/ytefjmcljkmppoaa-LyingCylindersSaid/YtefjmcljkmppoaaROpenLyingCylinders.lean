-- PRINTED by row.py: the types of a law's parameters, opened.
import Derived.Test.YtefjmcljkmppoaaProg
import Derived.Test.YtefjmcljkmppoaaK0
import Derived.Test.YtefjmcljkmppoaaGRow
import Derived.WalkKit
namespace Go.Proofs.Ytefjmcljkmppoaa.K
open Go.RowKit Go.Proofs.YtefjmcljkmppoaaW.PrintWords Go.Proofs.Ytefjmcljkmppoaa.GRow
set_option linter.unusedVariables false
def ok3 (x : Int) : Prop := (Lit.int .i64 x).wf = true
theorem opens3 : Opens Try.prog 3 (Kd.int .i64) ok3 := opens_int Try.underlying3 (by kernel_rfl)
def ok34 (x : (List Int)) : Prop := (x.length ≤ maxLen ∧ ∀ x_ ∈ x, ok3 x_)
theorem opens34 : Opens Try.prog 34 (Kd.slice 3 (Kd.int .i64)) ok34 := (opens_slice Try.underlying34 (by kernel_rfl) opens3).imp (fun _ h => h)
end Go.Proofs.Ytefjmcljkmppoaa.K
