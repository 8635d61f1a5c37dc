-- PRINTED by row.py: the types of a law's parameters, opened.
import Derived.Test.YtfafeeobjlkjnaaProg
import Derived.Test.YtfafeeobjlkjnaaK0
import Derived.Test.YtfafeeobjlkjnaaGRow
import Derived.WalkKit
namespace Go.Proofs.Ytfafeeobjlkjnaa.K
open Go.RowKit Go.Proofs.YtfafeeobjlkjnaaW.PrintWords Go.Proofs.Ytfafeeobjlkjnaa.GRow
set_option linter.unusedVariables false
def ok3 (x : Int) : Prop := (Lit.int .i64 x).wf = true
theorem opens3 : Opens Try.prog 3 (Kd.int .i64) ok3 := opens_int Try.underlying3 (by kernel_rfl)
def ok4 (x : Bool) : Prop := True
theorem opens4 : Opens Try.prog 4 Kd.bool ok4 := opens_bool Try.underlying4 (by kernel_rfl)
def ok48 (x : (List Bool)) : Prop := (x.length ≤ maxLen ∧ ∀ x_ ∈ x, ok4 x_)
theorem opens48 : Opens Try.prog 48 (Kd.slice 4 Kd.bool) ok48 := (opens_slice Try.underlying48 (by kernel_rfl) opens4).imp (fun _ h => h)
end Go.Proofs.Ytfafeeobjlkjnaa.K
