-- PRINTED by row.py: the types of a law's parameters, opened.
import Derived.Test.YtmcmbjkjilcmeaaProg
import Derived.Test.YtmcmbjkjilcmeaaK0
import Derived.Test.YtmcmbjkjilcmeaaGRow
import Derived.WalkKit
namespace Go.Proofs.Ytmcmbjkjilcmeaa.K
open Go.RowKit Go.Proofs.YtmcmbjkjilcmeaaW.PrintWords Go.Proofs.Ytmcmbjkjilcmeaa.GRow
set_option linter.unusedVariables false
def ok3 (x : Int) : Prop := (Lit.int .i64 x).wf = true
theorem opens3 : Opens Try.prog 3 (Kd.int .i64) ok3 := opens_int Try.underlying3 (by kernel_rfl)
def ok25 (x : (List Int)) : Prop := (x.length ≤ maxLen ∧ ∀ x_ ∈ x, ok3 x_)
theorem opens25 : Opens Try.prog 25 (Kd.slice 3 (Kd.int .i64)) ok25 := (opens_slice Try.underlying25 (by kernel_rfl) opens3).imp (fun _ h => h)
end Go.Proofs.Ytmcmbjkjilcmeaa.K
