-- PRINTED by row.py: the types of a law's parameters, opened.
import Derived.Test.YtfjenooajbdcmaaProg
import Derived.Test.YtfjenooajbdcmaaK0
import Derived.Test.YtfjenooajbdcmaaGRow
import Derived.Test.YtfjenooajbdcmaaGModel
import Derived.WalkKit
namespace Go.Proofs.Ytfjenooajbdcmaa.K
open Go.RowKit Go.Proofs.YtfjenooajbdcmaaW.PrintWords Go.Proofs.Ytfjenooajbdcmaa.GRow
set_option linter.unusedVariables false
def ok3 (x : Int) : Prop := (Lit.int .i64 x).wf = true
theorem opens3 : Opens Try.prog 3 (Kd.int .i64) ok3 := opens_int Try.underlying3 (by kernel_rfl)
def ok34 (x : S34) : Prop := (ok3 x.f0 ∧ ok3 x.f1 ∧ ok3 x.f2 ∧ ok3 x.f3)
theorem opens34_ : Opens Try.prog 34 (Kd.pair (Kd.int .i64) (Kd.pair (Kd.int .i64) (Kd.pair (Kd.int .i64) (Kd.int .i64)))) (Two ok3 (Two ok3 (Two ok3 ok3))) := by
  refine opens_struct Try.underlying34 (by kernel_rfl) ?_
  refine fields_cons opens3 (by rfl) (by rfl) ?_
  refine fields_cons opens3 (by rfl) (by rfl) ?_
  refine fields_cons opens3 (by rfl) (by rfl) ?_
  exact fields_last opens3 (by rfl) (by rfl)
theorem opens34 : Opens Try.prog 34 k34 ok34 := (opens_iso opens34_ _ (fun p => ⟨p.1, p.2.1, p.2.2.1, p.2.2.2⟩) (fun _ => rfl)).imp (fun _ h => h)
def ok22 (x : (List S34)) : Prop := (x.length ≤ maxLen ∧ ∀ x_ ∈ x, ok34 x_)
theorem opens22 : Opens Try.prog 22 (Kd.slice 34 k34) ok22 := (opens_slice Try.underlying22 (by kernel_rfl) opens34).imp (fun _ h => h)
end Go.Proofs.Ytfjenooajbdcmaa.K
