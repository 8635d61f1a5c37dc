-- PRINTED by row.py: the types of a law's parameters, opened.
import Derived.Test.YtfhmjleimampeaaProg
import Derived.Test.YtfhmjleimampeaaK0
import Derived.Test.YtfhmjleimampeaaGRow
import Derived.Test.YtfhmjleimampeaaGArr
import Derived.WalkKit
namespace Go.Proofs.Ytfhmjleimampeaa.K
open Go.RowKit Go.Proofs.YtfhmjleimampeaaW.PrintWords Go.Proofs.Ytfhmjleimampeaa.GRow
set_option linter.unusedVariables false
def ok3 (x : Int) : Prop := (Lit.int .i64 x).wf = true
theorem opens3 : Opens Try.prog 3 (Kd.int .i64) ok3 := opens_int Try.underlying3 (by kernel_rfl)
def ok30 (x : S30) : Prop := (ok3 x.f0 ∧ ok3 x.f1 ∧ ok3 x.f2 ∧ ok3 x.f3)
theorem opens30_ : Opens Try.prog 30 (Kd.pair (Kd.int .i64) (Kd.pair (Kd.int .i64) (Kd.pair (Kd.int .i64) (Kd.int .i64)))) (Two ok3 (Two ok3 (Two ok3 ok3))) := by
  refine opens_struct Try.underlying30 (by kernel_rfl) ?_
  refine fields_cons opens3 (by rfl) (by rfl) ?_
  refine fields_cons opens3 (by rfl) (by rfl) ?_
  refine fields_cons opens3 (by rfl) (by rfl) ?_
  exact fields_last opens3 (by rfl) (by rfl)
theorem opens30 : Opens Try.prog 30 k30 ok30 := (opens_iso opens30_ _ (fun p => ⟨p.1, p.2.1, p.2.2.1, p.2.2.2⟩) (fun _ => rfl)).imp (fun _ h => h)
def ok22 (x : (List S30)) : Prop := (x.length ≤ maxLen ∧ ∀ x_ ∈ x, ok30 x_)
theorem opens22 : Opens Try.prog 22 (Kd.slice 30 k30) ok22 := (opens_slice Try.underlying22 (by kernel_rfl) opens30).imp (fun _ h => h)
def ok42 (x : S42) : Prop := (ok3 x.f0 ∧ ok3 x.f1)
theorem opens42 : Opens Try.prog 42 k42 ok42 := (opens_iso (opens_array2 Try.underlying42 (by kernel_rfl) opens3) _ (fun p => ⟨p.1, p.2⟩) (fun _ => rfl)).imp (fun _ h => h)
end Go.Proofs.Ytfhmjleimampeaa.K
