import Derived.Test.YtfafeeobjlkjnaaProg
import Derived.Test.YtfafeeobjlkjnaaK0
import Derived.Test.YtfafeeobjlkjnaaGRow
import Derived.WalkKit
import Derived.Test.YtfafeeobjlkjnaaKNodes
-- PRINTED by row.py: the types of a law's parameters, opened.
namespace Go.Proofs.Ytfafeeobjlkjnaa.K
open Go.RowKit Go.Proofs.YtfafeeobjlkjnaaW.PrintWords Go.Proofs.Ytfafeeobjlkjnaa.GRow
set_option linter.unusedVariables false
def ok3 (x : Int) : Prop := (Lit.int .i64 x).wf = true
theorem opens3 : Opens Try.prog 3 (Kd.int .i64) ok3 := opens_int Try.underlying3 (by kernel_rfl)
def ok26 (x : S26) : Prop := (ok3 x.f0 ∧ ok3 x.f1 ∧ ok3 x.f2 ∧ ok3 x.f3 ∧ ok3 x.f4 ∧ ok3 x.f5 ∧ ok3 x.f6)
theorem opens26_ : Opens Try.prog 26 (Kd.pair (Kd.int .i64) (Kd.pair (Kd.int .i64) (Kd.pair (Kd.int .i64) (Kd.pair (Kd.int .i64) (Kd.pair (Kd.int .i64) (Kd.pair (Kd.int .i64) (Kd.int .i64))))))) (Two ok3 (Two ok3 (Two ok3 (Two ok3 (Two ok3 (Two ok3 ok3)))))) := by
  refine opens_struct Try.underlying26 (by kernel_rfl) ?_
  refine fields_cons opens3 (by rfl) (by rfl) ?_
  refine fields_cons opens3 (by rfl) (by rfl) ?_
  refine fields_cons opens3 (by rfl) (by rfl) ?_
  refine fields_cons opens3 (by rfl) (by rfl) ?_
  refine fields_cons opens3 (by rfl) (by rfl) ?_
  refine fields_cons opens3 (by rfl) (by rfl) ?_
  exact fields_last opens3 (by rfl) (by rfl)
theorem opens26 : Opens Try.prog 26 k26 ok26 := (opens_iso opens26_ _ (fun p => ⟨p.1, p.2.1, p.2.2.1, p.2.2.2.1, p.2.2.2.2.1, p.2.2.2.2.2.1, p.2.2.2.2.2.2⟩) (fun _ => rfl)).imp (fun _ h => h)
def ok33 (x : S33) : Prop := (ok3 x.f0 ∧ ok3 x.f1 ∧ ok3 x.f2 ∧ ok26 x.f3)
theorem opens33_ : Opens Try.prog 33 (Kd.pair (Kd.int .i64) (Kd.pair (Kd.int .i64) (Kd.pair (Kd.int .i64) k26))) (Two ok3 (Two ok3 (Two ok3 ok26))) := by
  refine opens_struct Try.underlying33 (by kernel_rfl) ?_
  refine fields_cons opens3 (by rfl) (by rfl) ?_
  refine fields_cons opens3 (by rfl) (by rfl) ?_
  refine fields_cons opens3 (by rfl) (by rfl) ?_
  exact fields_last opens26 (by rfl) (by rfl)
theorem opens33 : Opens Try.prog 33 k33 ok33 := (opens_iso opens33_ _ (fun p => ⟨p.1, p.2.1, p.2.2.1, p.2.2.2⟩) (fun _ => rfl)).imp (fun _ h => h)
def ok22 (x : (List S33)) : Prop := (x.length ≤ maxLen ∧ ∀ x_ ∈ x, ok33 x_)
theorem opens22 : Opens Try.prog 22 (Kd.slice 33 k33) ok22 := (opens_slice Try.underlying22 (by kernel_rfl) opens33).imp (fun _ h => h)
def ok24 (x : S24) : Prop := (ok3 x.f0 ∧ ok3 x.f1 ∧ ok22 x.f2)
theorem opens24_ : Opens Try.prog 24 (Kd.pair (Kd.int .i64) (Kd.pair (Kd.int .i64) (Kd.slice 33 k33))) (Two ok3 (Two ok3 ok22)) := by
  refine opens_struct Try.underlying24 (by kernel_rfl) ?_
  refine fields_cons opens3 (by rfl) (by rfl) ?_
  refine fields_cons opens3 (by rfl) (by rfl) ?_
  exact fields_last opens22 (by rfl) (by rfl)
theorem opens24 : Opens Try.prog 24 k24 ok24 := (opens_iso opens24_ _ (fun p => ⟨p.1, p.2.1, p.2.2⟩) (fun _ => rfl)).imp (fun _ h => h)
end Go.Proofs.Ytfafeeobjlkjnaa.K
-- PRINTED by row.py: what the plain law of SenderNodes has to say.
namespace Go.Proofs.Ytfafeeobjlkjnaa.K
open Go.RowKit Go.Proofs.YtfafeeobjlkjnaaW.PrintWords
def SenderNodesPure : Prop := ∀ (x0 : S24) (x1 : Int), ok24 x0 → ok3 x1 → ∃ k, spilelaw42_SenderNodes.f k x0.f0 x0.f1 x0.f2 x1 = some true
end Go.Proofs.Ytfafeeobjlkjnaa.K
