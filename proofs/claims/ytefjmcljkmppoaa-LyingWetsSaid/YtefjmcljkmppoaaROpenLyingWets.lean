-- PRINTED by row.py: the types of a law's parameters, opened.
import Derived.Test.YtefjmcljkmppoaaProg
import Derived.Test.YtefjmcljkmppoaaK0
import Derived.Test.YtefjmcljkmppoaaGRow
import Derived.WalkKit
namespace Go.Proofs.Ytefjmcljkmppoaa.K
open Go.RowKit Go.Proofs.YtefjmcljkmppoaaW.PrintWords Go.Proofs.Ytefjmcljkmppoaa.GRow
set_option linter.unusedVariables false
def ok9 (x : ByteArray) : Prop := x.size ≤ maxLen
theorem opens9 : Opens Try.prog 9 Kd.string ok9 := opens_string Try.underlying9 (by kernel_rfl)
def ok3 (x : Int) : Prop := (Lit.int .i64 x).wf = true
theorem opens3 : Opens Try.prog 3 (Kd.int .i64) ok3 := opens_int Try.underlying3 (by kernel_rfl)
def ok39 (x : S39) : Prop := (ok3 x.f0 ∧ ok3 x.f1)
theorem opens39_ : Opens Try.prog 39 (Kd.pair (Kd.int .i64) (Kd.int .i64)) (Two ok3 ok3) := by
  refine opens_struct Try.underlying39 (by kernel_rfl) ?_
  refine fields_cons opens3 (by rfl) (by rfl) ?_
  exact fields_last opens3 (by rfl) (by rfl)
theorem opens39 : Opens Try.prog 39 k39 ok39 := (opens_iso opens39_ _ (fun p => ⟨p.1, p.2⟩) (fun _ => rfl)).imp (fun _ h => h)
def ok22 (x : (List S39)) : Prop := (x.length ≤ maxLen ∧ ∀ x_ ∈ x, ok39 x_)
theorem opens22 : Opens Try.prog 22 (Kd.slice 39 k39) ok22 := (opens_slice Try.underlying22 (by kernel_rfl) opens39).imp (fun _ h => h)
def ok24 (x : S24) : Prop := (ok9 x.f0 ∧ ok3 x.f1 ∧ ok22 x.f2 ∧ ok3 x.f3)
theorem opens24_ : Opens Try.prog 24 (Kd.pair Kd.string (Kd.pair (Kd.int .i64) (Kd.pair (Kd.slice 39 k39) (Kd.int .i64)))) (Two ok9 (Two ok3 (Two ok22 ok3))) := by
  refine opens_struct Try.underlying24 (by kernel_rfl) ?_
  refine fields_cons opens9 (by rfl) (by rfl) ?_
  refine fields_cons opens3 (by rfl) (by rfl) ?_
  refine fields_cons opens22 (by rfl) (by rfl) ?_
  exact fields_last opens3 (by rfl) (by rfl)
theorem opens24 : Opens Try.prog 24 k24 ok24 := (opens_iso opens24_ _ (fun p => ⟨p.1, p.2.1, p.2.2.1, p.2.2.2⟩) (fun _ => rfl)).imp (fun _ h => h)
end Go.Proofs.Ytefjmcljkmppoaa.K
