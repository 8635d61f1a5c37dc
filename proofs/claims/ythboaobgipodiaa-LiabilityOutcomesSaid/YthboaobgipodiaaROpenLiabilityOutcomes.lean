-- PRINTED by row.py: the types of a law's parameters, opened.
import Derived.Test.YthboaobgipodiaaProg
import Derived.Test.YthboaobgipodiaaK0
import Derived.Test.YthboaobgipodiaaGRow
import Derived.WalkKit
namespace Go.Proofs.Ythboaobgipodiaa.K
open Go.RowKit Go.Proofs.YthboaobgipodiaaW.PrintWords Go.Proofs.Ythboaobgipodiaa.GRow
set_option linter.unusedVariables false
def ok3 (x : Int) : Prop := (Lit.int .i64 x).wf = true
theorem opens3 : Opens Try.prog 3 (Kd.int .i64) ok3 := opens_int Try.underlying3 (by kernel_rfl)
def ok60 (x : S60) : Prop := (ok3 x.f0 ∧ ok3 x.f1 ∧ ok3 x.f2)
theorem opens60_ : Opens Try.prog 60 (Kd.pair (Kd.int .i64) (Kd.pair (Kd.int .i64) (Kd.int .i64))) (Two ok3 (Two ok3 ok3)) := by
  refine opens_struct Try.underlying60 (by kernel_rfl) ?_
  refine fields_cons opens3 (by rfl) (by rfl) ?_
  refine fields_cons opens3 (by rfl) (by rfl) ?_
  exact fields_last opens3 (by rfl) (by rfl)
theorem opens60 : Opens Try.prog 60 k60 ok60 := (opens_iso opens60_ _ (fun p => ⟨p.1, p.2.1, p.2.2⟩) (fun _ => rfl)).imp (fun _ h => h)
def ok22 (x : (List S60)) : Prop := (x.length ≤ maxLen ∧ ∀ x_ ∈ x, ok60 x_)
theorem opens22 : Opens Try.prog 22 (Kd.slice 60 k60) ok22 := (opens_slice Try.underlying22 (by kernel_rfl) opens60).imp (fun _ h => h)
def ok24 (x : S24) : Prop := (ok3 x.f0 ∧ ok22 x.f1)
theorem opens24_ : Opens Try.prog 24 (Kd.pair (Kd.int .i64) (Kd.slice 60 k60)) (Two ok3 ok22) := by
  refine opens_struct Try.underlying24 (by kernel_rfl) ?_
  refine fields_cons opens3 (by rfl) (by rfl) ?_
  exact fields_last opens22 (by rfl) (by rfl)
theorem opens24 : Opens Try.prog 24 k24 ok24 := (opens_iso opens24_ _ (fun p => ⟨p.1, p.2⟩) (fun _ => rfl)).imp (fun _ h => h)
def ok35 (x : S35) : Prop := (ok3 x.f0 ∧ ok3 x.f1 ∧ ok3 x.f2 ∧ ok3 x.f3 ∧ ok3 x.f4)
theorem opens35_ : Opens Try.prog 35 (Kd.pair (Kd.int .i64) (Kd.pair (Kd.int .i64) (Kd.pair (Kd.int .i64) (Kd.pair (Kd.int .i64) (Kd.int .i64))))) (Two ok3 (Two ok3 (Two ok3 (Two ok3 ok3)))) := by
  refine opens_struct Try.underlying35 (by kernel_rfl) ?_
  refine fields_cons opens3 (by rfl) (by rfl) ?_
  refine fields_cons opens3 (by rfl) (by rfl) ?_
  refine fields_cons opens3 (by rfl) (by rfl) ?_
  refine fields_cons opens3 (by rfl) (by rfl) ?_
  exact fields_last opens3 (by rfl) (by rfl)
theorem opens35 : Opens Try.prog 35 k35 ok35 := (opens_iso opens35_ _ (fun p => ⟨p.1, p.2.1, p.2.2.1, p.2.2.2.1, p.2.2.2.2⟩) (fun _ => rfl)).imp (fun _ h => h)
def ok25 (x : (List S35)) : Prop := (x.length ≤ maxLen ∧ ∀ x_ ∈ x, ok35 x_)
theorem opens25 : Opens Try.prog 25 (Kd.slice 35 k35) ok25 := (opens_slice Try.underlying25 (by kernel_rfl) opens35).imp (fun _ h => h)
def ok51 (x : S51) : Prop := (ok3 x.f0 ∧ ok3 x.f1 ∧ ok3 x.f2 ∧ ok3 x.f3)
theorem opens51_ : Opens Try.prog 51 (Kd.pair (Kd.int .i64) (Kd.pair (Kd.int .i64) (Kd.pair (Kd.int .i64) (Kd.int .i64)))) (Two ok3 (Two ok3 (Two ok3 ok3))) := by
  refine opens_struct Try.underlying51 (by kernel_rfl) ?_
  refine fields_cons opens3 (by rfl) (by rfl) ?_
  refine fields_cons opens3 (by rfl) (by rfl) ?_
  refine fields_cons opens3 (by rfl) (by rfl) ?_
  exact fields_last opens3 (by rfl) (by rfl)
theorem opens51 : Opens Try.prog 51 k51 ok51 := (opens_iso opens51_ _ (fun p => ⟨p.1, p.2.1, p.2.2.1, p.2.2.2⟩) (fun _ => rfl)).imp (fun _ h => h)
def ok44 (x : (List S51)) : Prop := (x.length ≤ maxLen ∧ ∀ x_ ∈ x, ok51 x_)
theorem opens44 : Opens Try.prog 44 (Kd.slice 51 k51) ok44 := (opens_slice Try.underlying44 (by kernel_rfl) opens51).imp (fun _ h => h)
end Go.Proofs.Ythboaobgipodiaa.K
