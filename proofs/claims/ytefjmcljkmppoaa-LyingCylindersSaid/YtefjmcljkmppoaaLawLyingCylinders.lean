-- PRINTED by row.py: the row of the law LyingCylinders, out of its Pure and the walk's contract.
import Derived.Test.YtefjmcljkmppoaaRows
import Derived.Test.YtefjmcljkmppoaaK23
import Derived.Test.YtefjmcljkmppoaaSayLyingCylinders
import Derived.Test.YtefjmcljkmppoaaROpenLyingCylinders
import Derived.Test.YtefjmcljkmppoaaPureLyingCylinders
import Derived.WalkKit
import Derived.ProofKit
import Derived.OpenShut
import Derived.ShutString
import Derived.ChangeOld
import Derived.Below
import Derived.Carry
import Derived.SizedLaws
namespace Go.Proofs.Ytefjmcljkmppoaa.lyingCylinders
open Go.ChangeShapes Go.WideShapes Go.ChangeAt Go.RowKit Go.Proofs.YtefjmcljkmppoaaW.PrintWords Go.Proofs.Ytefjmcljkmppoaa.GRow Go.Proofs.Ytefjmcljkmppoaa.K
open Go.ChangeMaps (open_string shut_string)
set_option linter.unusedVariables false
theorem own : ownKnob Try.prog.godebug = none := by kernel_rfl
theorem laidOut : laidOutB Try.prog = true := by kernel_rfl
set_option maxHeartbeats 4000000 in
set_option maxRecDepth 100000 in
theorem lifted (os : Os) (started : os.Started) (H : Type) (enc : TypeId × Value → H) :
    ReturnsInHanded {} Try.checked os 6 .any (Rows.lyingCylindersSpec.pre6 enc Try.prog Try.f6 Rows.lyingCylindersRow.domain false) (Rows.lyingCylindersSpec.post enc Try.prog Try.f6 false true false false) := by
  refine returnsInHanded_of_change_sized (C := Try.checked) own started (by kernel_rfl) Try.func6
    (ChangeSpec.witness6 (enc := enc) (C := Try.checked) false ⟨#[], #[.int .i64 0, .slice none 0 0, .slice none 0 0], []⟩ 8 (by kernel_rfl) (by kernel_rfl) (by kernel_rfl) (by kernel_rfl)) ?_
  intro W base args ds gs before hval0 hW hcnd hsz0 _
  have hval : ∀ (j : Nat) t v, Try.f6.params[j]? = some t → args[j]? = some v → Value.okWide Try.prog W .any base t v := hval0
  have hW' := hW
  obtain ⟨p, q, hA0, hV, rfl, hfz, hnd⟩ := hW
  have hA : DataW.TrodAll enc Try.prog W 0 (fun _ => true) true Try.f6.params.toList args.toList ds p := hA0
  rw [Try.params6] at hA hval
  obtain ⟨v0, vs0, d0, ds0, p0, q0, hargs, rfl, rfl, h0, r0⟩ := trodAll_cons hA
  obtain ⟨v1, vs1, d1, ds1, p1, q1, rfl, rfl, rfl, h1, r1⟩ := trodAll_cons r0
  obtain ⟨v2, vs2, d2, ds2, p2, q2, rfl, rfl, rfl, h2, r2⟩ := trodAll_cons r1
  obtain ⟨rfl, rfl, rfl⟩ := trodAll_nil r2
  obtain rfl : args = #[v0, v1, v2] := by cases args; simp_all
  obtain ⟨rfl, rfl⟩ := trodVars_none hV
  have lt0 : ∀ x ∈ p0, x.block < W.heap.size := by obtain ⟨m, hm⟩ := h0; exact DataW.trod_lt m _ _ _ hm
  obtain ⟨x0, K0, o0⟩ : ∃ x, ((Kd.int .i64)).K W x v0.cells.toList ∧ ok3 x := by obtain ⟨m, hm⟩ := h0; exact opens3.2 enc W 0 _ true m _ _ hm
  obtain ⟨z0, e0⟩ := okWide_int Try.underlying3 (hval 0 3 v0 rfl rfl)
  obtain rfl : x0 = z0 := by rw [e0] at K0; have K_ : [Value.int _ z0] = [Value.int _ x0] := K0; injection K_ with K_; injection K_ with _ K_; exact K_.symm
  subst e0
  have lt1 : ∀ x ∈ p1, x.block < W.heap.size := by obtain ⟨m, hm⟩ := h1; exact DataW.trod_lt m _ _ _ hm
  obtain ⟨x1, K1, o1⟩ : ∃ x, ((Kd.slice 3 (Kd.int .i64))).K W x v1.cells.toList ∧ ok34 x := by obtain ⟨m, hm⟩ := h1; exact opens34.2 enc W 0 _ true m _ _ hm
  obtain ⟨a1, len1, cap1, e1⟩ := okWide_slice Try.underlying34 (hval 1 34 v1 rfl rfl)
  obtain ⟨a1_, cap1_, ec1, hc1, hr1⟩ := K1
  rw [e1] at ec1
  have ec1_ : [Value.slice a1 len1 cap1] = [Value.slice a1_ x1.length cap1_] := ec1
  injection ec1_ with ec1_
  obtain ⟨ea1, el1, ek1⟩ : a1 = a1_ ∧ len1 = x1.length ∧ cap1 = cap1_ := by injection ec1_ with e1 e2 e3; exact ⟨e1, e2, e3⟩
  subst ea1 el1 ek1
  subst e1
  have lt2 : ∀ x ∈ p2, x.block < W.heap.size := by obtain ⟨m, hm⟩ := h2; exact DataW.trod_lt m _ _ _ hm
  obtain ⟨x2, K2, o2⟩ : ∃ x, ((Kd.slice 3 (Kd.int .i64))).K W x v2.cells.toList ∧ ok34 x := by obtain ⟨m, hm⟩ := h2; exact opens34.2 enc W 0 _ true m _ _ hm
  obtain ⟨a2, len2, cap2, e2⟩ := okWide_slice Try.underlying34 (hval 2 34 v2 rfl rfl)
  obtain ⟨a2_, cap2_, ec2, hc2, hr2⟩ := K2
  rw [e2] at ec2
  have ec2_ : [Value.slice a2 len2 cap2] = [Value.slice a2_ x2.length cap2_] := ec2
  injection ec2_ with ec2_
  obtain ⟨ea2, el2, ek2⟩ : a2 = a2_ ∧ len2 = x2.length ∧ cap2 = cap2_ := by injection ec2_ with e1 e2 e3; exact ⟨e1, e2, e3⟩
  subst ea2 el2 ek2
  subst e2
  obtain ⟨k, hk⟩ := Pure.LyingCylinders x0 x1 x2 o0 o1 o2
  clear hA0 hval0 hsz0
  refine (K.spilelaw11_LyingCylinders.calls (k := k) (hr1 := hr1) (hc1 := hc1) (hr2 := hr2) (hc2 := hc2) (h := hk)).mono ?_
  rintro e W' ⟨he, bel_⟩
  have bel := bel_
  subst he
  exact ⟨_, rfl, _, _, _, [], _, [], hW', trodAll_mk1 (shut_bool Try.underlying4 _), (trodAll_cons_mk (Below.trod laidOut (by kernel_rfl) (of_decide_eq_true (by kernel_rfl)) h0 bel lt0) (trodAll_cons_mk (Below.trod laidOut (by kernel_rfl) (of_decide_eq_true (by kernel_rfl)) h1 bel lt1) (trodAll_cons_mk (Below.trod laidOut (by kernel_rfl) (of_decide_eq_true (by kernel_rfl)) h2 bel lt2) trodAll_mk0))), rfl, bel.frame _, fun h => by cases h⟩
theorem over : Rows.lyingCylindersRow.holds Try.pinned (OpenSpec.ofChange Rows.lyingCylindersSpec) :=
  OpenClaim.holds_of_wide 6 Try.f6 rfl rfl rfl rfl rfl rfl rfl ⟨rfl, rfl, rfl, rfl, rfl⟩ rfl rfl rfl rfl rfl (by kernel_rfl) Try.func6 (by kernel_rfl)
    (of_decide_eq_true (by kernel_rfl)) (by unfold Func.isWrapper; first | (rw [if_pos (by decide +kernel)]; kernel_rfl) | (rw [if_neg (by decide +kernel)]; exact ⟨rfl, rfl⟩))
    (fun os started H enc _ => lifted os started H enc)
theorem proved : Rows.LyingCylindersSaid := over
#print axioms proved
end Go.Proofs.Ytefjmcljkmppoaa.lyingCylinders
namespace Go.Proofs.Ytefjmcljkmppoaa
/-- The row, under a short name, for the claim. -/
theorem lyingCylinders_holds : Rows.LyingCylindersSaid := lyingCylinders.proved
end Go.Proofs.Ytefjmcljkmppoaa
