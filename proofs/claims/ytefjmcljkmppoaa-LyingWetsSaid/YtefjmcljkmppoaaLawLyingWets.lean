-- PRINTED by row.py: the row of the law LyingWets, out of its Pure and the walk's contract.
import Derived.Test.YtefjmcljkmppoaaRows
import Derived.Test.YtefjmcljkmppoaaK19
import Derived.Test.YtefjmcljkmppoaaSayLyingWets
import Derived.Test.YtefjmcljkmppoaaROpenLyingWets
import Derived.Test.YtefjmcljkmppoaaPureLyingWets
import Derived.WalkKit
import Derived.ProofKit
import Derived.OpenShut
import Derived.ShutString
import Derived.ChangeOld
import Derived.Below
import Derived.Carry
import Derived.SizedLaws
namespace Go.Proofs.Ytefjmcljkmppoaa.lyingWets
open Go.ChangeShapes Go.WideShapes Go.ChangeAt Go.RowKit Go.Proofs.YtefjmcljkmppoaaW.PrintWords Go.Proofs.Ytefjmcljkmppoaa.GRow Go.Proofs.Ytefjmcljkmppoaa.K
open Go.ChangeMaps (open_string shut_string)
set_option linter.unusedVariables false
theorem own : ownKnob Try.prog.godebug = none := by kernel_rfl
theorem laidOut : laidOutB Try.prog = true := by kernel_rfl
set_option maxHeartbeats 4000000 in
set_option maxRecDepth 100000 in
theorem lifted (os : Os) (started : os.Started) (H : Type) (enc : TypeId × Value → H) :
    ReturnsInHanded {} Try.checked os 3 .any (Rows.lyingWetsSpec.pre6 enc Try.prog Try.f3 Rows.lyingWetsRow.domain false) (Rows.lyingWetsSpec.post enc Try.prog Try.f3 false true false false) := by
  refine returnsInHanded_of_change_sized (C := Try.checked) own started (by kernel_rfl) Try.func3
    (ChangeSpec.witness6 (enc := enc) (C := Try.checked) false ⟨#[], #[.agg #[.string ByteArray.empty, .int .i64 0, .slice none 0 0, .int .i64 0], .int .i64 0, .int .i64 0, .int .i64 0], []⟩ 8 (by kernel_rfl) (by kernel_rfl) (by kernel_rfl) (by kernel_rfl)) ?_
  intro W base args ds gs before hval0 hW hcnd hsz0 _
  have hval : ∀ (j : Nat) t v, Try.f3.params[j]? = some t → args[j]? = some v → Value.okWide Try.prog W .any base t v := hval0
  have hW' := hW
  obtain ⟨p, q, hA0, hV, rfl, hfz, hnd⟩ := hW
  have hA : DataW.TrodAll enc Try.prog W 0 (fun _ => true) true Try.f3.params.toList args.toList ds p := hA0
  rw [Try.params3] at hA hval
  obtain ⟨v0, vs0, d0, ds0, p0, q0, hargs, rfl, rfl, h0, r0⟩ := trodAll_cons hA
  obtain ⟨v1, vs1, d1, ds1, p1, q1, rfl, rfl, rfl, h1, r1⟩ := trodAll_cons r0
  obtain ⟨v2, vs2, d2, ds2, p2, q2, rfl, rfl, rfl, h2, r2⟩ := trodAll_cons r1
  obtain ⟨v3, vs3, d3, ds3, p3, q3, rfl, rfl, rfl, h3, r3⟩ := trodAll_cons r2
  obtain ⟨rfl, rfl, rfl⟩ := trodAll_nil r3
  obtain rfl : args = #[v0, v1, v2, v3] := by cases args; simp_all
  obtain ⟨rfl, rfl⟩ := trodVars_none hV
  have lt0 : ∀ x ∈ p0, x.block < W.heap.size := by obtain ⟨m, hm⟩ := h0; exact DataW.trod_lt m _ _ _ hm
  obtain ⟨x0, K0, o0⟩ : ∃ x, (k24).K W x v0.cells.toList ∧ ok24 x := by obtain ⟨m, hm⟩ := h0; exact opens24.2 enc W 0 _ true m _ _ hm
  obtain ⟨cs0, e0, _⟩ := okWide_struct Try.underlying24 (hval 0 24 v0 rfl rfl)
  rw [e0] at K0
  obtain ⟨A0_2, c0_2, K0_, hc0_2, hr0_2⟩ := k24_open K0
  have E0 : cs0 = #[.string x0.f0, .int .i64 x0.f1, .slice A0_2 x0.f2.length c0_2, .int .i64 x0.f3] := by have z_ : cs0.toList = [.string x0.f0, .int .i64 x0.f1, .slice A0_2 x0.f2.length c0_2, .int .i64 x0.f3] := K0_; rw [← Array.toArray_toList (xs := cs0), z_]
  subst E0
  subst e0
  have lt1 : ∀ x ∈ p1, x.block < W.heap.size := by obtain ⟨m, hm⟩ := h1; exact DataW.trod_lt m _ _ _ hm
  obtain ⟨x1, K1, o1⟩ : ∃ x, ((Kd.int .i64)).K W x v1.cells.toList ∧ ok3 x := by obtain ⟨m, hm⟩ := h1; exact opens3.2 enc W 0 _ true m _ _ hm
  obtain ⟨z1, e1⟩ := okWide_int Try.underlying3 (hval 1 3 v1 rfl rfl)
  obtain rfl : x1 = z1 := by rw [e1] at K1; have K_ : [Value.int _ z1] = [Value.int _ x1] := K1; injection K_ with K_; injection K_ with _ K_; exact K_.symm
  subst e1
  have lt2 : ∀ x ∈ p2, x.block < W.heap.size := by obtain ⟨m, hm⟩ := h2; exact DataW.trod_lt m _ _ _ hm
  obtain ⟨x2, K2, o2⟩ : ∃ x, ((Kd.int .i64)).K W x v2.cells.toList ∧ ok3 x := by obtain ⟨m, hm⟩ := h2; exact opens3.2 enc W 0 _ true m _ _ hm
  obtain ⟨z2, e2⟩ := okWide_int Try.underlying3 (hval 2 3 v2 rfl rfl)
  obtain rfl : x2 = z2 := by rw [e2] at K2; have K_ : [Value.int _ z2] = [Value.int _ x2] := K2; injection K_ with K_; injection K_ with _ K_; exact K_.symm
  subst e2
  have lt3 : ∀ x ∈ p3, x.block < W.heap.size := by obtain ⟨m, hm⟩ := h3; exact DataW.trod_lt m _ _ _ hm
  obtain ⟨x3, K3, o3⟩ : ∃ x, ((Kd.int .i64)).K W x v3.cells.toList ∧ ok3 x := by obtain ⟨m, hm⟩ := h3; exact opens3.2 enc W 0 _ true m _ _ hm
  obtain ⟨z3, e3⟩ := okWide_int Try.underlying3 (hval 3 3 v3 rfl rfl)
  obtain rfl : x3 = z3 := by rw [e3] at K3; have K_ : [Value.int _ z3] = [Value.int _ x3] := K3; injection K_ with K_; injection K_ with _ K_; exact K_.symm
  subst e3
  obtain ⟨k, hk⟩ := Pure.LyingWets x0 x1 x2 x3 o0 o1 o2 o3
  clear hA0 hval0 hsz0
  refine (K.spilelaw11_LyingWets.calls (k := k) (hr0_2 := hr0_2) (hc0_2 := hc0_2) (h := hk)).mono ?_
  rintro e W' ⟨he, bel_⟩
  have bel := bel_
  subst he
  exact ⟨_, rfl, _, _, _, [], _, [], hW', trodAll_mk1 (shut_bool Try.underlying4 _), (trodAll_cons_mk (Below.trod laidOut (by kernel_rfl) (of_decide_eq_true (by kernel_rfl)) h0 bel lt0) (trodAll_cons_mk (Below.trod laidOut (by kernel_rfl) (of_decide_eq_true (by kernel_rfl)) h1 bel lt1) (trodAll_cons_mk (Below.trod laidOut (by kernel_rfl) (of_decide_eq_true (by kernel_rfl)) h2 bel lt2) (trodAll_cons_mk (Below.trod laidOut (by kernel_rfl) (of_decide_eq_true (by kernel_rfl)) h3 bel lt3) trodAll_mk0)))), rfl, bel.frame _, fun h => by cases h⟩
theorem over : Rows.lyingWetsRow.holds Try.pinned (OpenSpec.ofChange Rows.lyingWetsSpec) :=
  OpenClaim.holds_of_wide 3 Try.f3 rfl rfl rfl rfl rfl rfl rfl ⟨rfl, rfl, rfl, rfl, rfl⟩ rfl rfl rfl rfl rfl (by kernel_rfl) Try.func3 (by kernel_rfl)
    (of_decide_eq_true (by kernel_rfl)) (by unfold Func.isWrapper; first | (rw [if_pos (by decide +kernel)]; kernel_rfl) | (rw [if_neg (by decide +kernel)]; exact ⟨rfl, rfl⟩))
    (fun os started H enc _ => lifted os started H enc)
theorem proved : Rows.LyingWetsSaid := over
#print axioms proved
end Go.Proofs.Ytefjmcljkmppoaa.lyingWets
namespace Go.Proofs.Ytefjmcljkmppoaa
/-- The row, under a short name, for the claim. -/
theorem lyingWets_holds : Rows.LyingWetsSaid := lyingWets.proved
end Go.Proofs.Ytefjmcljkmppoaa
