-- PRINTED by row.py: the row of the law SuspectLimits, out of its Pure and the walk's contract.
import Derived.Test.YtfhmjleimampeaaRows
import Derived.Test.YtfhmjleimampeaaK28
import Derived.Test.YtfhmjleimampeaaSaySuspectLimits
import Derived.Test.YtfhmjleimampeaaROpenSuspectLimits
import Derived.Test.YtfhmjleimampeaaPureSuspectLimits
import Derived.WalkKit
import Derived.ProofKit
import Derived.OpenShut
import Derived.ShutString
import Derived.ChangeOld
import Derived.Below
import Derived.Carry
import Derived.SizedLaws
namespace Go.Proofs.Ytfhmjleimampeaa.suspectLimits
open Go.ChangeShapes Go.WideShapes Go.ChangeAt Go.RowKit Go.Proofs.YtfhmjleimampeaaW.PrintWords Go.Proofs.Ytfhmjleimampeaa.GRow Go.Proofs.Ytfhmjleimampeaa.K
open Go.ChangeMaps (open_string shut_string)
set_option linter.unusedVariables false
theorem own : ownKnob Try.prog.godebug = none := by kernel_rfl
theorem laidOut : laidOutB Try.prog = true := by kernel_rfl
set_option maxHeartbeats 4000000 in
set_option maxRecDepth 100000 in
theorem lifted (os : Os) (started : os.Started) (H : Type) (enc : TypeId × Value → H) :
    ReturnsInHanded {} Try.checked os 9 .any (Rows.suspectLimitsSpec.pre6 enc Try.prog Try.f9 Rows.suspectLimitsRow.domain false) (Rows.suspectLimitsSpec.post enc Try.prog Try.f9 false true false false) := by
  refine returnsInHanded_of_change_sized (C := Try.checked) own started (by kernel_rfl) Try.func9
    (ChangeSpec.witness6 (enc := enc) (C := Try.checked) false ⟨#[], #[.slice none 0 0, .int .i64 0, .agg #[.int .i64 0, .int .i64 0]], []⟩ 8 (by kernel_rfl) (by kernel_rfl) (by kernel_rfl) (by kernel_rfl)) ?_
  intro W base args ds gs before hval0 hW hcnd hsz0 _
  have hval : ∀ (j : Nat) t v, Try.f9.params[j]? = some t → args[j]? = some v → Value.okWide Try.prog W .any base t v := hval0
  have hW' := hW
  obtain ⟨p, q, hA0, hV, rfl, hfz, hnd⟩ := hW
  have hA : DataW.TrodAll enc Try.prog W 0 (fun _ => true) true Try.f9.params.toList args.toList ds p := hA0
  rw [Try.params9] at hA hval
  obtain ⟨v0, vs0, d0, ds0, p0, q0, hargs, rfl, rfl, h0, r0⟩ := trodAll_cons hA
  obtain ⟨v1, vs1, d1, ds1, p1, q1, rfl, rfl, rfl, h1, r1⟩ := trodAll_cons r0
  obtain ⟨v2, vs2, d2, ds2, p2, q2, rfl, rfl, rfl, h2, r2⟩ := trodAll_cons r1
  obtain ⟨rfl, rfl, rfl⟩ := trodAll_nil r2
  obtain rfl : args = #[v0, v1, v2] := by cases args; simp_all
  obtain ⟨rfl, rfl⟩ := trodVars_none hV
  have lt0 : ∀ x ∈ p0, x.block < W.heap.size := by obtain ⟨m, hm⟩ := h0; exact DataW.trod_lt m _ _ _ hm
  obtain ⟨x0, K0, o0⟩ : ∃ x, ((Kd.slice 30 k30)).K W x v0.cells.toList ∧ ok22 x := by obtain ⟨m, hm⟩ := h0; exact opens22.2 enc W 0 _ true m _ _ hm
  obtain ⟨a0, len0, cap0, e0⟩ := okWide_slice Try.underlying22 (hval 0 22 v0 rfl rfl)
  obtain ⟨a0_, cap0_, ec0, hc0, hr0⟩ := K0
  rw [e0] at ec0
  have ec0_ : [Value.slice a0 len0 cap0] = [Value.slice a0_ x0.length cap0_] := ec0
  injection ec0_ with ec0_
  obtain ⟨ea0, el0, ek0⟩ : a0 = a0_ ∧ len0 = x0.length ∧ cap0 = cap0_ := by injection ec0_ with e1 e2 e3; exact ⟨e1, e2, e3⟩
  subst ea0 el0 ek0
  subst e0
  have lt1 : ∀ x ∈ p1, x.block < W.heap.size := by obtain ⟨m, hm⟩ := h1; exact DataW.trod_lt m _ _ _ hm
  obtain ⟨x1, K1, o1⟩ : ∃ x, ((Kd.int .i64)).K W x v1.cells.toList ∧ ok3 x := by obtain ⟨m, hm⟩ := h1; exact opens3.2 enc W 0 _ true m _ _ hm
  obtain ⟨z1, e1⟩ := okWide_int Try.underlying3 (hval 1 3 v1 rfl rfl)
  obtain rfl : x1 = z1 := by rw [e1] at K1; have K_ : [Value.int _ z1] = [Value.int _ x1] := K1; injection K_ with K_; injection K_ with _ K_; exact K_.symm
  subst e1
  have lt2 : ∀ x ∈ p2, x.block < W.heap.size := by obtain ⟨m, hm⟩ := h2; exact DataW.trod_lt m _ _ _ hm
  obtain ⟨x2, K2, o2⟩ : ∃ x, (k42).K W x v2.cells.toList ∧ ok42 x := by obtain ⟨m, hm⟩ := h2; exact opens42.2 enc W 0 _ true m _ _ hm
  obtain ⟨cs2, e2, _⟩ := okWide_array Try.underlying42 (hval 2 42 v2 rfl rfl)
  rw [e2] at K2
  have K2_ := k42_open K2
  have E2 : cs2 = #[.int .i64 x2.f0, .int .i64 x2.f1] := by have z_ : cs2.toList = [.int .i64 x2.f0, .int .i64 x2.f1] := K2_; rw [← Array.toArray_toList (xs := cs2), z_]
  subst E2
  subst e2
  obtain ⟨k, hk⟩ := Pure.SuspectLimits x0 x1 x2 o0 o1 o2
  clear hA0 hval0 hsz0
  refine (K.spilelaw34_SuspectLimits.calls (k := k) (hr0 := hr0) (hc0 := hc0) (h := hk)).mono ?_
  rintro e W' ⟨he, bel_⟩
  have bel := bel_
  subst he
  exact ⟨_, rfl, _, _, _, [], _, [], hW', trodAll_mk1 (shut_bool Try.underlying4 _), (trodAll_cons_mk (Below.trod laidOut (by kernel_rfl) (of_decide_eq_true (by kernel_rfl)) h0 bel lt0) (trodAll_cons_mk (Below.trod laidOut (by kernel_rfl) (of_decide_eq_true (by kernel_rfl)) h1 bel lt1) (trodAll_cons_mk (Below.trod laidOut (by kernel_rfl) (of_decide_eq_true (by kernel_rfl)) h2 bel lt2) trodAll_mk0))), rfl, bel.frame _, fun h => by cases h⟩
theorem over : Rows.suspectLimitsRow.holds Try.pinned (OpenSpec.ofChange Rows.suspectLimitsSpec) :=
  OpenClaim.holds_of_wide 9 Try.f9 rfl rfl rfl rfl rfl rfl rfl ⟨rfl, rfl, rfl, rfl, rfl⟩ rfl rfl rfl rfl rfl (by kernel_rfl) Try.func9 (by kernel_rfl)
    (of_decide_eq_true (by kernel_rfl)) (by unfold Func.isWrapper; first | (rw [if_pos (by decide +kernel)]; kernel_rfl) | (rw [if_neg (by decide +kernel)]; exact ⟨rfl, rfl⟩))
    (fun os started H enc _ => lifted os started H enc)
theorem proved : Rows.SuspectLimitsSaid := over
#print axioms proved
end Go.Proofs.Ytfhmjleimampeaa.suspectLimits
namespace Go.Proofs.Ytfhmjleimampeaa
/-- The row, under a short name, for the claim. -/
theorem suspectLimits_holds : Rows.SuspectLimitsSaid := suspectLimits.proved
end Go.Proofs.Ytfhmjleimampeaa
