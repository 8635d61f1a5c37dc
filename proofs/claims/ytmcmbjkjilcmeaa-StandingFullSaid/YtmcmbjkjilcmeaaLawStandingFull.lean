-- PRINTED by row.py: the row of the law StandingFull, out of its Pure and the walk's contract.
import Derived.Test.YtmcmbjkjilcmeaaRows
import Derived.Test.YtmcmbjkjilcmeaaK28
import Derived.Test.YtmcmbjkjilcmeaaSayStandingFull
import Derived.Test.YtmcmbjkjilcmeaaROpenStandingFull
import Derived.Test.YtmcmbjkjilcmeaaPureStandingFull
import Derived.WalkKit
import Derived.ProofKit
import Derived.OpenShut
import Derived.ShutString
import Derived.ChangeOld
import Derived.Below
import Derived.Carry
import Derived.SizedLaws
namespace Go.Proofs.Ytmcmbjkjilcmeaa.standingFull
open Go.ChangeShapes Go.WideShapes Go.ChangeAt Go.RowKit Go.Proofs.YtmcmbjkjilcmeaaW.PrintWords Go.Proofs.Ytmcmbjkjilcmeaa.GRow Go.Proofs.Ytmcmbjkjilcmeaa.K
open Go.ChangeMaps (open_string shut_string)
set_option linter.unusedVariables false
theorem own : ownKnob Try.prog.godebug = none := by kernel_rfl
theorem laidOut : laidOutB Try.prog = true := by kernel_rfl
set_option maxHeartbeats 4000000 in
set_option maxRecDepth 100000 in
theorem lifted (os : Os) (started : os.Started) (H : Type) (enc : TypeId × Value → H) :
    ReturnsInHanded {} Try.checked os 8 .any (Rows.standingFullSpec.pre6 enc Try.prog Try.f8 Rows.standingFullRow.domain false) (Rows.standingFullSpec.post enc Try.prog Try.f8 false true false false) := by
  refine returnsInHanded_of_change_sized (C := Try.checked) own started (by kernel_rfl) Try.func8
    (ChangeSpec.witness6 (enc := enc) (C := Try.checked) false ⟨#[], #[.agg #[.string ByteArray.empty, .int .i64 0, .slice none 0 0, .int .i64 0], .int .i64 0], []⟩ 8 (by kernel_rfl) (by kernel_rfl) (by kernel_rfl) (by kernel_rfl)) ?_
  intro W base args ds gs before hval0 hW hcnd hsz0 _
  have hval : ∀ (j : Nat) t v, Try.f8.params[j]? = some t → args[j]? = some v → Value.okWide Try.prog W .any base t v := hval0
  have hW' := hW
  obtain ⟨p, q, hA0, hV, rfl, hfz, hnd⟩ := hW
  have hA : DataW.TrodAll enc Try.prog W 0 (fun _ => true) true Try.f8.params.toList args.toList ds p := hA0
  rw [Try.params8] at hA hval
  obtain ⟨v0, vs0, d0, ds0, p0, q0, hargs, rfl, rfl, h0, r0⟩ := trodAll_cons hA
  obtain ⟨v1, vs1, d1, ds1, p1, q1, rfl, rfl, rfl, h1, r1⟩ := trodAll_cons r0
  obtain ⟨rfl, rfl, rfl⟩ := trodAll_nil r1
  obtain rfl : args = #[v0, v1] := by cases args; simp_all
  obtain ⟨rfl, rfl⟩ := trodVars_none hV
  have lt0 : ∀ x ∈ p0, x.block < W.heap.size := by obtain ⟨m, hm⟩ := h0; exact DataW.trod_lt m _ _ _ hm
  obtain ⟨x0, K0, o0⟩ : ∃ x, (k24).K W x v0.cells.toList ∧ ok24 x := by obtain ⟨m, hm⟩ := h0; exact opens24.2 enc W 0 _ true m _ _ hm
  obtain ⟨cs0, e0, _⟩ := okWide_struct Try.underlying24 (hval 0 24 v0 rfl rfl)
  rw [e0] at K0
  obtain ⟨A0_2, c0_2, K0_, hc0_2, hr0_2⟩ := k24_open K0
  have E0 : cs0 = #[.string x0.f0, .int .i64 x0.f1, .slice A0_2 x0.f2.length c0_2, .int .i64 x0.f3] := by have z_ : cs0.toList = [.string x0.f0, .int .i64 x0.f1, .slice A0_2 x0.f2.length c0_2, .int .i64 x0.f3] := K0_; rw [← Array.toArray_toList (xs := cs0), z_]
  subst E0
  subst e0
  have lt1 : ∀ x ∈ p1, x.block < W.heap.size := by obtain ⟨m, hm⟩ := h1; exact DataW.trod_lt m _ _ _ hm
  obtain ⟨x1, K1, o1⟩ : ∃ x, ((Kd.int .i64)).K W x v1.cells.toList ∧ ok3 x := by obtain ⟨m, hm⟩ := h1; exact opens3.2 enc W 0 _ true m _ _ hm
  obtain ⟨z1, e1⟩ := okWide_int Try.underlying3 (hval 1 3 v1 rfl rfl)
  obtain rfl : x1 = z1 := by rw [e1] at K1; have K_ : [Value.int _ z1] = [Value.int _ x1] := K1; injection K_ with K_; injection K_ with _ K_; exact K_.symm
  subst e1
  obtain ⟨k, hk⟩ := Pure.StandingFull x0 x1 o0 o1
  clear hA0 hval0 hsz0
  refine (K.spilelaw12_StandingFull.calls (k := k) (hr0_2 := hr0_2) (hc0_2 := hc0_2) (h := hk)).mono ?_
  rintro e W' ⟨he, bel_⟩
  have bel := bel_
  subst he
  exact ⟨_, rfl, _, _, _, [], _, [], hW', trodAll_mk1 (shut_bool Try.underlying4 _), (trodAll_cons_mk (Below.trod laidOut (by kernel_rfl) (of_decide_eq_true (by kernel_rfl)) h0 bel lt0) (trodAll_cons_mk (Below.trod laidOut (by kernel_rfl) (of_decide_eq_true (by kernel_rfl)) h1 bel lt1) trodAll_mk0)), rfl, bel.frame _, fun h => by cases h⟩
theorem over : Rows.standingFullRow.holds Try.pinned (OpenSpec.ofChange Rows.standingFullSpec) :=
  OpenClaim.holds_of_wide 8 Try.f8 rfl rfl rfl rfl rfl rfl rfl ⟨rfl, rfl, rfl, rfl, rfl⟩ rfl rfl rfl rfl rfl (by kernel_rfl) Try.func8 (by kernel_rfl)
    (of_decide_eq_true (by kernel_rfl)) (by unfold Func.isWrapper; first | (rw [if_pos (by decide +kernel)]; kernel_rfl) | (rw [if_neg (by decide +kernel)]; exact ⟨rfl, rfl⟩))
    (fun os started H enc _ => lifted os started H enc)
theorem proved : Rows.StandingFullSaid := over
#print axioms proved
end Go.Proofs.Ytmcmbjkjilcmeaa.standingFull
namespace Go.Proofs.Ytmcmbjkjilcmeaa
/-- The row, under a short name, for the claim. -/
theorem standingFull_holds : Rows.StandingFullSaid := standingFull.proved
end Go.Proofs.Ytmcmbjkjilcmeaa
