/- By hand: slices.ContainsFunc of findings at SuspectRenamed's predicate: whether a number is greater than 2 to the 20. -/
import Derived.Test.YtfhmjleimampeaaGDf
import Derived.Test.YtfhmjleimampeaaK0
import Derived.Test.YtfhmjleimampeaaGShort
namespace Go.Proofs.Ytfhmjleimampeaa.K
open Go Go.RowKit Go.Proofs.YtfhmjleimampeaaW.PrintWords Go.Proofs.YtfhmjleimampeaaW.PrintLast Go.Proofs.YtfhmjleimampeaaW.PrintMore Go.Proofs.Ytfhmjleimampeaa.GW
set_option linter.unusedVariables false
set_option linter.unusedSimpArgs false
def bigB (x : S30) : Bool := decide (1048576 < x.f1) || decide (1048576 < x.f2)
def big27.f (l : List S30) : Option Bool := some (l.any bigB)
theorem idxF_any (p : S30 → Bool) (xs : List S30) : decide (idxF p xs ≥ 0) = xs.any p := by
  unfold idxF
  cases h : xs.findIdx? p with
  | none =>
    rw [List.findIdx?_eq_none_iff] at h
    have : xs.any p = false := by
      rw [List.any_eq_false]
      intro x hx
      simp [h x hx]
    rw [this]
    rfl
  | some i =>
    rw [List.findIdx?_eq_some_iff_getElem] at h
    obtain ⟨hi, hp, _⟩ := h
    have : xs.any p = true := List.any_eq_true.2 ⟨xs[i], List.getElem_mem hi, hp⟩
    rw [this]
    simp
set_option maxHeartbeats 1000000 in
theorem clo28 (x : S30) (W : World) : Calls Try.prog 28 #[.agg #[.int .i64 x.f0, .int .i64 x.f1, .int .i64 x.f2, .int .i64 x.f3]] W fun e w' => e = .returned (.bool (bigB x)) ∧ Below W.heap.size W w' := by
  unfold bigB
  by_cases c : 1048576 < x.f1
  · have b1 : decide (1048576 < x.f1) = true := decide_eq_true c
    clear c
    rw [b1, Bool.true_or]
    go_enter Try.func28, Try.ntmps28
    go_wp2
    go_ret
    exact ⟨rfl, GS.lB (Below.refl _ _)⟩
  · have b1 : decide (1048576 < x.f1) = false := decide_eq_false c
    clear c
    rw [b1, Bool.false_or]
    go_enter Try.func28, Try.ntmps28
    go_wp2
    go_ret
    exact ⟨rfl, GS.lB (Below.refl _ _)⟩
set_option maxHeartbeats 1000000 in
theorem big27.calls (A0 : Option Addr) (c0 : Nat) (l0 : List S30) (r : Bool) (w : World) (hr0 : Kd.C k30 w A0 l0.length l0) (hc0 : l0.length ≤ c0) (h : big27.f l0 = some r) :
    Calls Try.prog 27 #[.slice A0 l0.length c0, .func (.func 28) #[] #[]] w fun e w' => e = .returned (.bool r) ∧ Below w.heap.size w w' := by
  obtain rfl := Option.some.inj h
  have HI := Aside0.mk (idx54 28 #[] (fun args w => enters_ Try.func28 (by kernel_rfl) rfl args w) bigB A0 c0 l0 w hr0 (fun W x _ => clo28 x W))
  have HA := Aside0.mk (idxF_any bigB l0)
  clear hr0 hc0 h
  go_enter Try.func27, Try.ntmps27
  go_wp2_with (first | ((with_reducible show Calls Try.prog 54 _ _ _); refine HI.out.mono ?_; rintro e w2 ⟨rfl, hb⟩; have HB := Aside0.mk hb; clear hb))
  go_ret
  exact ⟨by rw [← HA.out]; rfl, HB.out⟩
end Go.Proofs.Ytfhmjleimampeaa.K
