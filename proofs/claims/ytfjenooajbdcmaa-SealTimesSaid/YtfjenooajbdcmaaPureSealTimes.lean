/- By hand: the plain law of SealTimes. -/
import Derived.Test.YtfjenooajbdcmaaSaySealTimes
import Derived.Test.YtfjenooajbdcmaaPAwake
import Derived.Test.YtfjenooajbdcmaaPSeal
namespace Go.Proofs.Ytfjenooajbdcmaa.K
open Go Go.RowKit Go.Proofs.YtfjenooajbdcmaaW.PrintWords Go.Proofs.Ytfjenooajbdcmaa.GM
set_option linter.unusedVariables false
set_option linter.unusedSimpArgs false
theorem ok_all {l : List S34} (h : ok22 l) : l.all wf34 = true := List.all_eq_true.2 fun x hx => (h.2 x hx).2.2.1
theorem short_f (a b c : Int) : ∃ v, spilelaw39_short.f a b c = some v := by
  unfold spilelaw39_short.f
  repeat' split
  all_goals exact ⟨_, rfl⟩
theorem few_f (l : List S34) : ∃ u, spileref39_Few.f l = some u ∧ (u = true → l.length ≤ 129) := by
  unfold spileref39_Few.f
  by_cases c : (l.length : Int) ≤ 20
  · rw [if_pos c]
    exact ⟨true, rfl, fun _ => by omega⟩
  · rw [if_neg c]
    exact ⟨_, rfl, fun h => by have := beq_iff_eq.1 h; omega⟩
theorem times_pure : SealTimesPure := by
  intro l t hl ht
  refine Ev.one (g := fun k => spilelaw39_SealTimes.f k l t.f0 t.f1 t.f2) ?_
  unfold spilelaw39_SealTimes.f
  refine Ev.bind awake_ev ?_
  simp only [if_true]
  have out : Ev (fun k => spilelaw39_SealTimes.j0 k l true t.f0 t.f1 t.f2) true := Ev.succ (Ev.const _) (fun k => by rw [spilelaw39_SealTimes.j0, if_pos rfl])
  have hw := ok_all hl
  obtain ⟨v, hv⟩ := short_f t.f0 t.f1 t.f2
  have main : l.length ≤ 129 → Ev (fun k => spilelaw39_SealTimes.j0 k l false t.f0 t.f1 t.f2) true := by
    intro h129
    refine Ev.shift ?_
    simp only [spilelaw39_SealTimes.j0, if_neg (show ¬ false = true by decide)]
    simp only [clone_f h129, Option.bind_some, int_f hw, unb_f hw, opn_f hw]
    refine Ev.bind (Intact_ref l (by omega) t.f0 t.f1) ?_
    refine Ev.bind (Unb_ref l (by omega) t.f0 t.f1 t.f2) ?_
    refine Ev.bind (Open_ref l (by omega) t.f0 t.f1 t.f2) ?_
    refine Ev.bind (same33 _ ?_) ?_
    · split
      · have := intactL_len l t.f0 t.f1 (by omega)
        simp only
        omega
      · simp
    · simp only [if_true, beq_self_eq_true]
      exact Ev.const _
  obtain ⟨u, hu, hu2⟩ := few_f l
  simp only [hu, Option.bind_some]
  cases u with
  | false => simpa using out
  | true =>
    simp only [if_true, hv, Option.bind_some]
    cases v with
    | true => exact main (hu2 rfl)
    | false => exact out
end Go.Proofs.Ytfjenooajbdcmaa.K
namespace Go.Proofs.Ytfjenooajbdcmaa.Pure
theorem SealTimes : K.SealTimesPure := K.times_pure
end Go.Proofs.Ytfjenooajbdcmaa.Pure
