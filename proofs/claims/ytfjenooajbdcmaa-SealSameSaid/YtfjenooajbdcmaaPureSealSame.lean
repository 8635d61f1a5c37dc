/- By hand: the plain law of SealSame. -/
import Derived.Test.YtfjenooajbdcmaaSaySealSame
import Derived.Test.YtfjenooajbdcmaaPMem
namespace Go.Proofs.Ytfjenooajbdcmaa.K
open Go Go.RowKit Go.Proofs.YtfjenooajbdcmaaW.PrintWords Go.Proofs.Ytfjenooajbdcmaa.GM
set_option linter.unusedVariables false
set_option linter.unusedSimpArgs false
theorem same_both (l : List S34) (place : Int) {fr tt : Int} (h : fr ≤ tt) : ubM l place fr tt = (intactL l place fr).any (hasI (intactL l place tt)) := by
  cases hc : ubM l place fr tt with
  | true =>
    obtain ⟨z, hz, hs⟩ := List.any_eq_true.1 hc
    obtain ⟨s, hs, hu⟩ : ∃ s, ownP l place z = some s ∧ ubS fr tt s = true := by
      cases ho : ownP l place z with
      | none => rw [ho] at hs; cases hs
      | some s => rw [ho] at hs; exact ⟨s, rfl, hs⟩
    simp [ubS] at hu
    exact (List.any_eq_true.2 ⟨z, (mem_own _ _ _ _).2 ⟨s, hs, by omega, by omega⟩, (hasI_iff _ _).2 ((mem_own _ _ _ _).2 ⟨s, hs, by omega, by omega⟩)⟩).symm
  | false =>
    refine (List.any_eq_false.2 fun z hz hb => ?_).symm
    obtain ⟨s, hs, h1, h2⟩ := (mem_own _ _ _ _).1 hz
    obtain ⟨t, ht, h3, h4⟩ := (mem_own _ _ _ _).1 ((hasI_iff _ _).1 hb)
    rw [hs] at ht
    injection ht with ht
    subst ht
    have := ubM_true (fr := fr) (tt := tt) hs (by simp [ubS]; omega)
    rw [hc] at this
    cases this
theorem same_pure : SealSamePure := by
  intro l t hl ht
  refine Ev.one (g := fun k => spilelaw39_SealSame.f k l t.f0 t.f1 t.f2) ?_
  unfold spilelaw39_SealSame.f
  refine Ev.bind awake_ev ?_
  simp only [if_true]
  have hw := ok_of (fun x hx => (hl.2 x hx).2.2.1)
  have out : Ev (fun k => spilelaw39_SealSame.j0 k l true t.f0 t.f1 t.f2) true := Ev.succ (Ev.const _) (fun k => by rw [spilelaw39_SealSame.j0, if_pos rfl])
  by_cases c : (l.length : Int) > 20
  · simp only [if_pos c]
    exact out
  · simp only [if_neg c]
    obtain ⟨v, hv⟩ : ∃ v, spilelaw39_short.f t.f0 t.f1 t.f2 = some v := by
      unfold spilelaw39_short.f
      repeat' split
      all_goals exact ⟨_, rfl⟩
    simp only [hv, Option.bind_some]
    cases v with
    | false => exact out
    | true =>
      refine Ev.succ (Ev.const _) (fun k => ?_)
      simp only [Bool.not_true]
      rw [spilelaw39_SealSame.j0, if_neg (by decide)]
      simp only [clone_f (show l.length ≤ 129 by omega), Option.bind_some, unb_f hw, int_f hw]
      by_cases ha : askE l t.f0 [t.f1, t.f2] = 0
      · have hd := ask_days ha
        rw [if_pos ha]
        by_cases hft : t.f1 > t.f2
        · rw [if_pos hft]
          rfl
        · rw [if_neg hft, ask_one (c := t.f1) ha (by omega), ask_one (c := t.f2) ha (by omega)]
          simp only [if_true, contB.f, Option.bind_some]
          rw [← same_both l t.f0 (show t.f1 ≤ t.f2 by omega)]
          simp
      · rw [if_neg ha]
        simp only [if_neg ha]
        rfl
end Go.Proofs.Ytfjenooajbdcmaa.K
namespace Go.Proofs.Ytfjenooajbdcmaa.Pure
theorem SealSame : K.SealSamePure := K.same_pure
end Go.Proofs.Ytfjenooajbdcmaa.Pure
