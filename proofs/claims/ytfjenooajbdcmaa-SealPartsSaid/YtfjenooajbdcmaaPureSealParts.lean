/- By hand: the plain law of SealParts. -/
import Derived.Test.YtfjenooajbdcmaaSaySealParts
import Derived.Test.YtfjenooajbdcmaaPAwake
namespace Go.Proofs.Ytfjenooajbdcmaa.K
open Go Go.RowKit Go.Proofs.YtfjenooajbdcmaaW.PrintWords Go.Proofs.Ytfjenooajbdcmaa.GM
set_option linter.unusedVariables false
theorem opn_succ (p : Int → Bool) (d : Int) (k : Nat) : opn p d (k + 1) = (if p d = true then 0 else 1) + opn p (d + 1) k := rfl
theorem opn_add (p : Int → Bool) : ∀ (a b : Nat) (d : Int), opn p d (a + b) = opn p d a + opn p (d + a) b
  | 0, b, d => by simp [opn]
  | a + 1, b, d => by
    have ih := opn_add p a b (d + 1)
    rw [show a + 1 + b = (a + b) + 1 by omega]
    rw [opn_succ, opn_succ, ih, show d + 1 + (a : Int) = d + ((a + 1 : Nat) : Int) by omega]
    omega
theorem opn_zero (p : Int → Bool) : ∀ (a : Nat) (d : Int), (∀ x, d ≤ x → x < d + a → p x = true) → opn p d a = 0
  | 0, d, h => rfl
  | a + 1, d, h => by
    unfold opn
    rw [h d (by omega) (by omega), opn_zero p a (d + 1) (fun x h1 h2 => h x (by omega) (by omega))]
    rfl
theorem ub_part {l : List S34} {place a b c d : Int} (h : ubM l place a b = true) (h1 : a ≤ c) (h2 : d ≤ b) : ubM l place c d = true := by
  obtain ⟨z, hz, hs⟩ := List.any_eq_true.1 h
  obtain ⟨s, hs, hu⟩ : ∃ s, ownP l place z = some s ∧ ubS a b s = true := by
    cases ho : ownP l place z with
    | none => rw [ho] at hs; cases hs
    | some s => rw [ho] at hs; exact ⟨s, rfl, hs⟩
  refine ubM_true hs ?_
  simp [ubS] at hu ⊢
  omega
theorem ok_all {l : List S34} (h : ok22 l) : l.all wf34 = true := List.all_eq_true.2 fun x hx => (h.2 x hx).2.2.1
theorem short_f (a b c : Int) : ∃ v, spilelaw39_short.f a b c = some v := by
  unfold spilelaw39_short.f
  repeat' split
  all_goals exact ⟨_, rfl⟩
theorem parts_pure : SealPartsPure := by
  intro l t m hl ht hm
  refine Ev.one (g := fun k => spilelaw39_SealParts.f k l t.f0 t.f1 t.f2 m) ?_
  unfold spilelaw39_SealParts.f
  refine Ev.bind awake_ev ?_
  simp only [if_true]
  have out : Ev (fun k => spilelaw39_SealParts.j0 k l m true t.f0 t.f1 t.f2) true := Ev.succ (Ev.const _) (fun k => by rw [spilelaw39_SealParts.j0, if_pos rfl])
  by_cases h20 : (l.length : Int) > 20
  · simp only [if_pos h20]
    exact out
  · simp only [if_neg h20]
    obtain ⟨v, hv⟩ := short_f t.f0 t.f1 t.f2
    rw [hv]
    cases v with
    | false => simpa using out
    | true =>
      simp only [Option.bind_some, if_true]
      by_cases h1 : m < t.f1
      · simp only [if_pos h1]
        exact out
      · simp only [if_neg h1]
        by_cases h2 : m ≥ t.f2
        · rw [decide_eq_true h2]
          exact out
        · rw [decide_eq_false h2]
          have hw := ok_all hl
          refine Ev.succ (Ev.const _) (fun k => ?_)
          rw [spilelaw39_SealParts.j0, if_neg (by decide)]
          simp only [clone_f (show l.length ≤ 129 by omega), Option.bind_some, unb_f hw, opn_f hw]
          by_cases ha : askE l t.f0 [t.f1, t.f2] = 0
          · have hd := ask_days ha
            have hw1 : wrap64 (m + 1) = m + 1 := by unfold wrap64; omega
            have hw0 : wrap64 0 = 0 := wrap_at 0 (by omega) (by omega)
            have ha1 := ask_two (c := t.f1) (d := m) ha (by omega) (by omega)
            have ha2 := ask_two (c := m + 1) (d := t.f2) ha (by omega) (by omega)
            have ha3 := ask_two (c := m) (d := t.f2) ha (by omega) (by omega)
            have e := opn_add (fun d => ubM l t.f0 d d) (m + 1 - t.f1).toNat (t.f2 + 1 - (m + 1)).toNat t.f1
            rw [show (m + 1 - t.f1).toNat + (t.f2 + 1 - (m + 1)).toNat = (t.f2 + 1 - t.f1).toNat by omega, show t.f1 + ((m + 1 - t.f1).toNat : Int) = m + 1 by omega] at e
            have b1 := opn_le (fun d => ubM l t.f0 d d) (m + 1 - t.f1).toNat t.f1
            have b2 := opn_le (fun d => ubM l t.f0 d d) (t.f2 + 1 - (m + 1)).toNat (m + 1)
            have hws : wrap64 (opn (fun d => ubM l t.f0 d d) t.f1 (m + 1 - t.f1).toNat + opn (fun d => ubM l t.f0 d d) (m + 1) (t.f2 + 1 - (m + 1)).toNat) = opn (fun d => ubM l t.f0 d d) t.f1 (t.f2 + 1 - t.f1).toNat := by
              rw [e]
              exact wrap_at _ (by omega) (by omega)
            have hn1 : ¬ t.f1 > t.f2 := by omega
            have hn2 : ¬ t.f1 > m := by omega
            have hn3 : ¬ m + 1 > t.f2 := by omega
            have hn4 : ¬ m > t.f2 := by omega
            simp only [if_pos ha, hw1, if_pos ha1, if_pos ha2, if_pos ha3, if_neg hn1, if_neg hn2, if_neg hn3, if_neg hn4, if_true, Int.zero_add, hw0, hws]
            by_cases hx : ubM l t.f0 t.f1 t.f2 = true
            · have hz : opn (fun d => ubM l t.f0 d d) t.f1 (t.f2 + 1 - t.f1).toNat = 0 := opn_zero _ _ _ (fun x h1 h2 => ub_part hx h1 (by omega))
              rw [if_pos hx, if_pos hz, if_pos (ub_part hx (by omega) (by omega)), ub_part hx (by omega) (by omega)]
            · rw [if_neg hx]
          · simp only [if_neg ha, if_true]
            rfl
end Go.Proofs.Ytfjenooajbdcmaa.K
namespace Go.Proofs.Ytfjenooajbdcmaa.Pure
theorem SealParts : K.SealPartsPure := K.parts_pure
end Go.Proofs.Ytfjenooajbdcmaa.Pure
