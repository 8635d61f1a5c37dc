/- By hand: which seals are intact, in the words of how the seals stand; facts for the laws without the reference. -/
import Derived.Test.YtfjenooajbdcmaaPAwake
import Derived.Test.YtfjenooajbdcmaaGContB
namespace Go.Proofs.Ytfjenooajbdcmaa.K
open Go Go.RowKit Go.Proofs.YtfjenooajbdcmaaW.PrintWords Go.Proofs.Ytfjenooajbdcmaa.GM
set_option linter.unusedVariables false
set_option linter.unusedSimpArgs false
theorem Ev.shift {α : Type} {g : Nat → Option α} {r : α} (h : Ev (fun k => g (k + 1)) r) : Ev g r := Ev.succ h (fun _ => rfl)
theorem ok_of {l : List S34} (h : ∀ x ∈ l, wf34 x = true) : l.all wf34 = true := List.all_eq_true.2 h
theorem mem_own (l : List S34) (place day z : Int) : z ∈ intactL l place day ↔ ∃ s, ownP l place z = some s ∧ s.fr ≤ day ∧ day < s.tt := by
  rw [mem_intactL]
  unfold intactM
  cases ownP l place z with
  | none => simp
  | some s =>
    simp only [Option.filter_some]
    constructor
    · intro h
      split at h
      · rename_i hc
        simp at hc
        exact ⟨s, rfl, by omega, by omega⟩
      · cases h
    · rintro ⟨t, ht, h1, h2⟩
      injection ht with ht
      subst ht
      rw [if_pos (by simp; omega)]
      rfl
theorem hasI_iff (xs : List Int) (x : Int) : hasI xs x = true ↔ x ∈ xs := by
  unfold hasI
  rw [List.any_eq_true]
  constructor
  · rintro ⟨y, hy, e⟩
    rw [beq_iff_eq.1 e]
    exact hy
  · intro h
    exact ⟨x, h, by simp⟩
theorem own_pl {l : List S34} {place z : Int} {s : St} (h : ownP l place z = some s) : s.pl = place ∧ (fol l).1 z = some s := by
  unfold ownP at h
  cases hM : (fol l).1 z with
  | none => rw [hM] at h; cases h
  | some t =>
    rw [hM, Option.filter_some] at h
    split at h
    · rename_i hc
      injection h with h
      subst h
      simp at hc
      exact ⟨hc, rfl⟩
    · cases h
theorem folgo_app : ∀ (l : List S34) (M : Int → Option St) (p : Option Int) (i : Nat) (z : Int) (s : St), (folgo M p i l).1 z = some s →
    (∃ s0, M z = some s0 ∧ s0.pl = s.pl ∧ s0.fr = s.fr) ∨ ∃ x ∈ l, x.f3 = 1 ∧ x.f2 = z ∧ x.f1 = s.pl ∧ x.f0 = s.fr
  | [], M, p, i, z, s, h => .inl ⟨s, h, rfl, rfl⟩
  | x :: l, M, p, i, z, s, h => by
    rw [folgo] at h
    by_cases c : faultP M p x = 0
    · rw [if_pos c] at h
      rcases folgo_app l _ _ _ z s h with ⟨s0, h0, e1, e2⟩ | ⟨y, hy, h⟩
      · unfold stepP mput at h0
        by_cases e : z = x.f2
        · rw [if_pos e] at h0
          injection h0 with h0
          by_cases h1 : x.f3 = 1
          · unfold newSt at h0
            rw [if_pos h1] at h0
            subst h0
            exact .inr ⟨x, by simp, h1, e.symm, e1, e2⟩
          · have hk : (M x.f2).isSome = true := by
              unfold faultP at c
              by_cases hb : badP x = true
              · rw [if_pos hb] at c; cases c
              · rw [if_neg hb] at c
                by_cases hd : (p.any fun d => decide (x.f0 < d)) = true
                · rw [if_pos hd] at c; cases c
                · rw [if_neg hd, if_neg h1] at c
                  cases hM : M x.f2 with
                  | none => rw [hM] at c; simp at c
                  | some _ => rfl
            obtain ⟨t, ht⟩ := Option.isSome_iff_exists.1 hk
            refine .inl ⟨t, by rw [e]; exact ht, ?_, ?_⟩
            · rw [← e1, ← h0, ht]
              unfold newSt
              rw [if_neg h1]
              split <;> rfl
            · rw [← e2, ← h0, ht]
              unfold newSt
              rw [if_neg h1]
              split <;> rfl
        · rw [if_neg e] at h0
          exact .inl ⟨s0, h0, e1, e2⟩
      · exact .inr ⟨y, List.mem_cons_of_mem _ hy, h⟩
    · rw [if_neg c] at h
      exact .inl ⟨s, h, rfl, rfl⟩
theorem fol_app {l : List S34} {z : Int} {s : St} (h : (fol l).1 z = some s) : ∃ x ∈ l, x.f3 = 1 ∧ x.f2 = z ∧ x.f1 = s.pl ∧ x.f0 = s.fr := by
  unfold fol at h
  by_cases c : l.length > 128
  · rw [if_pos c] at h
    cases h
  · rw [if_neg c] at h
    rcases folgo_app l _ _ _ z s h with ⟨s0, h0, _⟩ | h
    · cases h0
    · exact h
theorem ask_day {l : List S34} {place day : Int} (h : askE l place [day] = 0) : 0 ≤ day ∧ day ≤ 100000 := by
  unfold askE at h
  by_cases c1 : (fol l).2.2 ≠ 0
  · rw [if_pos c1] at h
    cases h
  · rw [if_neg c1] at h
    by_cases c2 : (decide (place < 1) || (decide (place > 1073741824) || [day].any badD)) = true
    · rw [if_pos c2] at h
      cases h
    · simp [badD] at c2
      omega
end Go.Proofs.Ytfjenooajbdcmaa.K
