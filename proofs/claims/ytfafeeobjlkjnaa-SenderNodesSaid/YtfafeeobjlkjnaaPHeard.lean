/- By hand: what Heard says: the envelope of that number is taken out, all else stays. -/
import Derived.Test.YtfafeeobjlkjnaaPLaw
import Derived.Test.YtfafeeobjlkjnaaPSend
namespace Go.Proofs.Ytfafeeobjlkjnaa.K
open Go.RowKit Go.Proofs.YtfafeeobjlkjnaaW.PrintWords
set_option linter.unusedVariables false
set_option linter.unusedSimpArgs false

theorem goC_cons {node next : Int} {prev : Option Int} {x : S33} {l : List S33} (h : goC node next prev (x :: l) = 0) :
    echk x = 0 ∧ x.f0 = node ∧ (∀ p, prev = some p → p < x.f2) ∧ x.f2 < next ∧ goC node next (some x.f2) l = 0 := by
  unfold goC at h
  by_cases he : echk x = 0
  · rw [if_pos he] at h
    by_cases hf : x.f0 = node
    · rw [if_pos hf] at h
      by_cases hc : (∃ p, prev = some p ∧ x.f2 ≤ p) ∨ x.f2 ≥ next
      · rw [if_pos hc] at h; cases h
      · rw [if_neg hc] at h
        refine ⟨he, hf, fun p hp => ?_, ?_, h⟩
        · apply Decidable.byContradiction
          intro h'
          exact hc (.inl ⟨p, hp, by omega⟩)
        · apply Decidable.byContradiction
          intro h'
          exact hc (.inr (by omega))
    · rw [if_neg hf] at h; cases h
  · rw [if_neg he] at h; exact absurd h he
theorem goC_mk {node next : Int} {prev : Option Int} {x : S33} {l : List S33} (he : echk x = 0) (hf : x.f0 = node) (hp : ∀ p, prev = some p → p < x.f2) (hn : x.f2 < next) (h : goC node next (some x.f2) l = 0) : goC node next prev (x :: l) = 0 := by
  unfold goC
  rw [if_pos he, if_pos hf, if_neg]
  · exact h
  · rintro (⟨p, h1, h2⟩ | h3)
    · have := hp p h1; omega
    · omega
theorem goC_filter {node next : Int} (q : S33 → Bool) : ∀ (l : List S33) (prev prev' : Option Int), goC node next prev l = 0 → (∀ p', prev' = some p' → ∃ p, prev = some p ∧ p' ≤ p) → goC node next prev' (l.filter q) = 0
  | [], _, _, _, _ => rfl
  | x :: l, prev, prev', h, hp => by
    obtain ⟨he, hf, h1, h2, h3⟩ := goC_cons h
    have hx : ∀ p', prev' = some p' → p' < x.f2 := by
      intro p' e
      obtain ⟨p, e1, e2⟩ := hp p' e
      have := h1 p e1
      omega
    by_cases hq : q x = true
    · rw [List.filter_cons_of_pos hq]
      exact goC_mk he hf hx h2 (goC_filter q l _ _ h3 (fun p' e => ⟨p', e, Int.le_refl _⟩))
    · rw [List.filter_cons_of_neg hq]
      exact goC_filter q l _ _ h3 (fun p' e => ⟨x.f2, rfl, by have := hx p' e; omega⟩)
theorem goC_asc {node next : Int} : ∀ (l : List S33) (prev : Option Int), goC node next prev l = 0 → l.Pairwise (fun a b => a.f2 < b.f2) ∧ ∀ p, prev = some p → ∀ x ∈ l, p < x.f2
  | [], _, _ => ⟨List.Pairwise.nil, fun _ _ x hx => by simp at hx⟩
  | x :: l, prev, h => by
    obtain ⟨he, hf, h1, h2, h3⟩ := goC_cons h
    obtain ⟨i1, i2⟩ := goC_asc l _ h3
    refine ⟨List.Pairwise.cons (fun y hy => i2 x.f2 rfl y hy) i1, fun p hp y hy => ?_⟩
    rcases List.mem_cons.1 hy with rfl | hy
    · exact h1 p hp
    · have := i2 x.f2 rfl y hy
      have := h1 p hp
      omega
def posOf (n : Int) : List S33 → Nat
  | [] => 0
  | x :: l => if x.f2 < n then posOf n l + 1 else 0
theorem posOf_le (n : Int) : ∀ l, posOf n l ≤ l.length
  | [] => Nat.le_refl _
  | x :: l => by
    have := posOf_le n l
    unfold posOf
    split
    · simp; omega
    · omega
theorem posOf_lo (n : Int) : ∀ (l : List S33) (i : Nat) (h : i < l.length), i < posOf n l → (l[i]).f2 < n
  | [], i, h, _ => by simp at h
  | x :: l, i, h, hi => by
    unfold posOf at hi
    by_cases hx : x.f2 < n
    · rw [if_pos hx] at hi
      cases i with
      | zero => exact hx
      | succ i => exact posOf_lo n l i (by simp at h; omega) (by omega)
    · rw [if_neg hx] at hi; omega
theorem posOf_hi (n : Int) : ∀ (l : List S33), l.Pairwise (fun a b => a.f2 < b.f2) → ∀ (i : Nat) (h : i < l.length), posOf n l ≤ i → n ≤ (l[i]).f2
  | [], _, i, h, _ => by simp at h
  | x :: l, ha, i, h, hi => by
    obtain ⟨h1, h2⟩ := List.pairwise_cons.1 ha
    unfold posOf at hi
    by_cases hx : x.f2 < n
    · rw [if_pos hx] at hi
      cases i with
      | zero => omega
      | succ i => exact posOf_hi n l h2 i (by simp at h; omega) (by omega)
    · cases i with
      | zero => show n ≤ x.f2; omega
      | succ i =>
        have hi' : i < l.length := by simp at h; omega
        have := h1 l[i] (List.getElem_mem hi')
        show n ≤ (l[i]).f2
        omega
theorem posOf_filter (n : Int) : ∀ (l : List S33), l.Pairwise (fun a b => a.f2 < b.f2) →
    l.filter (fun x => !(x.f2 == n)) = if h : posOf n l < l.length then (if (l[posOf n l]).f2 = n then l.eraseIdx (posOf n l) else l) else l
  | [], _ => by simp [posOf]
  | x :: l, ha => by
    obtain ⟨h1, h2⟩ := List.pairwise_cons.1 ha
    have ih := posOf_filter n l h2
    by_cases hx : x.f2 < n
    · have hp : posOf n (x :: l) = posOf n l + 1 := if_pos hx
      have hq : (!(x.f2 == n)) = true := by simp; omega
      rw [List.filter_cons_of_pos (by simpa using hq), ih]
      by_cases hl : posOf n l < l.length
      · rw [dif_pos hl, dif_pos (by rw [hp]; simp; omega)]
        simp only [hp, List.getElem_cons_succ, List.eraseIdx_cons_succ]
        split <;> rfl
      · rw [dif_neg hl, dif_neg (by rw [hp]; simp; omega)]
    · have hp : posOf n (x :: l) = 0 := if_neg hx
      have hall : l.filter (fun x => !(x.f2 == n)) = l := by
        rw [List.filter_eq_self]
        intro y hy
        have := h1 y hy
        simp
        omega
      rw [dif_pos (by rw [hp]; simp)]
      simp only [hp, List.getElem_cons_zero, List.eraseIdx_cons_zero]
      by_cases he : x.f2 = n
      · rw [if_pos he, List.filter_cons_of_neg (by simp [he]), hall]
      · rw [if_neg he, List.filter_cons_of_pos (by simp [he]), hall]
theorem heard_or (node next fr n : Int) (P : List S33) :
    (∃ e, e ≠ 0 ∧ Ev (fun k => sender_Heard.f k node next P fr n) (0, 0, ([] : List S33), e)) ∨
    (chk node next P = 0 ∧ fr = node ∧ 1 ≤ n ∧ n < next ∧ Ev (fun k => sender_Heard.f k node next P fr n) (node, next, P.filter (fun x => !(x.f2 == n)), 0)) := by
  by_cases hc : chk node next P = 0
  · by_cases hf : fr = node
    · by_cases h1 : n < 1
      · refine .inl ⟨2, by decide, ?_⟩
        unfold sender_Heard.f
        refine Ev.bind (check_ev _ _ _) ?_
        simp only [hc, if_true, if_pos hf, if_pos h1]
        exact Ev.const _
      · by_cases h2 : n ≥ next
        · refine .inl ⟨2, by decide, ?_⟩
          unfold sender_Heard.f
          refine Ev.bind (check_ev _ _ _) ?_
          simp only [hc, if_true, if_pos hf, if_neg h1, if_pos h2]
          exact Ev.const _
        · refine .inr ⟨hc, hf, by omega, by omega, ?_⟩
          obtain ⟨_, _, _, hl, hg⟩ := chk_zero hc
          have ha := (goC_asc P none hg).1
          have h3 : P.length < 1759218604441 := by omega
          have hle := posOf_le n P
          unfold sender_Heard.f
          refine Ev.bind (check_ev _ _ _) ?_
          simp only [hc, if_true, if_pos hf, if_neg h1, if_neg h2, sender_own.f, api_Envelope_21.f, if_pos h3, Option.bind_some]
          refine Ev.bind (search_ev _ _ (posOf n P : Int) (by omega) (by omega) (fun i hi hj => ?_) (fun i hi hj => ?_)) ?_
          · obtain ⟨j, rfl⟩ := Int.eq_ofNat_of_zero_le hi
            have hj' : j < P.length := by omega
            have := posOf_lo n P j hj' (by omega)
            rw [rd_get _ _ hj', decide_eq_false_iff_not]
            omega
          · obtain ⟨j, rfl⟩ := Int.eq_ofNat_of_zero_le (show 0 ≤ i by omega)
            have hj' : j < P.length := by omega
            have := posOf_hi n P ha j hj' (by omega)
            rw [rd_get _ _ hj', decide_eq_true_eq]
            omega
          · rw [posOf_filter n P ha]
            by_cases h4 : posOf n P < P.length
            · have h5 : (posOf n P : Int) < (P.length : Int) := by omega
              have h6 : (0 : Int) ≤ (posOf n P : Int) := by omega
              rw [dif_pos h4]
              simp only [if_pos h5, if_pos h6, rd_get _ _ h4, Int.toNat_natCast]
              by_cases h7 : (P[posOf n P]).f2 = n
              · simp only [if_pos h7]; exact Ev.const _
              · simp only [if_neg h7]; exact Ev.const _
            · have h5 : ¬ (posOf n P : Int) < (P.length : Int) := by omega
              rw [dif_neg h4]
              simp only [if_neg h5]
              exact Ev.const _
    · refine .inl ⟨10, by decide, ?_⟩
      unfold sender_Heard.f
      refine Ev.bind (check_ev _ _ _) ?_
      simp only [hc, if_true, if_neg hf]
      exact Ev.const _
  · refine .inl ⟨1, by decide, ?_⟩
    unfold sender_Heard.f
    refine Ev.bind (check_ev _ _ _) ?_
    simp only [if_neg hc]
    exact Ev.const _
end Go.Proofs.Ytfafeeobjlkjnaa.K
