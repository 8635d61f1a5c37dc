/- By hand: the plain law of SenderOrder: behind acknowledgements only envelopes are pending whose number none of them has. -/
import Derived.Test.YtfafeeobjlkjnaaPHeard
import Derived.Test.YtfafeeobjlkjnaaKOrd
import Derived.Test.YtfafeeobjlkjnaaSaySenderOrder
import Derived.Test.YtfafeeobjlkjnaaPAwake
namespace Go.Proofs.Ytfafeeobjlkjnaa.K
open Go.RowKit Go.Proofs.YtfafeeobjlkjnaaW.PrintWords
set_option linter.unusedVariables false
set_option linter.unusedSimpArgs false

theorem heard_ok {node next n : Int} {P : List S33} (hc : chk node next P = 0) (h1 : 1 ≤ n) (h2 : n < next) : Ev (fun k => sender_Heard.f k node next P node n) (node, next, P.filter (fun x => !(x.f2 == n)), 0) := by
  obtain ⟨_, _, _, hl, hg⟩ := chk_zero hc
  have ha := (goC_asc P none hg).1
  have h3 : P.length < 1759218604441 := by omega
  have hle := posOf_le n P
  have q1 : ¬ n < 1 := by omega
  have q2 : ¬ n ≥ next := by omega
  unfold sender_Heard.f
  refine Ev.bind (check_ev _ _ _) ?_
  simp only [hc, if_true, if_neg q1, if_neg q2, sender_own.f, api_Envelope_21.f, if_pos h3, Option.bind_some]
  refine Ev.bind (search_ev _ _ (posOf n P : Int) (by omega) (by omega) (fun i hi hj => ?_) (fun i hi hj => ?_)) ?_
  · obtain ⟨j, rfl⟩ := Int.eq_ofNat_of_zero_le hi
    have hj' : j < P.length := by omega
    have := posOf_lo n P j hj' (by omega)
    rw [rd_get _ _ hj', decide_eq_false_iff_not]
    omega
  · obtain ⟨j, rfl⟩ := Int.eq_ofNat_of_zero_le (show 0 ≤ i by omega)
    have hj' : j < P.length := by omega
    have := posOf_hi n P ha j hj' (by omega)
    rw [rd_get _ _ hj', decide_eq_true_eq]
    omega
  · rw [posOf_filter n P ha]
    by_cases h4 : posOf n P < P.length
    · have h5 : (posOf n P : Int) < (P.length : Int) := by omega
      have h6 : (0 : Int) ≤ (posOf n P : Int) := by omega
      rw [dif_pos h4]
      simp only [if_pos h5, if_pos h6, rd_get _ _ h4, Int.toNat_natCast]
      by_cases h7 : (P[posOf n P]).f2 = n
      · simp only [if_pos h7]; exact Ev.const _
      · simp only [if_neg h7]; exact Ev.const _
    · have h5 : ¬ (posOf n P : Int) < (P.length : Int) := by omega
      rw [dif_neg h4]
      simp only [if_neg h5]
      exact Ev.const _
theorem heard_no {node next n : Int} {P : List S33} (h : ¬ (chk node next P = 0 ∧ 1 ≤ n ∧ n < next)) : ∃ e, e ≠ 0 ∧ Ev (fun k => sender_Heard.f k node next P node n) (0, 0, ([] : List S33), e) := by
  rcases heard_or node next node n P with h' | ⟨h1, _, h2, h3, _⟩
  · exact h'
  · exact absurd ⟨h1, h2, h3⟩ h
theorem goC_each {node next : Int} : ∀ (l : List S33) (prev : Option Int), goC node next prev l = 0 → ∀ x ∈ l, 1 ≤ x.f2 ∧ x.f2 < next
  | [], _, _, x, hx => by simp at hx
  | y :: l, prev, h, x, hx => by
    obtain ⟨he, hf, h1, h2, h3⟩ := goC_cons h
    rcases List.mem_cons.1 hx with rfl | hx
    · refine ⟨?_, h2⟩
      apply Decidable.byContradiction
      intro hc
      unfold echk at he
      split at he
      · cases he
      split at he
      · cases he
      split at he
      · cases he
      split at he
      · cases he
      split at he
      · cases he
      · omega
    · exact goC_each l _ h3 x hx
theorem chk_filter {node next : Int} {P : List S33} (q : S33 → Bool) (h : chk node next P = 0) : chk node next (P.filter q) = 0 := by
  obtain ⟨h0, h1, h2, h3, h4⟩ := chk_zero h
  have := List.length_filter_le q P
  unfold chk
  rw [if_pos h0, if_neg (by omega), if_neg (by omega), if_neg (by omega)]
  exact goC_filter _ _ _ _ h4 (fun p' e => by cases e)
def left (a b : Int) (l : List Int) (P : List S33) : List S33 := if chk a b P = 0 then P.filter (fun x => !(l.contains x.f2)) else P
theorem left_nil (a b : Int) (P : List S33) : left a b [] P = P := by
  unfold left
  split
  · rw [List.filter_eq_self]
    intro x _
    simp
  · rfl
theorem left_cons_ok {a b n : Int} {l : List Int} {P : List S33} (hc : chk a b P = 0) : left a b (n :: l) P = left a b l (P.filter (fun x => !(x.f2 == n))) := by
  unfold left
  rw [if_pos hc, if_pos (chk_filter _ hc), List.filter_filter]
  refine List.filter_congr (fun x _ => ?_)
  rw [List.contains_cons]
  cases (x.f2 == n) <;> cases (l.contains x.f2) <;> rfl
theorem left_cons_no {a b n : Int} {l : List Int} {P : List S33} (h : ¬ (chk a b P = 0 ∧ 1 ≤ n ∧ n < b)) : left a b (n :: l) P = left a b l P := by
  unfold left
  by_cases hc : chk a b P = 0
  · rw [if_pos hc, if_pos hc]
    obtain ⟨_, _, _, _, hg⟩ := chk_zero hc
    refine List.filter_congr (fun x hx => ?_)
    have := goC_each P none hg x hx
    rw [List.contains_cons]
    have hne : (x.f2 == n) = false := by
      rw [beq_eq_false_iff_ne]
      intro e
      exact h ⟨hc, by omega, by omega⟩
    rw [hne]
    rfl
  · rw [if_neg hc, if_neg hc]
theorem rd_at (l : List Int) (i : Nat) (h : i < l.length) : rd l (i : Int) = l[i] := by
  unfold rd
  simp [List.getD_eq_getElem?_getD, h]
theorem hear_l0 (l : List Int) (hl : l.length ≤ 1000) (a b : Int) (P0 : List S33) : ∀ (d i : Nat) (P : List S33), i + d = l.length → P.length ≤ 1000 → Ev (fun k => spilelaw42_SenderOrder_1.l0 k l (l.length : Int) (i : Int) a b P0 a b P) (a, b, left a b (l.drop i) P)
  | 0, i, P, h, hP => by
    rw [List.drop_eq_nil_of_le (by omega), left_nil]
    exact Ev.succ (g' := fun _ => some (a, b, P)) (Ev.const _) (fun k => by rw [spilelaw42_SenderOrder_1.l0, if_neg (by omega)])
  | d + 1, i, P, h, hP => by
    have hi : i < l.length := by omega
    have h1 : (i : Int) < (l.length : Int) := by omega
    have h0 : (0 : Int) ≤ (i : Int) := by omega
    have hw : wrap64 ((i : Int) + 1) = ((i + 1 : Nat) : Int) := by rw [wrap_in _ (by omega) (by omega)]; omega
    have hcp := copy_f a b P (by omega)
    rw [List.drop_eq_getElem_cons hi]
    refine Ev.succ (g' := _) ?_ (fun k => by rw [spilelaw42_SenderOrder_1.l0, if_pos h1, if_pos h0, if_pos h1, hcp, Option.bind_some, rd_at l i hi, hw])
    by_cases hc : chk a b P = 0 ∧ 1 ≤ l[i] ∧ l[i] < b
    · rw [left_cons_ok hc.1]
      refine Ev.bind (heard_ok hc.1 hc.2.1 hc.2.2) ?_
      simp only [if_true]
      exact hear_l0 l hl a b P0 d (i + 1) _ (by omega) (Nat.le_trans (List.length_filter_le _ _) hP)
    · rw [left_cons_no hc]
      obtain ⟨e, he, hs⟩ := heard_no hc
      refine Ev.bind hs ?_
      simp only [if_neg he]
      exact hear_l0 l hl a b P0 d (i + 1) P (by omega) hP
theorem hear_ev (l : List Int) (hl : l.length ≤ 1000) (a b : Int) (P : List S33) (hP : P.length ≤ 1000) : Ev (fun k => spilelaw42_SenderOrder_1.f k l a b P) (a, b, left a b l P) := by
  unfold spilelaw42_SenderOrder_1.f
  rw [copy_f a b P (by omega)]
  simp only [Option.bind_some]
  exact hear_l0 l hl a b P l.length 0 P (by omega) hP
theorem rev_l0 : ∀ (d : Nat) (xs : List Int) (i j : Int), xs.length ≤ 1000 → 0 ≤ i → j < xs.length → j - i ≤ d → ∃ r : List Int, r.Perm xs ∧ Ev (fun k => slices_Reverse_int_int.l0 k xs i j) r
  | 0, xs, i, j, hl, h0, h1, h2 => ⟨xs, List.Perm.refl _, Ev.succ (g' := fun _ => some xs) (Ev.const _) (fun k => by rw [slices_Reverse_int_int.l0, if_neg (by omega)])⟩
  | d + 1, xs, i, j, hl, h0, h1, h2 => by
    by_cases hij : i < j
    · obtain ⟨i, rfl⟩ := Int.eq_ofNat_of_zero_le h0
      obtain ⟨j, rfl⟩ := Int.eq_ofNat_of_zero_le (show 0 ≤ j by omega)
      have hi : i < xs.length := by omega
      have hj : j < xs.length := by omega
      have w1 : wrap64 ((i : Int) + 1) = (i : Int) + 1 := wrap_in _ (by omega) (by omega)
      have w2 : wrap64 ((j : Int) - 1) = (j : Int) - 1 := wrap_in _ (by omega) (by omega)
      obtain ⟨r, hr, hev⟩ := rev_l0 d ((xs.set i xs[j]).set j xs[i]) ((i : Int) + 1) ((j : Int) - 1) (by simpa using hl) (by omega) (by simp; omega) (by omega)
      refine ⟨r, hr.trans (List.set_set_perm hi hj), Ev.succ hev (fun k => ?_)⟩
      rw [slices_Reverse_int_int.l0, if_pos hij, if_pos (by omega), if_pos (by omega), if_pos (by omega), if_pos (by omega), w1, w2, rd_at xs i hi, rd_at xs j hj]
      rfl
    · exact ⟨xs, List.Perm.refl _, Ev.succ (g' := fun _ => some xs) (Ev.const _) (fun k => by rw [slices_Reverse_int_int.l0, if_neg hij])⟩
theorem rev_ev (xs : List Int) (hl : xs.length ≤ 1000) : ∃ r : List Int, r.Perm xs ∧ Ev (fun k => slices_Reverse_int_int.f k xs) r := by
  unfold slices_Reverse_int_int.f
  have w : wrap64 ((xs.length : Int) - 1) = (xs.length : Int) - 1 := wrap_in _ (by omega) (by omega)
  rw [w]
  exact rev_l0 xs.length xs 0 ((xs.length : Int) - 1) hl (Int.le_refl _) (by omega) (by omega)
theorem order_pure : SenderOrderPure := by
  intro x0 x1 _ _
  refine Ev.one (g := fun k => spilelaw42_SenderOrder.f k x0.f0 x0.f1 x0.f2 x1) ?_
  unfold spilelaw42_SenderOrder.f
  refine Ev.bind awake_ev ?_
  simp only [if_true]
  have j1 : Ev (fun k => spilelaw42_SenderOrder.j0 k x1 true x0.f0 x0.f1 x0.f2) true := Ev.succ (g' := fun _ => some true) (Ev.const _) (fun k => by rw [spilelaw42_SenderOrder.j0]; rfl)
  by_cases h1 : (x0.f2.length : Int) > 14
  · simp only [if_pos h1]; exact j1
  simp only [if_neg h1]
  by_cases h2 : (x1.length : Int) > 10
  · simp only [h2, decide_true]; exact j1
  simp only [h2, decide_false]
  have ht : twice27.f x1 = some (x1 ++ x1) := by unfold twice27.f; rw [if_pos (by omega)]
  obtain ⟨r, hr, hev⟩ := rev_ev (x1 ++ x1) (by simp; omega)
  have hrl : r.length ≤ 1000 := by rw [hr.length_eq]; simp; omega
  refine Ev.succ (g' := _) ?_ (fun k => by rw [spilelaw42_SenderOrder.j0, if_neg (by decide), ht, Option.bind_some])
  refine Ev.bind hev ?_
  refine Ev.bind (hear_ev x1 (by omega) x0.f0 x0.f1 x0.f2 (by omega)) ?_
  refine Ev.bind (hear_ev r hrl x0.f0 x0.f1 x0.f2 (by omega)) ?_
  have he : left x0.f0 x0.f1 r x0.f2 = left x0.f0 x0.f1 x1 x0.f2 := by
    unfold left
    by_cases hc : chk x0.f0 x0.f1 x0.f2 = 0
    · rw [if_pos hc, if_pos hc]
      refine List.filter_congr (fun x _ => ?_)
      have : r.contains x.f2 = x1.contains x.f2 := by
        rw [Bool.eq_iff_iff, List.contains_iff_mem, List.contains_iff_mem, hr.mem_iff]
        simp
      rw [this]
    · rw [if_neg hc, if_neg hc]
  have hll : (left x0.f0 x0.f1 x1 x0.f2).length ≤ 1000000 := by
    unfold left
    split
    · have := List.length_filter_le (fun x => !(x1.contains x.f2)) x0.f2
      omega
    · omega
  simp only [if_true, he]
  exact (Ev.bind (same_ev _ hll) (Ev.const true))
end Go.Proofs.Ytfafeeobjlkjnaa.K
namespace Go.Proofs.Ytfafeeobjlkjnaa.Pure
theorem SenderOrder : K.SenderOrderPure := K.order_pure
end Go.Proofs.Ytfafeeobjlkjnaa.Pure
