/- By hand: the reference's ranks in plain words. -/
import Derived.Test.YtbkoghmbacdiiaaPRef
import Derived.Test.YtbkoghmbacdiiaaK10
namespace Go.Proofs.Ytbkoghmbacdiiaa.K
open Go Go.RowKit Go.Proofs.YtbkoghmbacdiiaaW.PrintWords
set_option linter.unusedVariables false
set_option linter.unusedSimpArgs false
/-! ### the reference's ranks -/
theorem rrank_l0 (all : List Int) (hA : all.length ≤ 1000) (n : Int) : ∀ (suf : List Int) (j : Nat) (r : Int), all.drop j = suf → r = 1 + isum ((all.take j).map (rkS n)) → Ev (fun k => spileref33_rank.l0 k all n r (j : Int)) (rk all n)
  | [], j, r, h, hr => by
    have hj := drop_endI h
    rw [List.take_of_length_le hj] at hr
    refine Ev.succ (Ev.const _) (fun k => ?_)
    rw [spileref33_rank.l0, if_neg (by omega), hr]
    rfl
  | m :: suf, j, r, h, hr => by
    obtain ⟨hj, hx, hd, ht⟩ := drop_atI h
    have p1 : (0 : Int) ≤ (j : Int) := by omega
    have p2 : (j : Int) < (all.length : Int) := by omega
    have hb := isum_bd 2 ((all.take j).map (rkS n)) (fun x hx => by obtain ⟨m, _, rfl⟩ := List.mem_map.1 hx; exact rkS_bd n m)
    have hl : ((all.take j).map (rkS n)).length ≤ 1000 := by simp; omega
    have hn : 1 + isum ((all.take (j + 1)).map (rkS n)) = r + rkS n m := by
      rw [ht, List.map_append, isum_append, hr]
      simp [isum_cons, isum_nil]
      omega
    have hrb : 0 ≤ r ∧ r ≤ 3000 := by
      rw [hr]
      have : (2 : Int) * (((all.take j).map (rkS n)).length : Int) ≤ 2 * 1000 := by omega
      omega
    have ih := rrank_l0 all hA n suf (j + 1) (r + rkS n m) hd hn.symm
    by_cases c1 : m < n
    · have e : rkS n m = 2 := by unfold rkS; rw [if_pos c1]
      rw [e] at ih
      refine Ev.succ (Ev.succ ih (g := fun k => spileref33_rank.j1 k all n (r + 2) (j : Int)) (fun k => ?_)) (fun k => ?_)
      · rw [spileref33_rank.j1, if_pos p1, if_pos p2, hx, if_neg (by omega), wrap_up (by omega)]
      · rw [spileref33_rank.l0, if_pos p2, if_pos p1, hx, if_pos c1, show wrap64 (r + 2) = r + 2 by unfold wrap64; omega]
    · by_cases c2 : m = n
      · have e : rkS n m = 1 := by unfold rkS; rw [if_neg c1, if_pos c2]
        rw [e] at ih
        refine Ev.succ (Ev.succ ih (g := fun k => spileref33_rank.j1 k all n r (j : Int)) (fun k => ?_)) (fun k => ?_)
        · rw [spileref33_rank.j1, if_pos p1, if_pos p2, hx, if_pos c2, wrap_up (by omega), show wrap64 (r + 1) = r + 1 by unfold wrap64; omega]
        · rw [spileref33_rank.l0, if_pos p2, if_pos p1, hx, if_neg c1]
      · have e : rkS n m = 0 := by unfold rkS; rw [if_neg c1, if_neg c2]
        rw [e, Int.add_zero] at ih
        refine Ev.succ (Ev.succ ih (g := fun k => spileref33_rank.j1 k all n r (j : Int)) (fun k => ?_)) (fun k => ?_)
        · rw [spileref33_rank.j1, if_pos p1, if_pos p2, hx, if_neg c2, wrap_up (by omega)]
        · rw [spileref33_rank.l0, if_pos p2, if_pos p1, hx, if_neg c1]
theorem rrank_ev (all : List Int) (hA : all.length ≤ 1000) (n : Int) : Ev (fun k => spileref33_rank.f k all n) (rk all n) := rrank_l0 all hA n all 0 1 rfl (by simp [isum_nil])
theorem rranks_l0 (l : List Int) (hl : l.length ≤ 1000) : ∀ (suf : List Int) (i : Nat) (out : List Int), l.drop i = suf → out.length = i → Ev (fun k => spileref33_ranks.l0 k l out (i : Int)) (out ++ suf.map (rk l))
  | [], i, out, h, ho => by
    have hj := drop_endI h
    refine Ev.succ (Ev.const _) (fun k => ?_)
    rw [spileref33_ranks.l0, if_neg (by omega)]
    simp
  | n :: suf, i, out, h, ho => by
    obtain ⟨hi, hx, hd, _⟩ := drop_atI h
    have ih := rranks_l0 l hl suf (i + 1) (out ++ [rk l n]) hd (by simp [ho])
    refine Ev.shift ?_
    simp only [spileref33_ranks.l0, if_pos (show (i : Int) < (l.length : Int) by omega), if_pos (show (0 : Int) ≤ (i : Int) by omega), hx]
    refine Ev.bind (rrank_ev l hl n) ?_
    simp only [if_pos (show out.length < 17592186044416 by omega), wrap_up (show i ≤ 1000000 by omega)]
    simpa using ih
theorem rranks_ev (l : List Int) (hl : l.length ≤ 1000) : Ev (fun k => spileref33_ranks.f k l) (l.map (rk l)) := by
  have := rranks_l0 l hl l 0 [] rfl rfl
  simpa [spileref33_ranks.f] using this
theorem few_cases (l : List Int) : (spileref33_Few.f l = some true ∧ (l.length ≤ 12 ∨ l.length = 65)) ∨ spileref33_Few.f l = some false := by
  unfold spileref33_Few.f
  by_cases c : (l.length : Int) ≤ 12
  · rw [if_pos c]
    exact .inl ⟨rfl, by omega⟩
  · rw [if_neg c]
    by_cases c2 : l.length = 65
    · exact .inl ⟨by rw [c2]; rfl, .inr c2⟩
    · refine .inr ?_
      rw [beq_eq_false_iff_ne.mpr (by omega)]
end Go.Proofs.Ytbkoghmbacdiiaa.K
