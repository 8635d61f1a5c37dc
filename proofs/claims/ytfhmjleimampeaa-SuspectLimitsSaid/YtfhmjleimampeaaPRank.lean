/- By hand: the doubled ranks of numbers and the error of two lists in plain words. -/
import Derived.Test.YtfhmjleimampeaaPFault
import Derived.Test.YtfhmjleimampeaaK3a
namespace Go.Proofs.Ytfhmjleimampeaa.K
open Go.RowKit Go.Proofs.YtfhmjleimampeaaW.PrintWords
set_option linter.unusedVariables false
set_option linter.unusedSimpArgs false
/-- What a number of a list adds to another one's doubled rank. -/
def rkS (n m : Int) : Int := if m < n then 2 else if m = n then 1 else 0
def isum (l : List Int) : Int := l.foldr (· + ·) 0
/-- The doubled rank of n in all. -/
def rk (all : List Int) (n : Int) : Int := 1 + isum (all.map (rkS n))
theorem isum_nil : isum [] = 0 := rfl
theorem isum_cons (x : Int) (l : List Int) : isum (x :: l) = x + isum l := rfl
theorem isum_append (a b : List Int) : isum (a ++ b) = isum a + isum b := by
  induction a with
  | nil => simp [isum]
  | cons x a ih => simp [isum_cons, ih]; omega
theorem isum_bd (c : Int) : ∀ l : List Int, (∀ x ∈ l, 0 ≤ x ∧ x ≤ c) → 0 ≤ isum l ∧ isum l ≤ c * l.length
  | [], _ => by simp [isum]
  | x :: l, h => by
    have ih := isum_bd c l (fun y hy => h y (List.mem_cons_of_mem _ hy))
    have h1 := h x (by simp)
    rw [isum_cons]
    refine ⟨by omega, ?_⟩
    have e : c * ((x :: l).length : Int) = c * (l.length : Int) + c := by
      rw [List.length_cons]
      push_cast
      rw [Int.mul_add, Int.mul_one]
    rw [e]
    omega
theorem rkS_bd (n m : Int) : 0 ≤ rkS n m ∧ rkS n m ≤ 2 := by
  unfold rkS
  split
  · omega
  · split <;> omega
theorem rk_bd (all : List Int) (n : Int) : 1 ≤ rk all n ∧ rk all n ≤ 1 + 2 * all.length := by
  have := isum_bd 2 (all.map (rkS n)) (fun x hx => by obtain ⟨m, _, rfl⟩ := List.mem_map.1 hx; exact rkS_bd n m)
  unfold rk
  simp at this
  omega
theorem ranks_l1 (all l : List Int) (hA : all.length ≤ 1000) (i : Nat) (n : Int) (out : List Int) (ho : out.length < 1000) (hi : i ≤ 1000) (R : List Int)
    (ih : ∀ r, r = rk all n → Ev (fun k => rank_ranks.l0 k all (out ++ [r]) l (l.length : Int) ((i + 1 : Nat) : Int)) R) :
    ∀ (suf : List Int) (j : Nat) (r : Int), all.drop j = suf → r = 1 + isum ((all.take j).map (rkS n)) → Ev (fun k => rank_ranks.l1 k all out n r l (l.length : Int) (i : Int) all (all.length : Int) (j : Int)) R
  | [], j, r, h, hr => by
    have hj := drop_endI h
    rw [List.take_of_length_le hj] at hr
    refine Ev.succ (ih r hr) (fun k => ?_)
    rw [rank_ranks.l1, if_neg (by omega), if_pos (by omega), wrap_up (by omega)]
  | m :: suf, j, r, h, hr => by
    obtain ⟨hj, hx, hd, ht⟩ := drop_atI h
    have p1 : (0 : Int) ≤ (j : Int) := by omega
    have p2 : (j : Int) < (all.length : Int) := by omega
    have hb := isum_bd 2 ((all.take j).map (rkS n)) (fun x hx => by obtain ⟨m, _, rfl⟩ := List.mem_map.1 hx; exact rkS_bd n m)
    have hl : ((all.take j).map (rkS n)).length ≤ 1000 := by simp; omega
    have hn : 1 + isum ((all.take (j + 1)).map (rkS n)) = r + rkS n m := by
      rw [ht, List.map_append, isum_append, hr]
      simp [isum_cons, isum_nil]
      omega
    have hrb : 0 ≤ r ∧ r ≤ 3000 := by
      rw [hr]
      have : (2 : Int) * (((all.take j).map (rkS n)).length : Int) ≤ 2 * 1000 := by omega
      omega
    by_cases c1 : m < n
    · have e : rkS n m = 2 := by unfold rkS; rw [if_pos c1]
      rw [e] at hn
      refine Ev.succ (ranks_l1 all l hA i n out ho hi R ih suf (j + 1) (r + 2) hd hn.symm) (fun k => ?_)
      rw [rank_ranks.l1, if_pos p2, if_pos p1, if_pos p2, hx, if_pos c1, wrap_up (by omega), show wrap64 (r + 2) = r + 2 by unfold wrap64; omega]
    · by_cases c2 : m = n
      · have e : rkS n m = 1 := by unfold rkS; rw [if_neg c1, if_pos c2]
        rw [e] at hn
        refine Ev.succ (ranks_l1 all l hA i n out ho hi R ih suf (j + 1) (r + 1) hd hn.symm) (fun k => ?_)
        rw [rank_ranks.l1, if_pos p2, if_pos p1, if_pos p2, hx, if_neg c1, if_pos c2, wrap_up (by omega), show wrap64 (r + 1) = r + 1 by unfold wrap64; omega]
      · have e : rkS n m = 0 := by unfold rkS; rw [if_neg c1, if_neg c2]
        rw [e] at hn
        refine Ev.succ (ranks_l1 all l hA i n out ho hi R ih suf (j + 1) r hd (by omega)) (fun k => ?_)
        rw [rank_ranks.l1, if_pos p2, if_pos p1, if_pos p2, hx, if_neg c1, if_neg c2, wrap_up (by omega)]
theorem ranks_l0 (all l : List Int) (hA : all.length ≤ 1000) (hl : l.length ≤ 1000) : ∀ (suf : List Int) (i : Nat) (out : List Int), l.drop i = suf → out.length = i → Ev (fun k => rank_ranks.l0 k all out l (l.length : Int) (i : Int)) (out ++ suf.map (rk all))
  | [], i, out, h, ho => by
    have hj := drop_endI h
    refine Ev.succ (Ev.const _) (fun k => ?_)
    rw [rank_ranks.l0, if_neg (by omega)]
    simp
  | n :: suf, i, out, h, ho => by
    obtain ⟨hi, hx, hd, _⟩ := drop_atI h
    have p1 : (0 : Int) ≤ (i : Int) := by omega
    have p2 : (i : Int) < (l.length : Int) := by omega
    have h1 := ranks_l1 all l hA i n out (by omega) (by omega) (out ++ (n :: suf).map (rk all))
      (fun r hr => by
        have := ranks_l0 all l hA hl suf (i + 1) (out ++ [r]) hd (by simp [ho])
        rw [hr] at this ⊢
        simpa using this) all 0 1 rfl (by simp [isum_nil])
    refine Ev.succ h1 (fun k => ?_)
    rw [rank_ranks.l0, if_pos p2, if_pos p1, if_pos p2, hx]
    rfl
theorem ranks_ev (l all : List Int) (hl : l.length ≤ 1000) (hA : all.length ≤ 1000) : Ev (fun k => rank_ranks.f k l all) (l.map (rk all)) := by
  have := ranks_l0 all l hA hl l 0 [] rfl rfl
  simpa [rank_ranks.f] using this
/-- The error of two lists. -/
def twoE (a b : List Int) : Int := if ftE a = 0 then (if ftE b = 0 then (if a.length + b.length > 24 then 8 else 0) else ftE b) else ftE a
theorem two_ev (a b : List Int) : Ev (fun k => rank_two.f k a b) (twoE a b) := by
  unfold rank_two.f twoE
  refine Ev.bind (fault_ev a) ?_
  by_cases c0 : ftE a = 0
  · simp only [if_pos c0]
    refine Ev.bind (fault_ev b) ?_
    by_cases c1 : ftE b = 0
    · simp only [if_pos c1]
      have h1 := (ft_ok c0).2.1
      have h2 := (ft_ok c1).2.1
      have hw : wrap64 ((a.length : Int) + (b.length : Int)) = ((a.length + b.length : Nat) : Int) := by unfold wrap64; omega
      simp only [hw]
      by_cases c2 : a.length + b.length > 24
      · simp only [if_pos (show ((a.length + b.length : Nat) : Int) > 24 by omega), if_pos c2]
        exact Ev.const _
      · simp only [if_neg (show ¬ ((a.length + b.length : Nat) : Int) > 24 by omega), if_neg c2]
        exact Ev.const _
    · simp only [if_neg c1]
      exact Ev.const _
  · simp only [if_neg c0]
    exact Ev.const _
theorem two_ok {a b : List Int} (h : twoE a b = 0) : ftE a = 0 ∧ ftE b = 0 ∧ a.length + b.length ≤ 24 := by
  unfold twoE at h
  by_cases c0 : ftE a = 0
  · rw [if_pos c0] at h
    by_cases c1 : ftE b = 0
    · rw [if_pos c1] at h
      by_cases c2 : a.length + b.length > 24
      · rw [if_pos c2] at h; cases h
      · exact ⟨c0, c1, by omega⟩
    · rw [if_neg c1] at h
      exact absurd h c1
  · rw [if_neg c0] at h
    exact absurd h c0
/-- The statistic of a among a and b. -/
def statL (a b : List Int) : Int := isum (a.map (rk (a ++ b)))
end Go.Proofs.Ytfhmjleimampeaa.K
