/- By hand: the reference's check of places, in plain words. -/
import Derived.Test.YtefjmcljkmppoaaPRefC
import Derived.Test.YtefjmcljkmppoaaK20
import Derived.Test.YtefjmcljkmppoaaK19a
namespace Go.Proofs.Ytefjmcljkmppoaa.K
open Go.RowKit Go.Proofs.YtefjmcljkmppoaaW.PrintWords
set_option linter.unusedVariables false
set_option linter.unusedSimpArgs false
theorem has_l0 (l : List Int) (x : Int) (hl : l.length ≤ 100000) : ∀ (suf : List Int) (i : Nat), l.drop i = suf → Ev (fun k => spileref11_has.l0 k l x (i : Int)) (decide (x ∈ suf))
  | [], i, h => by
    have h4 := drop_end h
    exact Ev.succ (Ev.const _) (fun k => by rw [spileref11_has.l0, if_neg (by omega)]; rfl)
  | q :: suf, i, h => by
    obtain ⟨g1, g2, g3, _⟩ := drop_atI h
    have ih := has_l0 l x hl suf (i + 1) g3
    have p1 : (i : Int) < (l.length : Int) := by omega
    have p2 : (0 : Int) ≤ (i : Int) := by omega
    by_cases c : q = x
    · exact Ev.succ (Ev.const _) (fun k => by rw [spileref11_has.l0, if_pos p1, if_pos p2, g2, if_pos c]; simp [c])
    · rw [show decide (x ∈ q :: suf) = decide (x ∈ suf) by simp [Ne.symm c]]
      exact Ev.succ ih (fun k => by rw [spileref11_has.l0, if_pos p1, if_pos p2, g2, if_neg c, wrap_up (by omega)])
theorem has_ev (l : List Int) (x : Int) (hl : l.length ≤ 100000) : Ev (fun k => spileref11_has.f k l x) (decide (x ∈ l)) := has_l0 l x hl l 0 List.drop_zero
section
variable (a : ByteArray) (p : Int) (l : List S39) (d : Int) (v : List Int) (hl : 1 ≤ l.length ∧ l.length ≤ 1000) (hv : 2 ≤ v.length ∧ v.length ≤ 1000)
include hl hv
theorem rcc_l1 (suf : List S39) : ∀ (i : Nat), l.drop i = suf → Ev (fun k => spileref11_Check.l1 k v l (i : Int)) (if suf.any (fun q => !decide (q.f0 ∈ v)) = true then 7 else 0) := by
  induction suf with
  | nil =>
    intro i h
    have h4 := drop_end h
    exact Ev.succ (Ev.const _) (fun k => by rw [spileref11_Check.l1, if_neg (by omega)]; rfl)
  | cons q suf ih =>
    intro i h
    obtain ⟨h1, h2, h3⟩ := drop_atP h
    have ih := ih (i + 1) h3
    have hb : Ev (fun k => (spileref11_has.f k v q.f0).bind fun t => if t = true then spileref11_Check.l1 k v l (wrap64 ((i : Int) + 1)) else some 7) (if (q :: suf).any (fun q => !decide (q.f0 ∈ v)) = true then 7 else 0) := by
      refine Ev.bind (has_ev v q.f0 (by omega)) ?_
      rw [List.any_cons]
      by_cases c : q.f0 ∈ v
      · simp only [decide_eq_true c, if_true, Bool.not_true, Bool.false_or, wrap_up (show i ≤ 1000000 by omega)]
        exact ih
      · simp only [decide_eq_false c, Bool.not_false, Bool.true_or, if_true]
        exact Ev.const _
    refine Ev.succ hb (fun k => ?_)
    rw [spileref11_Check.l1, if_pos (by omega), if_pos (by omega), h2]
theorem rcc_l0 (suf : List Int) : ∀ (i : Nat) (x : Int), v.drop i = x :: suf → Ev (fun k => spileref11_Check.l0 k v ((i + 1 : Nat) : Int) a p l d) (if ascB (x :: suf) = false then 5 else if rd v 0 ≠ 0 ∨ rd v ((v.length : Int) - 1) ≠ lastX l then 5 else if l.any (fun q => !decide (q.f0 ∈ v)) = true then 7 else 0) := by
  induction suf with
  | nil =>
    intro i x h
    obtain ⟨g1, g2, g3, _⟩ := drop_atI h
    have h4 := drop_end g3
    have e1 : wrap64 ((v.length : Int) - 1) = (v.length : Int) - 1 := by unfold wrap64; omega
    have e2 : wrap64 ((l.length : Int) - 1) = (l.length : Int) - 1 := by unfold wrap64; omega
    have h1 := rcc_l1 l v hl hv l 0 List.drop_zero
    have hj : ∀ b : Bool, Ev (fun k => spileref11_Check.j1 k v l b) (if b = true then 5 else if l.any (fun q => !decide (q.f0 ∈ v)) = true then 7 else 0) := fun b => by
      cases b with
      | true => exact Ev.succ (Ev.const _) (fun k => by rw [spileref11_Check.j1, if_pos rfl, if_pos rfl])
      | false => exact Ev.succ h1 (fun k => by rw [spileref11_Check.j1, if_neg (by simp)]; rfl)
    rw [show ascB [x] = true from rfl, if_neg (by simp)]
    by_cases c : rd v 0 = 0
    · have := hj (rd v ((v.length : Int) - 1) != lastX l)
      rw [show (if rd v 0 ≠ 0 ∨ rd v ((v.length : Int) - 1) ≠ lastX l then (5 : Int) else if l.any (fun q => !decide (q.f0 ∈ v)) = true then 7 else 0) = if (rd v ((v.length : Int) - 1) != lastX l) = true then 5 else if l.any (fun q => !decide (q.f0 ∈ v)) = true then 7 else 0 by simp [c]]
      refine Ev.succ this (fun k => ?_)
      rw [spileref11_Check.l0, if_neg (by omega), if_pos (by omega), if_pos c, e1, if_pos (by omega), if_pos (by omega), e2, if_pos (by omega), if_pos (by omega)]
      rfl
    · rw [if_pos (Or.inl c)]
      refine Ev.succ (hj true) (fun k => ?_)
      rw [spileref11_Check.l0, if_neg (by omega), if_pos (by omega), if_neg c]
  | cons y suf ih =>
    intro i x h
    obtain ⟨g1, g2, g3, _⟩ := drop_atI h
    obtain ⟨f1, f2, f3, _⟩ := drop_atI g3
    have ih := ih (i + 1) y g3
    have e1 : wrap64 (((i + 1 : Nat) : Int) - 1) = (i : Int) := by rw [wrap_dn (by omega) (by omega)]; simp
    have e2 : wrap64 (((i + 1 : Nat) : Int) + 1) = ((i + 1 + 1 : Nat) : Int) := wrap_up (by omega)
    rw [show ascB (x :: y :: suf) = (decide (x < y) && ascB (y :: suf)) from rfl]
    by_cases c : x < y
    · rw [decide_eq_true c, Bool.true_and]
      refine Ev.succ ih (fun k => ?_)
      rw [spileref11_Check.l0, if_pos (by omega), e1, if_pos (by omega), if_pos (by omega), if_pos (by omega), g2, f2, if_neg (by omega), e2]
    · rw [decide_eq_false c, Bool.false_and, if_pos rfl]
      refine Ev.succ (Ev.const _) (fun k => ?_)
      rw [spileref11_Check.l0, if_pos (by omega), e1, if_pos (by omega), if_pos (by omega), if_pos (by omega), g2, f2, if_pos (by omega)]
end
theorem rchk_ev (a : ByteArray) (p : Int) (l : List S39) (d : Int) (v : List Int) (ha : a.size ≤ 1000) : Ev (fun k => spileref11_Check.f k a p l d v) (lchC a p l d v) := by
  unfold spileref11_Check.f lchC
  refine Ev.bind (is_ev a p l d ha) ?_
  by_cases c : lieC a p l d = 0
  · obtain ⟨c1, c2, c3⟩ := lie_spec c
    have hl := prof_len l c3
    simp only [if_pos c]
    by_cases c4 : v.length < 2
    · simp only [if_pos c4, if_pos (show (v.length : Int) < 2 by omega)]
      exact Ev.const _
    · by_cases c5 : v.length > 65
      · simp only [if_neg c4, if_pos c5, if_neg (show ¬ (v.length : Int) < 2 by omega), if_pos (show (v.length : Int) > 65 by omega)]
        exact Ev.const _
      · simp only [if_neg c4, if_neg c5, if_neg (show ¬ (v.length : Int) < 2 by omega), if_neg (show ¬ (v.length : Int) > 65 by omega)]
        obtain ⟨x, suf, hd⟩ := drop0 (l := v) (by omega)
        have := rcc_l0 a p l d v ⟨by omega, by omega⟩ ⟨by omega, by omega⟩ suf 0 x hd
        rw [← hd, List.drop_zero] at this
        exact this
  · simp only [if_neg c]
    exact Ev.const _
end Go.Proofs.Ytefjmcljkmppoaa.K
