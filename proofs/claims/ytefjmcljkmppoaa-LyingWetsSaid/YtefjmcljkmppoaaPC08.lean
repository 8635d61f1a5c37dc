/- By hand: the reference's check of a profile comes to what profile.Check tells. -/
import Derived.Test.YtefjmcljkmppoaaPCask
import Derived.Test.YtefjmcljkmppoaaK11
namespace Go.Proofs.Ytefjmcljkmppoaa.K
open Go.RowKit Go.Proofs.YtefjmcljkmppoaaW.PrintWords
set_option linter.unusedVariables false
set_option linter.unusedSimpArgs false
theorem isLen_ev (n : Int) : spileref08_isLength.f n = some (measP n) := by
  unfold spileref08_isLength.f measP
  by_cases c : n ≥ 0
  · rw [if_pos c, decide_eq_true c, Bool.true_and]
  · rw [if_neg c, decide_eq_false c, Bool.false_and]
theorem c08_l3 (l : List S39) (hl : l.length ≤ 1000) : ∀ (suf : List S39) (f : Bool) (i : Nat) (p : S39), l.drop i = p :: suf → Ev (fun k => spileref08_Check.l3 k l f ((i + 1 : Nat) : Int)) (if runF f (pairs (p :: suf)) = none then 10 else 0)
  | [], f, i, p, h => by
    obtain ⟨h1, h2, h3⟩ := drop_atP h
    have h4 := drop_end h3
    refine Ev.succ (Ev.const _) (fun k => ?_)
    rw [spileref08_Check.l3, if_neg (by omega)]
    rfl
  | q :: suf, f, i, p, h => by
    obtain ⟨h1, h2, h3⟩ := drop_atP h
    obtain ⟨g1, g2, g3⟩ := drop_atP h3
    have ih := fun f' => c08_l3 l hl suf f' (i + 1) q h3
    have e1 : wrap64 (((i + 1 : Nat) : Int) - 1) = (i : Int) := by rw [wrap_dn (by omega) (by omega)]; simp
    have e2 : wrap64 (((i + 1 : Nat) : Int) + 1) = ((i + 1 + 1 : Nat) : Int) := wrap_up (by omega)
    have p1 : ((i + 1 : Nat) : Int) < (l.length : Int) := by omega
    have p2 : (0 : Int) ≤ ((i + 1 : Nat) : Int) := by omega
    have p3 : (0 : Int) ≤ (i : Int) := by omega
    have p4 : (i : Int) < (l.length : Int) := by omega
    cases f with
    | true =>
      by_cases c : p.f1 < q.f1
      · have e3 : runF true (pairs (p :: q :: suf)) = none := by rw [pairs, runF, if_pos (by simp [c])]
        rw [if_pos e3]
        refine Ev.succ (Ev.const _) (fun k => ?_)
        rw [spileref08_Check.l3, if_pos p1, if_pos rfl, if_pos p2, e1, if_pos p3, if_pos p4, g2, h2, if_pos c]
      · have e3 : runF true (pairs (p :: q :: suf)) = runF true (pairs (q :: suf)) := by rw [pairs, runF, if_neg (by simp [c])]; rfl
        rw [e3]
        refine Ev.succ (ih true) (fun k => ?_)
        rw [spileref08_Check.l3, if_pos p1, if_pos rfl, if_pos p2, e1, if_pos p3, if_pos p4, g2, h2, if_neg (by omega), e2]
    | false =>
      have e3 : runF false (pairs (p :: q :: suf)) = runF (decide (q.f1 < p.f1)) (pairs (q :: suf)) := by rw [pairs, runF, if_neg (by simp)]; rfl
      rw [e3]
      refine Ev.succ (ih (decide (q.f1 < p.f1))) (fun k => ?_)
      rw [spileref08_Check.l3, if_pos p1, if_neg (by simp), if_pos p2, e1, if_pos p3, if_pos p4, g2, h2, e2]
theorem c08_l2 (l : List S39) (hl : l.length ≤ 1000) (h2 : 2 ≤ l.length) : ∀ (suf : List S39) (i : Nat), l.drop i = suf → Ev (fun k => spileref08_Check.l2 k l (i : Int)) (if suf.any zeroP = true then 16 else if runF false (pairs l) = none then 10 else 0)
  | [], i, h => by
    have h4 := drop_end h
    obtain ⟨p, suf, hp⟩ : ∃ p suf, l.drop 0 = p :: suf := by
      cases l with
      | nil => simp at h2
      | cons p suf => exact ⟨p, suf, rfl⟩
    have := c08_l3 l hl suf false 0 p hp
    rw [← hp, List.drop_zero] at this
    exact Ev.succ this (fun k => by rw [spileref08_Check.l2, if_neg (by omega)]; rfl)
  | q :: suf, i, h => by
    obtain ⟨g1, g2, g3⟩ := drop_atP h
    have ih := c08_l2 l hl h2 suf (i + 1) g3
    have p1 : (i : Int) < (l.length : Int) := by omega
    have p2 : (0 : Int) ≤ (i : Int) := by omega
    rw [List.any_cons]
    by_cases c : q.f1 = 0
    · refine Ev.succ (Ev.const _) (fun k => ?_)
      rw [spileref08_Check.l2, if_pos p1, if_pos p2, g2, if_pos c]
      simp [zeroP, c]
    · have e : zeroP q = false := by simp [zeroP, c]
      rw [e, Bool.false_or]
      refine Ev.succ ih (fun k => ?_)
      rw [spileref08_Check.l2, if_pos p1, if_pos p2, g2, if_neg c, wrap_up (by omega)]
theorem c08_l1 (l : List S39) (hl : l.length ≤ 1000) (h2 : 2 ≤ l.length) : ∀ (suf : List S39) (i : Nat) (p : S39), l.drop i = p :: suf → Ev (fun k => spileref08_Check.l1 k l ((i + 1 : Nat) : Int)) (if (pairs (p :: suf)).any (fun x => decide (x.2.f0 ≤ x.1.f0)) = true then 5 else if l.any zeroP = true then 16 else if runF false (pairs l) = none then 10 else 0)
  | [], i, p, h => by
    obtain ⟨h1, h2', h3⟩ := drop_atP h
    have h4 := drop_end h3
    have := c08_l2 l hl h2 l 0 List.drop_zero
    exact Ev.succ this (fun k => by rw [spileref08_Check.l1, if_neg (by omega)]; rfl)
  | q :: suf, i, p, h => by
    obtain ⟨h1, h2', h3⟩ := drop_atP h
    obtain ⟨g1, g2, g3⟩ := drop_atP h3
    have ih := c08_l1 l hl h2 suf (i + 1) q h3
    have e1 : wrap64 (((i + 1 : Nat) : Int) - 1) = (i : Int) := by rw [wrap_dn (by omega) (by omega)]; simp
    have e2 : wrap64 (((i + 1 : Nat) : Int) + 1) = ((i + 1 + 1 : Nat) : Int) := wrap_up (by omega)
    have p1 : ((i + 1 : Nat) : Int) < (l.length : Int) := by omega
    have p2 : (0 : Int) ≤ ((i + 1 : Nat) : Int) := by omega
    have p3 : (0 : Int) ≤ (i : Int) := by omega
    have p4 : (i : Int) < (l.length : Int) := by omega
    have p5 : ¬ ((i + 1 : Nat) : Int) = 0 := by omega
    have p6 : ((i + 1 : Nat) : Int) > 0 := by omega
    rw [pairs, List.any_cons]
    have step : ∀ k, spileref08_Check.l1 (k + 1) l ((i + 1 : Nat) : Int) = spileref08_Check.j2 k l ((i + 1 : Nat) : Int) (decide (p.f0 ≥ q.f0)) := fun k => by
      rw [spileref08_Check.l1, if_pos p1, if_neg p5, if_pos p6, e1, if_pos p3, if_pos p4, if_pos p2, g2, h2']
    refine Ev.succ ?_ step
    by_cases c : q.f0 ≤ p.f0
    · refine Ev.succ (Ev.const _) (fun k => ?_)
      rw [spileref08_Check.j2, if_pos (decide_eq_true c)]
      simp [c]
    · rw [decide_eq_false c, Bool.false_or]
      refine Ev.succ ih (fun k => ?_)
      rw [spileref08_Check.j2, if_neg (by simp), e2]
theorem c08_l0 (l : List S39) (hl : l.length ≤ 1000) (h2 : 2 ≤ l.length) : ∀ (suf : List S39) (i : Nat), l.drop i = suf → Ev (fun k => spileref08_Check.l0 k l (i : Int)) (if suf.any badP = true then 2 else if (rd_T39 l 0).f0 ≠ 0 then 5
    else if (pairs l).any (fun x => decide (x.2.f0 ≤ x.1.f0)) = true then 5 else if l.any zeroP = true then 16 else if runF false (pairs l) = none then 10 else 0)
  | [], i, h => by
    have h4 := drop_end h
    obtain ⟨p, suf, hp⟩ : ∃ p suf, l.drop 0 = p :: suf := by
      cases l with
      | nil => simp at h2
      | cons p suf => exact ⟨p, suf, rfl⟩
    have hx := c08_l1 l hl h2 suf 0 p hp
    rw [← hp, List.drop_zero] at hx
    refine Ev.succ ?_ (fun k => by rw [spileref08_Check.l0, if_neg (by omega)])
    rw [if_neg (by simp)]
    have p1 : (0 : Int) < (l.length : Int) := by omega
    by_cases c : (rd_T39 l 0).f0 = 0
    · rw [if_neg (by simpa using c)]
      refine Ev.succ (g' := fun k => spileref08_Check.j2 k l 0 false) ?_ (fun k => by rw [spileref08_Check.l1, if_pos p1, if_pos rfl, if_pos (by decide), if_pos c, if_neg (by decide)])
      refine Ev.succ hx (fun k => ?_)
      rw [spileref08_Check.j2, if_neg (by simp), show wrap64 (0 + 1) = ((0 + 1 : Nat) : Int) by unfold wrap64; omega]
    · rw [if_pos c]
      refine Ev.succ (g' := fun k => spileref08_Check.j2 k l 0 true) ?_ (fun k => by rw [spileref08_Check.l1, if_pos p1, if_pos rfl, if_pos (by decide), if_neg c])
      exact Ev.succ (Ev.const _) (fun k => by rw [spileref08_Check.j2, if_pos rfl])
  | q :: suf, i, h => by
    obtain ⟨g1, g2, g3⟩ := drop_atP h
    have ih := c08_l0 l hl h2 suf (i + 1) g3
    have p1 : (i : Int) < (l.length : Int) := by omega
    have p2 : (0 : Int) ≤ (i : Int) := by omega
    rw [List.any_cons]
    cases c1 : measP q.f0 with
    | false =>
      refine Ev.succ (Ev.const _) (fun k => ?_)
      rw [spileref08_Check.l0, if_pos p1, if_pos p2, g2, isLen_ev, c1, Option.bind_some, if_neg (by simp)]
      simp [badP, c1]
    | true =>
      cases c2 : measP q.f1 with
      | false =>
        refine Ev.succ (Ev.const _) (fun k => ?_)
        rw [spileref08_Check.l0, if_pos p1, if_pos p2, g2, isLen_ev, c1, Option.bind_some, if_pos rfl, isLen_ev, c2, Option.bind_some, if_neg (by simp)]
        simp [badP, c2]
      | true =>
        have e : badP q = false := by simp [badP, c1, c2]
        rw [e, Bool.false_or]
        refine Ev.succ ih (fun k => ?_)
        rw [spileref08_Check.l0, if_pos p1, if_pos p2, g2, isLen_ev, c1, Option.bind_some, if_pos rfl, isLen_ev, c2, Option.bind_some, if_pos rfl, wrap_up (by omega)]
theorem c08_ev (l : List S39) : Ev (fun k => spileref08_Check.f k l) (profC l) := by
  unfold spileref08_Check.f profC
  by_cases c1 : l.length < 2
  · rw [if_pos c1]
    exact (Ev.const (9 : Int)).congr (fun k => by rw [if_pos (by omega)])
  · rw [if_neg c1]
    by_cases c2 : 32 < l.length
    · rw [if_pos c2]
      exact (Ev.const (8 : Int)).congr (fun k => by rw [if_neg (by omega), if_pos (by omega)])
    · rw [if_neg c2]
      exact (c08_l0 l (by omega) (by omega) l 0 List.drop_zero).congr (fun k => by rw [if_neg (by omega), if_neg (by omega)]; rfl)
end Go.Proofs.Ytefjmcljkmppoaa.K
