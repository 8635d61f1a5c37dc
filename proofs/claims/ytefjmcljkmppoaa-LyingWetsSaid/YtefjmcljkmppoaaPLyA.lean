/- By hand: the examples and guards of the laws of layer 11. -/
import Derived.Test.YtefjmcljkmppoaaPLyW
import Derived.Test.YtefjmcljkmppoaaGClone
import Derived.Test.YtefjmcljkmppoaaGCloneP
import Derived.Test.YtefjmcljkmppoaaK9
import Derived.Test.YtefjmcljkmppoaaK10
import Derived.KernelRfl
namespace Go.Proofs.Ytefjmcljkmppoaa.K
open Go.RowKit Go.Proofs.YtefjmcljkmppoaaW.PrintWords
set_option linter.unusedVariables false
set_option linter.unusedSimpArgs false
theorem cloneP_ev (l : List S39) (h : l.length ≤ 1000000) : clone18.f l = some l := by unfold clone18.f; rw [if_pos (by omega)]
theorem rd24_0 (x : S24) : rd_T24 [x] 0 = x := rfl
theorem own_ev (a : ByteArray) (p : Int) (l : List S39) (d : Int) (hl : l.length ≤ 1000000) : Ev (fun k => spilelaw11_own.f k a p l d) (a, p, l, d) := by
  have h : Ev (fun k => spileref09_Copy.f k [(⟨a, p, l, d⟩ : S24)]) [(⟨a, p, l, d⟩ : S24)] := by
    unfold spileref09_Copy.f
    refine Ev.succ (g' := fun k => spileref09_Copy.l0 k [(⟨a, p, l, d⟩ : S24)] [(⟨a, p, l, d⟩ : S24)] 1) (Ev.succ (Ev.const _) (fun k => ?_)) (fun k => ?_)
    · rw [spileref09_Copy.l0, if_neg (by simp)]
    · rw [spileref09_Copy.l0, if_pos (by simp), if_pos (by decide)]
      simp only [Option.bind_some, rd24_0, List.nil_append, List.length_nil, Nat.zero_add]
      rw [if_pos (by omega), if_pos (by omega), show wrap64 (0 + 1) = 1 by unfold wrap64; omega]
  unfold spilelaw11_own.f
  refine Ev.bind h ?_
  exact (Ev.const (a, p, l, d)).congr (fun k => by rw [if_pos (by simp)]; rfl)
theorem eqB_l0 (a b : List S28) (hl : a.length ≤ 100000) (he : a = b) : ∀ (m i : Nat), i + m = a.length → Ev (fun k => api_Bounds.l0 k a b (a.length : Int) (i : Int)) true := by
  subst he
  intro m
  induction m with
  | zero =>
    intro i hi
    exact Ev.succ (Ev.const _) (fun k => by rw [api_Bounds.l0, if_neg (by omega)])
  | succ m ih =>
    intro i hi
    refine Ev.succ (ih (i + 1) (by omega)) (fun k => ?_)
    rw [api_Bounds.l0, if_pos (by omega), if_pos (by omega), if_pos (by omega), if_pos (by omega), if_neg (by simp), wrap_up (by omega)]
theorem eqB_ev (a : List S28) (hl : a.length ≤ 100000) : Ev (fun k => api_Bounds.f k a a) true := by
  unfold api_Bounds.f
  exact (eqB_l0 a a hl rfl a.length 0 (Nat.zero_add _)).congr (fun k => by rw [if_pos rfl]; rfl)
def drum : List S39 := [⟨0, 5⟩, ⟨10, 5⟩]
def cone : List S39 := [⟨0, 1⟩, ⟨5, 2⟩, ⟨6, 2⟩]
set_option maxRecDepth 100000 in
theorem ex1 : bspE ⟨#[100]⟩ 1 drum 0 [0, 10] [0, 5, 10] = (0, 1000, 0) := by kernel_rfl
set_option maxRecDepth 100000 in
theorem ex2 : bspE ⟨#[100]⟩ 1 drum 0 [0, 10] [0, 2, 5, 8, 10] = (480, 920, 0) := by kernel_rfl
set_option maxRecDepth 100000 in
theorem ex3 : cutE ⟨#[100]⟩ 1 drum 0 5 1 5 false = (300, 440, 0) := by kernel_rfl
set_option maxRecDepth 100000 in
theorem ex4 : cutE ⟨#[100]⟩ 1 drum 0 5 1 5 true = (300, 440, 0) := by kernel_rfl
set_option maxRecDepth 100000 in
theorem ex5 : slcE cone 2 = ([0, 2, 5, 6], 0) := by kernel_rfl
set_option maxRecDepth 100000 in
theorem ex6 : strE ⟨#[100]⟩ 1 drum 0 [0, 10] [0, 2, 5] = ([⟨0, 160⟩, ⟨240, 300⟩], 0) := by kernel_rfl
set_option maxRecDepth 100000 in
theorem ex7 : lchC ⟨#[100]⟩ 1 drum 0 [0, 10] = 0 := by kernel_rfl
theorem awake_ev : Ev (fun k => spilelaw11_awake.f k) true := by
  unfold spilelaw11_awake.f spilelaw11_Drum.f
  simp only [Option.bind_some]
  refine Ev.bind (by have := pbet_ev ⟨#[100]⟩ 1 drum 0 [0, 10] [0, 5, 10]; rw [ex1] at this; exact this) ?_
  refine Ev.bind (by have := pbet_ev ⟨#[100]⟩ 1 drum 0 [0, 10] [0, 2, 5, 8, 10]; rw [ex2] at this; exact this) ?_
  refine Ev.bind (by have := pwet_ev ⟨#[100]⟩ 1 drum 0 5 1 5; rw [ex3] at this; exact this) ?_
  refine Ev.bind (by have := pdry_ev ⟨#[100]⟩ 1 drum 0 5 1 5; rw [ex4] at this; exact this) ?_
  refine Ev.bind (by have := pslc_ev cone 2; rw [ex5] at this; exact this) ?_
  refine Ev.bind (by have := pstr_ev ⟨#[100]⟩ 1 drum 0 [0, 10] [0, 2, 5]; rw [ex6] at this; exact this) ?_
  simp only [if_true, beq_self_eq_true, Bool.and_self]
  refine Ev.bind (by have := eqI_ev [0, 2, 5, 6] [0, 2, 5, 6] (by decide); rw [decide_eq_true rfl] at this; exact this) ?_
  simp only [if_true]
  refine Ev.bind (eqB_ev _ (by decide)) ?_
  simp only [if_true]
  refine Ev.bind (by have := lchk_ev ⟨#[100]⟩ 1 drum 0 [0, 10]; rw [ex7] at this; exact this) ?_
  exact Ev.const _
def fewP (a : ByteArray) (l : List S39) (ls : List (List Int)) : Bool := (decide (l.length ≤ 33) && decide (a.size ≤ 70)) && !ls.any longP
theorem few_ev (a : ByteArray) (p : Int) (l : List S39) (d : Int) (ls : List (List Int)) : Ev (fun k => spilelaw11_few.f k a p l d ls) (fewP a l ls) := by
  have h : Ev (fun k => spileref09_Few.f k [(⟨a, p, l, d⟩ : S24)]) (decide (l.length ≤ 33) && decide (a.size ≤ 70)) := by
    unfold spileref09_Few.f
    have e0 : ∀ k, spileref09_Few.l0 (k + 1) [(⟨a, p, l, d⟩ : S24)] 0 = if decide (l.length ≤ 33) = true then (if ((a.size : Int) > 70) then some false else spileref09_Few.l0 k [(⟨a, p, l, d⟩ : S24)] 1) else some false := fun k => by
      rw [spileref09_Few.l0, if_pos (by simp), if_pos (by decide), rd24_0]
      simp only [spileref08_Few.f, Option.bind_some]
      rw [show decide ((l.length : Int) ≤ 33) = decide (l.length ≤ 33) from decide_eq_decide.2 (by omega), show wrap64 (0 + 1) = 1 by unfold wrap64; omega]
    refine Ev.succ ?_ e0
    by_cases c1 : l.length ≤ 33
    · simp only [decide_eq_true c1, Bool.true_and, if_true]
      by_cases c2 : a.size ≤ 70
      · simp only [decide_eq_true c2, if_neg (show ¬ (a.size : Int) > 70 by omega)]
        exact Ev.succ (Ev.const _) (fun k => by rw [spileref09_Few.l0, if_neg (by simp)]; rfl)
      · simp only [decide_eq_false c2, if_pos (show (a.size : Int) > 70 by omega)]
        exact Ev.const _
    · simp only [decide_eq_false c1, Bool.false_and, Bool.false_eq_true, if_false]
      exact Ev.const _
  unfold spilelaw11_few.f fewP cont40.f
  refine Ev.bind h ?_
  cases c : decide (l.length ≤ 33) && decide (a.size ≤ 70) with
  | true => exact (Ev.const _).congr (fun k => by rw [if_pos rfl]; rfl)
  | false => exact (Ev.const _).congr (fun k => by rw [if_neg (by simp)]; rfl)
theorem few_spec {a : ByteArray} {l : List S39} {ls : List (List Int)} (h : fewP a l ls = true) : (l.length ≤ 33 ∧ a.size ≤ 70) ∧ ∀ v ∈ ls, v.length ≤ 66 := by
  simp only [fewP, Bool.and_eq_true, decide_eq_true_eq] at h
  refine ⟨h.1, fun v hv => ?_⟩
  have h2 : ls.any longP = false := by simpa using h.2
  have := List.any_eq_false.1 h2 v hv
  simp only [longP, decide_eq_true_eq] at this
  omega
end Go.Proofs.Ytefjmcljkmppoaa.K
