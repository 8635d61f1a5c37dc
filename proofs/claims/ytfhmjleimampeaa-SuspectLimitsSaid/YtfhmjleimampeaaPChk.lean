/- By hand: the first fault of findings in plain words. -/
import Derived.Test.YtfhmjleimampeaaPFault
import Derived.Test.YtfhmjleimampeaaK2
namespace Go.Proofs.Ytfhmjleimampeaa.K
open Go Go.RowKit Go.Proofs.YtfhmjleimampeaaW.PrintWords
set_option linter.unusedVariables false
set_option linter.unusedSimpArgs false
def rangeB (x : S30) : Bool := decide (x.f0 < 0) || (decide (x.f0 > 100000) || (decide (x.f1 < 1) || (decide (x.f1 > 1073741824) || (decide (x.f2 < 1) || (decide (x.f2 > 1073741824) || (decide (x.f3 < 0) || decide (x.f3 > 1099511627776)))))))
def ordB (p x : S30) : Bool := decide (x.f0 < p.f0) || (decide (x.f0 = p.f0) && decide (x.f1 ≤ p.f1))
def ordO : Option S30 → S30 → Bool
  | none, _ => false
  | some p, x => ordB p x
def chkGo : Option S30 → Int → List S30 → Int × Int
  | _, _, [] => (-1, 0)
  | p, i, x :: t => if rangeB x = true then (i, 2) else if ordO p x = true then (i, 5) else chkGo (some x) (i + 1) t
/-- The place and the error of findings. -/
def chkE (l : List S30) : Int × Int := if l.length > 24 then (-1, 8) else chkGo none 0 l
theorem drop_atF {l suf : List S30} {x : S30} {i : Nat} (h : l.drop i = x :: suf) : i < l.length ∧ rd_T30 l (i : Int) = x ∧ l.drop (i + 1) = suf := by
  have hi : i < l.length := by
    by_cases c : i < l.length
    · exact c
    · rw [List.drop_eq_nil_of_le (by omega)] at h; cases h
  rw [List.drop_eq_getElem_cons hi] at h
  injection h with h1 h2
  refine ⟨hi, ?_, h2⟩
  unfold rd_T30
  simp [List.getD_eq_getElem?_getD, hi, h1]
theorem drop_endF {l : List S30} {i : Nat} (h : l.drop i = []) : l.length ≤ i := by simpa using h
/-- The finding ahead of place i. -/
def ahead (l : List S30) (i : Nat) : Option S30 := if i = 0 then none else some (rd_T30 l ((i : Int) - 1))
theorem ahead_succ {l : List S30} {i : Nat} {x : S30} (h : rd_T30 l (i : Int) = x) : ahead l (i + 1) = some x := by
  unfold ahead
  rw [if_neg (by omega), show ((i + 1 : Nat) : Int) - 1 = (i : Int) by omega, h]
theorem chk_l0 (l : List S30) (hl : l.length ≤ 1000) : ∀ (suf : List S30) (i : Nat), l.drop i = suf → Ev (fun k => suspect_Check.l0 k l l (l.length : Int) (i : Int)) (chkGo (ahead l i) (i : Int) suf)
  | [], i, h => by
    have := drop_endF h
    exact Ev.succ (Ev.const _) (fun k => by rw [suspect_Check.l0, if_neg (by omega)]; rfl)
  | x :: suf, i, h => by
    obtain ⟨hi, hx, hd⟩ := drop_atF h
    have ih := chk_l0 l hl suf (i + 1) hd
    rw [ahead_succ hx] at ih
    have j2f : Ev (fun k => suspect_Check.j2 k l (i : Int) l (l.length : Int) (i : Int) false) (chkGo (some x) ((i : Int) + 1) suf) := by
      refine Ev.succ ih (fun k => ?_)
      rw [suspect_Check.j2, if_neg (by simp), wrap_up (by omega)]
    have j2t : Ev (fun k => suspect_Check.j2 k l (i : Int) l (l.length : Int) (i : Int) true) ((i : Int), 5) := Ev.succ (Ev.const _) (fun k => by rw [suspect_Check.j2, if_pos rfl])
    have bad : Ev (fun k => suspect_Check.j1 k l (i : Int) l (l.length : Int) (i : Int) true x.f0 x.f1 x.f2 x.f3) ((i : Int), 2) := Ev.succ (Ev.const _) (fun k => by rw [suspect_Check.j1, if_pos rfl])
    have good : Ev (fun k => suspect_Check.j1 k l (i : Int) l (l.length : Int) (i : Int) false x.f0 x.f1 x.f2 x.f3) (if ordO (ahead l i) x = true then ((i : Int), 5) else chkGo (some x) ((i : Int) + 1) suf) := by
      refine Ev.shift ?_
      simp only [suspect_Check.j1, Bool.false_eq_true, if_false]
      by_cases c0 : i = 0
      · subst c0
        exact j2f
      · have hw : wrap64 ((i : Int) - 1) = (i : Int) - 1 := by unfold wrap64; omega
        have ha : ahead l i = some (rd_T30 l ((i : Int) - 1)) := by unfold ahead; rw [if_neg c0]
        simp only [if_pos (show (i : Int) > 0 by omega), hw, if_pos (show 0 ≤ (i : Int) - 1 by omega), if_pos (show (i : Int) - 1 < (l.length : Int) by omega), ha, ordO, ordB]
        by_cases c1 : x.f0 < (rd_T30 l ((i : Int) - 1)).f0
        · simp only [c1, if_true, decide_true, Bool.true_or]
          exact j2t
        · simp only [c1, if_false, decide_false, Bool.false_or]
          by_cases c2 : x.f0 = (rd_T30 l ((i : Int) - 1)).f0
          · simp only [c2, if_true, decide_true, Bool.true_and]
            by_cases c3 : x.f1 ≤ (rd_T30 l ((i : Int) - 1)).f1
            · simp only [c3, decide_true, if_true]
              exact j2t
            · simp only [c3, decide_false, Bool.false_eq_true, if_false]
              exact j2f
          · simp only [c2, if_false, decide_false, Bool.false_and, Bool.false_eq_true]
            exact j2f
    refine Ev.shift ?_
    simp only [suspect_Check.l0, if_pos (show (i : Int) < (l.length : Int) by omega), if_pos (show 0 ≤ (i : Int) by omega), hx]
    rw [chkGo]
    unfold rangeB
    by_cases c0 : x.f0 < 0
    · simp only [c0, if_true, decide_true, Bool.true_or]; exact bad
    simp only [c0, if_false, decide_false, Bool.false_or]
    by_cases c1 : x.f0 > 100000
    · simp only [c1, if_true, decide_true, Bool.true_or]; exact bad
    simp only [c1, if_false, decide_false, Bool.false_or]
    by_cases c2 : x.f1 < 1
    · simp only [c2, if_true, decide_true, Bool.true_or]; exact bad
    simp only [c2, if_false, decide_false, Bool.false_or]
    by_cases c3 : x.f1 > 1073741824
    · simp only [c3, if_true, decide_true, Bool.true_or]; exact bad
    simp only [c3, if_false, decide_false, Bool.false_or]
    by_cases c4 : x.f2 < 1
    · simp only [c4, if_true, decide_true, Bool.true_or]; exact bad
    simp only [c4, if_false, decide_false, Bool.false_or]
    by_cases c5 : x.f2 > 1073741824
    · simp only [c5, if_true, decide_true, Bool.true_or]; exact bad
    simp only [c5, if_false, decide_false, Bool.false_or]
    by_cases c6 : x.f3 < 0
    · simp only [c6, if_true, decide_true, Bool.true_or]; exact bad
    simp only [c6, if_false, decide_false, Bool.false_or]
    by_cases c7 : x.f3 > 1099511627776
    · simp only [c7, decide_true, if_true]; exact bad
    · simp only [c7, decide_false, Bool.false_eq_true, if_false]; exact good
theorem chk_ev (l : List S30) : Ev (fun k => suspect_Check.f k l) (chkE l) := by
  unfold suspect_Check.f chkE
  by_cases c : l.length > 24
  · simp only [if_pos c, if_pos (show (l.length : Int) > 24 by omega)]
    exact Ev.const _
  · simp only [if_neg c, if_neg (show ¬ (l.length : Int) > 24 by omega)]
    exact chk_l0 l (by omega) l 0 rfl
theorem right_ev (l : List S30) : Ev (fun k => suspect_right.f k l) ((chkE l).2 == 0) := by
  unfold suspect_right.f
  exact Ev.bind (chk_ev l) (Ev.const _)
theorem range_ok {x : S30} (h : rangeB x = false) : (0 ≤ x.f0 ∧ x.f0 ≤ 100000) ∧ (1 ≤ x.f1 ∧ x.f1 ≤ 1073741824) ∧ (1 ≤ x.f2 ∧ x.f2 ≤ 1073741824) ∧ (0 ≤ x.f3 ∧ x.f3 ≤ 1099511627776) := by
  unfold rangeB at h
  simp only [Bool.or_eq_false_iff, decide_eq_false_iff_not] at h
  omega
theorem chkGo_ok : ∀ (suf : List S30) (p : Option S30) (i : Int), (chkGo p i suf).2 = 0 → ∀ x ∈ suf, rangeB x = false
  | [], _, _, _, x, hx => by cases hx
  | y :: suf, p, i, h, x, hx => by
    rw [chkGo] at h
    by_cases c : rangeB y = true
    · rw [if_pos c] at h; cases h
    · rw [if_neg c] at h
      by_cases c2 : ordO p y = true
      · rw [if_pos c2] at h; cases h
      · rw [if_neg c2] at h
        rcases List.mem_cons.1 hx with rfl | hx
        · exact Bool.eq_false_iff.2 c
        · exact chkGo_ok suf _ _ h x hx
theorem chk_ok {l : List S30} (h : (chkE l).2 = 0) : l.length ≤ 24 ∧ ∀ x ∈ l, (0 ≤ x.f0 ∧ x.f0 ≤ 100000) ∧ (1 ≤ x.f1 ∧ x.f1 ≤ 1073741824) ∧ (1 ≤ x.f2 ∧ x.f2 ≤ 1073741824) ∧ (0 ≤ x.f3 ∧ x.f3 ≤ 1099511627776) := by
  unfold chkE at h
  by_cases c : l.length > 24
  · rw [if_pos c] at h; cases h
  · rw [if_neg c] at h
    exact ⟨by omega, fun x hx => range_ok (chkGo_ok l _ _ h x hx)⟩
end Go.Proofs.Ytfhmjleimampeaa.K
