/- By hand: 'enough rounds' and the error of numbers in plain words. -/
import Derived.Test.YtfhmjleimampeaaK3a
import Derived.Test.YtfhmjleimampeaaGShort
namespace Go.Proofs.Ytfhmjleimampeaa.K
open Go.RowKit Go.Proofs.YtfhmjleimampeaaW.PrintWords
set_option linter.unusedVariables false
set_option linter.unusedSimpArgs false
def Ev {α : Type} (g : Nat → Option α) (r : α) : Prop := ∃ K, ∀ k, K ≤ k → g k = some r
section
variable {α β : Type} {g g' : Nat → Option α} {r : α}
theorem Ev.const (r : α) : Ev (fun _ => some r) r := ⟨0, fun _ _ => rfl⟩
theorem Ev.congr (h : Ev g r) (e : ∀ k, g' k = g k) : Ev g' r := by
  obtain ⟨K, hK⟩ := h
  exact ⟨K, fun k hk => (e k).trans (hK k hk)⟩
theorem Ev.succ (h : Ev g' r) (hs : ∀ k, g (k + 1) = g' k) : Ev g r := by
  obtain ⟨K, hK⟩ := h
  refine ⟨K + 1, fun k hk => ?_⟩
  obtain ⟨m, rfl⟩ : ∃ m, k = m + 1 := ⟨k - 1, by omega⟩
  rw [hs]
  exact hK m (by omega)
theorem Ev.shift (h : Ev (fun k => g (k + 1)) r) : Ev g r := Ev.succ h (fun _ => rfl)
theorem Ev.bind {h : Nat → α → Option β} {b : β} (hg : Ev g r) (hh : Ev (fun k => h k r) b) : Ev (fun k => (g k).bind (h k)) b := by
  obtain ⟨K, hK⟩ := hg
  obtain ⟨J, hJ⟩ := hh
  refine ⟨K + J, fun k hk => ?_⟩
  show (g k).bind (h k) = some b
  rw [hK k (by omega)]
  exact hJ k (by omega)
theorem Ev.one (h : Ev g r) : ∃ k, g k = some r := by
  obtain ⟨K, hK⟩ := h
  exact ⟨K, hK K (Nat.le_refl _)⟩
theorem Ev.of_mono (hm : ∀ k, LeO (g k) (g (k + 1))) {k : Nat} (h : g k = some r) : Ev g r := by
  refine ⟨k, fun j hj => ?_⟩
  obtain ⟨d, rfl⟩ := Nat.exists_eq_add_of_le hj
  clear hj
  induction d with
  | zero => exact h
  | succ d ih => exact hm _ _ ih
end
theorem drop_atI {l suf : List Int} {x : Int} {i : Nat} (h : l.drop i = x :: suf) : i < l.length ∧ rd l (i : Int) = x ∧ l.drop (i + 1) = suf ∧ l.take (i + 1) = l.take i ++ [x] := by
  have hi : i < l.length := by
    apply Nat.lt_of_not_le
    intro hle
    rw [List.drop_eq_nil_of_le hle] at h
    cases h
  rw [List.drop_eq_getElem_cons hi] at h
  injection h with h1 h2
  refine ⟨hi, ?_, h2, by rw [← List.take_append_getElem hi, h1]⟩
  unfold rd
  simp [List.getD_eq_getElem?_getD, hi, h1]
theorem drop_endI {l : List Int} {i : Nat} (h : l.drop i = []) : l.length ≤ i := by simpa using h
theorem wrap_up {i : Nat} (h : i ≤ 1000000) : wrap64 ((i : Int) + 1) = ((i + 1 : Nat) : Int) := by unfold wrap64; omega
/-- Whether a number is no score. -/
def offS (x : Int) : Bool := decide (x < -1099511627776) || decide (x > 1099511627776)
/-- The error of numbers. -/
def ftE (l : List Int) : Int := if l.length = 0 then 9 else if l.length > 64 then 8 else if l.any offS = true then 2 else 0
theorem fault_l0 (l : List Int) (hl : l.length ≤ 1000) : ∀ (suf : List Int) (i : Nat), l.drop i = suf → Ev (fun k => rank_fault.l0 k l (l.length : Int) (i : Int)) (if suf.any offS = true then 2 else 0)
  | [], i, h => by
    have := drop_endI h
    exact Ev.succ (Ev.const _) (fun k => by rw [rank_fault.l0, if_neg (by omega)]; rfl)
  | x :: suf, i, h => by
    obtain ⟨hi, hx, hd, _⟩ := drop_atI h
    have ih := fault_l0 l hl suf (i + 1) hd
    have p1 : (0 : Int) ≤ (i : Int) := by omega
    have p2 : (i : Int) < (l.length : Int) := by omega
    rw [List.any_cons]
    by_cases c1 : x < -1099511627776
    · refine Ev.succ (Ev.const _) (fun k => ?_)
      rw [rank_fault.l0, if_pos p2, if_pos p1, if_pos p2, hx, if_pos c1]
      simp [offS, c1]
    · by_cases c2 : x > 1099511627776
      · refine Ev.succ (Ev.const _) (fun k => ?_)
        rw [rank_fault.l0, if_pos p2, if_pos p1, if_pos p2, hx, if_neg c1, if_pos c2]
        simp [offS, c2]
      · have e : offS x = false := by simp [offS]; omega
        rw [e, Bool.false_or]
        refine Ev.succ ih (fun k => ?_)
        rw [rank_fault.l0, if_pos p2, if_pos p1, if_pos p2, hx, if_neg c1, if_neg c2, wrap_up (by omega)]
theorem fault_ev (l : List Int) : Ev (fun k => rank_fault.f k l) (ftE l) := by
  unfold rank_fault.f ftE
  by_cases c0 : l.length = 0
  · simp only [if_pos (show (l.length : Int) = 0 by omega), if_pos c0]
    exact Ev.const _
  · simp only [if_neg (show ¬ (l.length : Int) = 0 by omega), if_neg c0]
    by_cases c1 : l.length > 64
    · simp only [if_pos (show (l.length : Int) > 64 by omega), if_pos c1]
      exact Ev.const _
    · simp only [if_neg (show ¬ (l.length : Int) > 64 by omega), if_neg c1]
      exact fault_l0 l (by omega) l 0 rfl
theorem ft_ok {l : List Int} (h : ftE l = 0) : 0 < l.length ∧ l.length ≤ 64 ∧ ∀ x ∈ l, -1099511627776 ≤ x ∧ x ≤ 1099511627776 := by
  unfold ftE at h
  by_cases c0 : l.length = 0
  · rw [if_pos c0] at h; cases h
  · rw [if_neg c0] at h
    by_cases c1 : l.length > 64
    · rw [if_pos c1] at h; cases h
    · rw [if_neg c1] at h
      by_cases c2 : l.any offS = true
      · rw [if_pos c2] at h; cases h
      · refine ⟨by omega, by omega, fun x hx => ?_⟩
        have := List.any_eq_false.1 (Bool.eq_false_iff.2 c2) x hx
        simp [offS] at this
        omega
end Go.Proofs.Ytfhmjleimampeaa.K
