/- By hand: sums of greatest liabilities. -/
import Derived.Test.YthboaobgipodiaaPMono
namespace Go.Proofs.Ythboaobgipodiaa.K
open Go.RowKit Go.Proofs.YthboaobgipodiaaW.PrintWords
set_option linter.unusedVariables false
set_option linter.unusedSimpArgs false

theorem wrap_big (n : Int) (h0 : 0 ≤ n) (h1 : n ≤ 4611686018427387904) : wrap64 n = n := by unfold wrap64; omega
def isum : List Int → Int
  | [] => 0
  | x :: l => x + isum l
section
variable {a : Int} {l : List S60} {day : Int} (ht : (tchk a l).2 = 0) (hd : 0 ≤ day ∧ day ≤ 100000)
include ht hd
theorem gsum_eq : ∀ (x : List S35) (s : Int), (∀ y ∈ x, xok y = true) → 0 ≤ s → s + x.length * 1073741824001 ≤ 4611686018427387904 →
    gsum a l day s x = s + isum (x.map (gP a l day)) ∧ 0 ≤ isum (x.map (gP a l day)) ∧ isum (x.map (gP a l day)) ≤ x.length * 1073741824001
  | [], s, _, _, _ => by simp [gsum, isum]
  | y :: x, s, hx, h0, h1 => by
    have hg := gP_in ht hd (hx y List.mem_cons_self)
    rw [List.length_cons] at h1
    have hw : wrap64 (s + gP a l day y) = s + gP a l day y := wrap_big _ (by omega) (by omega)
    obtain ⟨e, e0, e1⟩ := gsum_eq x (s + gP a l day y) (fun z hz => hx z (List.mem_cons_of_mem _ hz)) (by omega) (by omega)
    refine ⟨?_, ?_, ?_⟩
    · show gsum a l day (wrap64 (s + gP a l day y)) x = s + isum (gP a l day y :: x.map (gP a l day))
      rw [hw, e, isum]
      omega
    · rw [List.map_cons, isum]
      omega
    · rw [List.map_cons, isum, List.length_cons]
      omega
/-- All fit, and the sum is not more than the greatest. -/
theorem sumP_le : ∀ (x : List S35) (o : List S51) (s s' : Int), (∀ y ∈ x, xok y = true) → o.length = x.length → 0 ≤ s → s ≤ s' → s' + x.length * 1073741824001 ≤ 4611686018427387904 → (sumP a l day s x o).2 = 0 →
    (∀ i, (h : i < x.length) → (h' : i < o.length) → fitsP x[i] o[i] day = true) ∧ (sumP a l day s x o).1 ≤ gsum a l day s' x
  | [], o, s, s', _, hl, h0, hs, _, _ => by
    have : sumP a l day s [] o = (s, 0) := by cases o <;> rfl
    rw [this]
    exact ⟨fun i h => by simp at h, hs⟩
  | y :: x, [], s, s', _, hl, _, _, _, _ => by simp at hl
  | y :: x, o :: os, s, s', hx, hl, h0, hs, hb, hz => by
    rw [sumP] at hz ⊢
    by_cases hf : fitsP y o day = true
    · rw [if_pos hf] at hz ⊢
      have hy := hx y List.mem_cons_self
      have hc := causes_le ht hd hy hf
      have hg := gP_in ht hd hy
      rw [List.length_cons] at hb
      have w1 : wrap64 (s + causesP a l y o) = s + causesP a l y o := wrap_big _ (by omega) (by omega)
      have w2 : wrap64 (s' + gP a l day y) = s' + gP a l day y := wrap_big _ (by omega) (by omega)
      rw [w1] at hz ⊢
      obtain ⟨i1, i2⟩ := sumP_le x os (s + causesP a l y o) (s' + gP a l day y) (fun z hz => hx z (List.mem_cons_of_mem _ hz)) (by simpa using hl) (by omega) (by omega) (by omega) hz
      refine ⟨fun i h h' => ?_, ?_⟩
      · cases i with
        | zero => exact hf
        | succ i => exact i1 i (by simpa using h) (by simpa using h')
      · show _ ≤ gsum a l day (wrap64 (s' + gP a l day y)) x
        rw [w2]
        exact i2
    · rw [if_neg hf] at hz
      cases hz
end
/-- A sum with an error is nothing. -/
theorem sumP_err (a : Int) (l : List S60) (day : Int) : ∀ (x : List S35) (o : List S51) (s : Int), (sumP a l day s x o).2 ≠ 0 → (sumP a l day s x o).1 = 0
  | [], o, s, h => by
    have : sumP a l day s [] o = (s, 0) := by cases o <;> rfl
    rw [this] at h
    exact absurd rfl h
  | y :: x, [], s, h => rfl
  | y :: x, o :: os, s, h => by
    rw [sumP] at h ⊢
    by_cases hf : fitsP y o day = true
    · rw [if_pos hf] at h ⊢
      exact sumP_err a l day x os _ h
    · rw [if_neg hf]
theorem SP_err {a : Int} {l : List S60} {x : List S35} {o : List S51} {day : Int} (h : (SP a l x o day).2 ≠ 0) : (SP a l x o day).1 = 0 := by
  unfold SP at h ⊢
  by_cases hs : sentP a l x day = 0
  · rw [if_pos hs] at h ⊢
    by_cases ho : o.length = x.length
    · rw [if_pos ho] at h ⊢
      exact sumP_err _ _ _ _ _ _ h
    · rw [if_neg ho]
  · rw [if_neg hs]
end Go.Proofs.Ythboaobgipodiaa.K
