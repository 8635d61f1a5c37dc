/- By hand: 'enough rounds': what a printed function tells once enough rounds are given; the seals' common facts. -/
import Derived.Test.YtfjenooajbdcmaaGOpen
import Derived.Test.YtfjenooajbdcmaaGIntact
import Derived.Test.YtfjenooajbdcmaaGHistory
namespace Go.Proofs.Ytfjenooajbdcmaa.K
open Go Go.RowKit Go.Proofs.YtfjenooajbdcmaaW.PrintWords Go.Proofs.Ytfjenooajbdcmaa.GM
set_option linter.unusedVariables false
def Ev {α : Type} (g : Nat → Option α) (r : α) : Prop := ∃ K, ∀ k, K ≤ k → g k = some r
section
variable {α β : Type} {g g' : Nat → Option α} {r : α}
theorem Ev.const (r : α) : Ev (fun _ => some r) r := ⟨0, fun _ _ => rfl⟩
theorem Ev.congr (h : Ev g r) (e : ∀ k, g' k = g k) : Ev g' r := by
  obtain ⟨K, hK⟩ := h
  exact ⟨K, fun k hk => (e k).trans (hK k hk)⟩
theorem Ev.succ (h : Ev g' r) (hs : ∀ k, g (k + 1) = g' k) : Ev g r := by
  obtain ⟨K, hK⟩ := h
  refine ⟨K + 1, fun k hk => ?_⟩
  obtain ⟨m, rfl⟩ : ∃ m, k = m + 1 := ⟨k - 1, by omega⟩
  rw [hs]
  exact hK m (by omega)
theorem Ev.bind {h : Nat → α → Option β} {b : β} (hg : Ev g r) (hh : Ev (fun k => h k r) b) : Ev (fun k => (g k).bind (h k)) b := by
  obtain ⟨K, hK⟩ := hg
  obtain ⟨J, hJ⟩ := hh
  refine ⟨K + J, fun k hk => ?_⟩
  show (g k).bind (h k) = some b
  rw [hK k (by omega)]
  exact hJ k (by omega)
theorem Ev.one (h : Ev g r) : ∃ k, g k = some r := by
  obtain ⟨K, hK⟩ := h
  exact ⟨K, hK K (Nat.le_refl _)⟩
theorem Ev.of_mono (hm : ∀ k, LeO (g k) (g (k + 1))) {k : Nat} (h : g k = some r) : Ev g r := by
  refine ⟨k, fun j hj => ?_⟩
  obtain ⟨d, rfl⟩ := Nat.exists_eq_add_of_le hj
  clear hj
  induction d with
  | zero => exact h
  | succ d ih => exact hm _ _ ih
end
theorem wrap_at (n : Int) (h0 : -1000000 ≤ n) (h1 : n ≤ 1000000) : wrap64 n = n := by unfold wrap64; omega
/-! ### what the functions of seal tell -/
section
variable {l : List S34} (hw : l.all wf34 = true)
include hw
theorem int_f (place day : Int) : seal_Intact.f l place day = some (if askE l place [day] = 0 then (intactL l place day, 0) else ([], askE l place [day])) := by
  unfold seal_Intact.f
  rw [if_pos hw]
  split <;> rfl
theorem unb_f (place fr tt : Int) : seal_Unbroken.f l place fr tt = some (if askE l place [fr, tt] = 0 then (if fr > tt then (false, 5) else (ubM l place fr tt, 0)) else (false, askE l place [fr, tt])) := by
  unfold seal_Unbroken.f
  rw [if_pos hw]
  split
  · split <;> rfl
  · rfl
theorem opn_f (place fr tt : Int) : seal_Open.f l place fr tt = some (if askE l place [fr, tt] = 0 then (if fr > tt then (0, 5) else (opn (fun d => ubM l place d d) fr (tt + 1 - fr).toNat, 0)) else (0, askE l place [fr, tt])) := by
  unfold seal_Open.f
  rw [if_pos hw]
  split
  · split <;> rfl
  · rfl
theorem chk_f : seal_Check.f l = some ((fol l).2.1, (fol l).2.2) := by
  unfold seal_Check.f
  rw [if_pos hw]
end
theorem clone_f {l : List S34} (h : l.length ≤ 129) : clone34.f l = some l := by
  unfold clone34.f
  rw [if_pos (by omega)]
theorem ask_two {l : List S34} {place a b c d : Int} (h : askE l place [a, b] = 0) (hc : 0 ≤ c ∧ c ≤ 100000) (hd : 0 ≤ d ∧ d ≤ 100000) : askE l place [c, d] = 0 := by
  unfold askE at h ⊢
  by_cases c1 : (fol l).2.2 ≠ 0
  · rw [if_pos c1] at h
    cases h
  · rw [if_neg c1] at h ⊢
    by_cases c2 : (decide (place < 1) || (decide (place > 1073741824) || [a, b].any badD)) = true
    · rw [if_pos c2] at h
      cases h
    · rw [if_neg]
      simp [badD] at c2 ⊢
      omega
theorem ask_one {l : List S34} {place a b c : Int} (h : askE l place [a, b] = 0) (hc : 0 ≤ c ∧ c ≤ 100000) : askE l place [c] = 0 := by
  unfold askE at h ⊢
  by_cases c1 : (fol l).2.2 ≠ 0
  · rw [if_pos c1] at h
    cases h
  · rw [if_neg c1] at h ⊢
    by_cases c2 : (decide (place < 1) || (decide (place > 1073741824) || [a, b].any badD)) = true
    · rw [if_pos c2] at h
      cases h
    · rw [if_neg]
      simp [badD] at c2 ⊢
      omega
end Go.Proofs.Ytfjenooajbdcmaa.K
