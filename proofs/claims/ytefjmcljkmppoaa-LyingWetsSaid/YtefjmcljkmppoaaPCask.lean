/- By hand: what cask.Check, cask.Depth and profile.At tell, in plain words. -/
import Derived.Test.YtefjmcljkmppoaaGAt
import Derived.Test.YtefjmcljkmppoaaK6
import Derived.Test.YtefjmcljkmppoaaK3
import Derived.Test.YtefjmcljkmppoaaK6
namespace Go.Proofs.Ytefjmcljkmppoaa.K
open Go.RowKit Go.Proofs.YtefjmcljkmppoaaW.PrintWords
set_option linter.unusedVariables false
set_option linter.unusedSimpArgs false
def Ev {α : Type} (g : Nat → Option α) (r : α) : Prop := ∃ K, ∀ k, K ≤ k → g k = some r
section
variable {α β : Type} {g g' : Nat → Option α} {r : α}
theorem Ev.const (r : α) : Ev (fun _ => some r) r := ⟨0, fun _ _ => rfl⟩
theorem Ev.congr (h : Ev g r) (e : ∀ k, g' k = g k) : Ev g' r := by
  obtain ⟨K, hK⟩ := h
  exact ⟨K, fun k hk => (e k).trans (hK k hk)⟩
theorem Ev.succ (h : Ev g' r) (hs : ∀ k, g (k + 1) = g' k) : Ev g r := by
  obtain ⟨K, hK⟩ := h
  refine ⟨K + 1, fun k hk => ?_⟩
  obtain ⟨m, rfl⟩ : ∃ m, k = m + 1 := ⟨k - 1, by omega⟩
  rw [hs]
  exact hK m (by omega)
theorem Ev.bind {h : Nat → α → Option β} {b : β} (hg : Ev g r) (hh : Ev (fun k => h k r) b) : Ev (fun k => (g k).bind (h k)) b := by
  obtain ⟨K, hK⟩ := hg
  obtain ⟨J, hJ⟩ := hh
  refine ⟨K + J, fun k hk => ?_⟩
  show (g k).bind (h k) = some b
  rw [hK k (by omega)]
  exact hJ k (by omega)
theorem Ev.one (h : Ev g r) : ∃ k, g k = some r := by
  obtain ⟨K, hK⟩ := h
  exact ⟨K, hK K (Nat.le_refl _)⟩
end
theorem wrap_up {i : Nat} (h : i ≤ 1000000) : wrap64 ((i : Int) + 1) = ((i + 1 : Nat) : Int) := by unfold wrap64; omega
theorem wrap_dn {i : Nat} (h : i ≤ 1000000) (h1 : 1 ≤ i) : wrap64 ((i : Int) - 1) = ((i - 1 : Nat) : Int) := by unfold wrap64; omega
theorem drop_atI {l suf : List Int} {x : Int} {i : Nat} (h : l.drop i = x :: suf) : i < l.length ∧ rd l (i : Int) = x ∧ l.drop (i + 1) = suf ∧ l.take (i + 1) = l.take i ++ [x] := by
  have hi : i < l.length := by
    apply Nat.lt_of_not_le
    intro hle
    rw [List.drop_eq_nil_of_le hle] at h
    cases h
  rw [List.drop_eq_getElem_cons hi] at h
  injection h with h1 h2
  refine ⟨hi, ?_, h2, by rw [← List.take_append_getElem hi, h1]⟩
  unfold rd
  simp [List.getD_eq_getElem?_getD, hi, h1]
theorem drop_end {α : Type} {l : List α} {i : Nat} (h : l.drop i = []) : l.length ≤ i := by simpa using h
theorem drop_atP {l suf : List S39} {x : S39} {i : Nat} (h : l.drop i = x :: suf) : i < l.length ∧ rd_T39 l (i : Int) = x ∧ l.drop (i + 1) = suf := by
  have hi : i < l.length := by
    apply Nat.lt_of_not_le
    intro hle
    rw [List.drop_eq_nil_of_le hle] at h
    cases h
  rw [List.drop_eq_getElem_cons hi] at h
  injection h with h1 h2
  exact ⟨hi, by rw [rdP_get l i hi, h1], h2⟩
def lastX (l : List S39) : Int := (rd_T39 l ((l.length : Int) - 1)).f0
theorem len_ev (l : List S39) (h : 1 ≤ l.length) (h2 : l.length ≤ 1000000) : profile_length.f l = some (lastX l) := by
  unfold profile_length.f lastX
  have e : wrap64 ((l.length : Int) - 1) = (l.length : Int) - 1 := by unfold wrap64; omega
  rw [e, if_pos (by omega), if_pos (by omega)]
theorem prof_len (l : List S39) (h : profC l = 0) : 2 ≤ l.length ∧ l.length ≤ 32 := by
  unfold profC at h
  split at h
  · exact absurd h (by decide)
  split at h
  · exact absurd h (by decide)
  omega
theorem Len_ev (l : List S39) : profile_Length.f l = some (if profC l = 0 then (lastX l, 0) else (0, profC l)) := by
  unfold profile_Length.f check48.f
  simp only [Option.bind_some]
  by_cases c : profC l = 0
  · have := prof_len l c
    rw [if_pos c, if_pos c, len_ev l (by omega) (by omega)]
    rfl
  · rw [if_neg c, if_neg c]
def okB (b : Int) : Bool := (decide (97 ≤ b) && decide (b ≤ 122)) || (decide (65 ≤ b) && decide (b ≤ 90)) || (decide (48 ≤ b) && decide (b ≤ 57)) || b == 45 || b == 46
set_option maxHeartbeats 2000000 in
theorem named_step (k : Nat) (x : ByteArray) (n i : Int) (h0 : 0 ≤ i) (h1 : i < (x.size : Int)) (h2 : i < n) : cask_named.l0 (k + 1) x n i = cask_named.j2 k x n i (!okB (bt x i)) := by
  rw [cask_named.l0, if_pos h2, if_pos h0, if_pos h1]
  generalize bt x i = b
  repeat' split
  all_goals (congr 1; simp [okB]; try omega)
def allB (x : ByteArray) (l : List Nat) : Bool := l.all fun j => okB (bt x (j : Int))
theorem range_at {n i m : Nat} {suf : List Nat} (h : (List.range n).drop i = m :: suf) : i < n ∧ m = i ∧ (List.range n).drop (i + 1) = suf := by
  have hi : i < (List.range n).length := by
    apply Nat.lt_of_not_le
    intro hle
    rw [List.drop_eq_nil_of_le hle] at h
    cases h
  rw [List.drop_eq_getElem_cons hi] at h
  injection h with h1 h2
  rw [List.getElem_range] at h1
  exact ⟨by simpa using hi, h1.symm, h2⟩
theorem named_l0 (x : ByteArray) (hl : x.size ≤ 1000) : ∀ (suf : List Nat) (i : Nat), (List.range x.size).drop i = suf → Ev (fun k => cask_named.l0 k x (x.size : Int) (i : Int)) (allB x suf)
  | [], i, h => by
    have h4 := drop_end h
    rw [List.length_range] at h4
    refine Ev.succ (Ev.const _) (fun k => ?_)
    rw [cask_named.l0, if_neg (by omega)]
    rfl
  | m :: suf, i, h => by
    obtain ⟨h1, rfl, h3⟩ := range_at h
    have ih := named_l0 x hl suf (m + 1) h3
    refine Ev.succ ?_ (fun k => named_step k x _ _ (by omega) (by omega) (by omega))
    unfold allB
    rw [List.all_cons]
    cases c : okB (bt x (m : Int)) with
    | true =>
      rw [Bool.true_and]
      refine Ev.succ ih (fun k => ?_)
      rw [cask_named.j2, if_neg (by simp), wrap_up (by omega)]
    | false =>
      refine Ev.succ (Ev.const _) (fun k => ?_)
      rw [cask_named.j2, if_pos (by simp)]
      rfl
def nmP (x : ByteArray) : Bool := allB x (List.range x.size) && (decide (1 ≤ x.size) && decide (x.size ≤ 64))
theorem named_ev (x : ByteArray) : Ev (fun k => cask_named.f k x) (nmP x) := by
  unfold cask_named.f nmP
  by_cases c1 : (x.size : Int) < 1
  · rw [decide_eq_false (show ¬ 1 ≤ x.size by omega), Bool.false_and, Bool.and_false]
    refine Ev.congr (g := fun k => cask_named.j0 k x true) ?_ (fun k => by rw [if_pos c1])
    exact Ev.succ (Ev.const _) (fun k => by rw [cask_named.j0, if_pos rfl])
  · rw [decide_eq_true (show 1 ≤ x.size by omega), Bool.true_and]
    refine Ev.congr (g := fun k => cask_named.j0 k x (decide ((x.size : Int) > 64))) ?_ (fun k => by rw [if_neg c1])
    by_cases c2 : x.size ≤ 64
    · rw [decide_eq_true c2, Bool.and_true, decide_eq_false (by omega)]
      exact Ev.succ (named_l0 x (by omega) _ 0 List.drop_zero) (fun k => by rw [cask_named.j0, if_neg (by simp)]; rfl)
    · rw [decide_eq_false c2, Bool.and_false, decide_eq_true (by omega)]
      exact Ev.succ (Ev.const _) (fun k => by rw [cask_named.j0, if_pos rfl])
def caskC (a : ByteArray) (p : Int) (l : List S39) (d : Int) : Int := if nmP a = true then (if (p ≠ 1 ∧ p ≠ 2) ∨ d < 0 ∨ d > 1073741824 then 2 else profC l) else 4
theorem cask_ev (a : ByteArray) (p : Int) (l : List S39) (d : Int) : Ev (fun k => cask_Check.f k a p l d) (caskC a p l d) := by
  unfold cask_Check.f caskC
  refine Ev.bind (named_ev a) ?_
  cases c : nmP a with
  | false => exact (Ev.const (4 : Int)).congr (fun k => by rw [if_neg (by simp)])
  | true =>
    rw [if_pos rfl]
    have h0 : ∀ b : Bool, Ev (fun k => cask_Check.j0 k b a p l d) (if b = true ∨ d < 0 ∨ d > 1073741824 then 2 else profC l) := fun b => by
      cases b with
      | true => exact Ev.succ (Ev.const _) (fun k => by rw [cask_Check.j0, if_pos rfl, if_pos (Or.inl rfl)])
      | false =>
        by_cases c1 : d < 0
        · exact Ev.succ (Ev.const _) (fun k => by rw [cask_Check.j0, if_neg (by simp), if_pos c1, if_pos (.inr (.inl c1))])
        · by_cases c2 : d > 1073741824
          · exact Ev.succ (Ev.const _) (fun k => by rw [cask_Check.j0, if_neg (by simp), if_neg c1, if_pos c2, if_pos (.inr (.inr c2))])
          · exact Ev.succ (Ev.const _) (fun k => by rw [cask_Check.j0, if_neg (by simp), if_neg c1, if_neg c2, if_neg (by simp; omega)]; rfl)
    by_cases c1 : p = 1
    · have := h0 false
      rw [show (if (p ≠ 1 ∧ p ≠ 2) ∨ d < 0 ∨ d > 1073741824 then (2 : Int) else profC l) = if (false = true) ∨ d < 0 ∨ d > 1073741824 then 2 else profC l by simp [c1]]
      exact this.congr (fun k => by rw [if_pos rfl, if_pos c1])
    · have := h0 (p != 2)
      rw [show (if (p ≠ 1 ∧ p ≠ 2) ∨ d < 0 ∨ d > 1073741824 then (2 : Int) else profC l) = if ((p != 2) = true) ∨ d < 0 ∨ d > 1073741824 then 2 else profC l by simp [c1]]
      exact this.congr (fun k => by rw [if_pos rfl, if_neg c1])
theorem prof_meas (l : List S39) (h : profC l = 0) : ∀ p ∈ l, (0 ≤ p.f0 ∧ p.f0 ≤ 100000) ∧ (0 ≤ p.f1 ∧ p.f1 ≤ 100000) := by
  unfold profC at h
  split at h
  · exact absurd h (by decide)
  split at h
  · exact absurd h (by decide)
  split at h
  · exact absurd h (by decide)
  rename_i h3
  intro p hp
  have hb : badP p = false := by
    have h4 : ¬ ∃ x ∈ l, badP x = true := fun hh => h3 (List.any_eq_true.2 hh)
    cases e : badP p with
    | false => rfl
    | true => exact absurd ⟨p, hp, e⟩ h4
  simp [badP, measP] at hb
  exact hb
theorem last_mem (l : List S39) (h : 1 ≤ l.length) : rd_T39 l ((l.length : Int) - 1) ∈ l := by
  rw [show (l.length : Int) - 1 = ((l.length - 1 : Nat) : Int) by omega, rdP_get l (l.length - 1) (by omega)]
  exact List.getElem_mem _
theorem last_bd (l : List S39) (h : profC l = 0) : 0 ≤ lastX l ∧ lastX l ≤ 100000 :=
  (prof_meas l h _ (last_mem l (by have := prof_len l h; omega))).1
theorem at_ev (l : List S39) (x : Int) (hp : profC l = 0) (h0 : 0 ≤ x) (h1 : x ≤ lastX l) : profile_At.f l x = some ((atP x (pairs l)).1, (atP x (pairs l)).2, 0) := by
  have hb := last_bd l hp
  have hl := prof_len l hp
  unfold profile_At.f check48.f at103.f
  simp only [Option.bind_some, if_pos hp, if_neg (show ¬ x < 0 by omega), len_ev l (by omega) (by omega), if_neg (show ¬ x > lastX l by omega), if_pos (show profC l = 0 ∧ 0 ≤ x ∧ x ≤ 100000 from ⟨hp, h0, by omega⟩)]
def bgI (l : List S39) : Nat → Nat → List S39 → Nat
  | b, _, [] => b
  | b, i, p :: r => if (rd_T39 l (b : Int)).f1 < p.f1 then bgI l i (i + 1) r else bgI l b (i + 1) r
def bungR (l : List S39) : Int := (rd_T39 l (bgI l 0 0 l : Int)).f1
theorem bgI_lt (l : List S39) : ∀ (suf : List S39) (b i : Nat), b < l.length → l.drop i = suf → bgI l b i suf < l.length
  | [], b, i, hb, _ => hb
  | p :: r, b, i, hb, h => by
    obtain ⟨h1, h2, h3⟩ := drop_atP h
    rw [bgI]
    split
    · exact bgI_lt l r i (i + 1) h1 h3
    · exact bgI_lt l r b (i + 1) hb h3
theorem bgI_max (l : List S39) : ∀ (suf : List S39) (b i : Nat), b < l.length → l.drop i = suf → (rd_T39 l (b : Int)).f1 ≤ (rd_T39 l (bgI l b i suf : Int)).f1 ∧ ∀ p ∈ suf, p.f1 ≤ (rd_T39 l (bgI l b i suf : Int)).f1
  | [], b, i, hb, _ => ⟨Int.le_refl _, fun p hp => by cases hp⟩
  | q :: r, b, i, hb, h => by
    obtain ⟨h1, h2, h3⟩ := drop_atP h
    rw [bgI]
    split
    · rename_i c
      obtain ⟨e1, e2⟩ := bgI_max l r i (i + 1) h1 h3
      rw [h2] at e1
      refine ⟨by omega, fun p hp => ?_⟩
      rcases List.mem_cons.1 hp with rfl | hp
      · exact e1
      · exact e2 p hp
    · rename_i c
      obtain ⟨e1, e2⟩ := bgI_max l r b (i + 1) hb h3
      refine ⟨e1, fun p hp => ?_⟩
      rcases List.mem_cons.1 hp with rfl | hp
      · omega
      · exact e2 p hp
theorem bungR_max (l : List S39) (h : 1 ≤ l.length) : ∀ p ∈ l, p.f1 ≤ bungR l := (bgI_max l l 0 0 (by omega) List.drop_zero).2
theorem bungR_mem (l : List S39) (h : 1 ≤ l.length) : ∃ p ∈ l, p.f1 = bungR l := by
  have hb := bgI_lt l l 0 0 (by omega) List.drop_zero
  refine ⟨l[bgI l 0 0 l], List.getElem_mem hb, ?_⟩
  unfold bungR
  rw [rdP_get l _ hb]
theorem bungR_bd (l : List S39) (h : profC l = 0) : 0 ≤ bungR l ∧ bungR l ≤ 100000 := by
  obtain ⟨p, hp, e⟩ := bungR_mem l (by have := prof_len l h; omega)
  have := (prof_meas l h p hp).2
  omega
theorem bung_l0 (l : List S39) (hl : l.length ≤ 1000) : ∀ (suf : List S39) (b i : Nat), b < l.length → l.drop i = suf → Ev (fun k => profile_Bung.l0 k l (b : Int) l (l.length : Int) (i : Int)) ((bgI l b i suf : Int), 0)
  | [], b, i, hb, h => by
    have h4 := drop_end h
    refine Ev.succ (Ev.const _) (fun k => ?_)
    rw [profile_Bung.l0, if_neg (by omega)]
    rfl
  | p :: r, b, i, hb, h => by
    obtain ⟨h1, h2, h3⟩ := drop_atP h
    rw [bgI]
    by_cases c : (rd_T39 l (b : Int)).f1 < p.f1
    · rw [if_pos c]
      refine Ev.succ (bung_l0 l hl r i (i + 1) h1 h3) (fun k => ?_)
      rw [profile_Bung.l0, if_pos (by omega), if_pos (by omega), if_pos (by omega), if_pos (by omega), if_pos (by omega), h2, if_pos c, wrap_up (by omega)]
    · rw [if_neg c]
      refine Ev.succ (bung_l0 l hl r b (i + 1) hb h3) (fun k => ?_)
      rw [profile_Bung.l0, if_pos (by omega), if_pos (by omega), if_pos (by omega), if_pos (by omega), if_pos (by omega), h2, if_neg (show ¬ p.f1 > _ by omega), wrap_up (by omega)]
theorem bung_ev (l : List S39) (h : profC l = 0) : Ev (fun k => profile_Bung.f k l) ((bgI l 0 0 l : Int), 0) := by
  have hl := prof_len l h
  refine (bung_l0 l (by omega) l 0 0 (by omega) List.drop_zero).congr (fun k => ?_)
  unfold profile_Bung.f check48.f
  rw [Option.bind_some, if_pos h]
  rfl
def depthV (p : Int) (l : List S39) : Int := if p = 1 then 2 * bungR l else lastX l
theorem caskC_prof {a : ByteArray} {p : Int} {l : List S39} {d : Int} (h : caskC a p l d = 0) : profC l = 0 := by
  unfold caskC at h
  split at h
  · split at h
    · cases h
    · exact h
  · cases h
theorem Depth_ev (a : ByteArray) (p : Int) (l : List S39) (d : Int) : Ev (fun k => cask_Depth.f k a p l d) (if caskC a p l d = 0 then (depthV p l, 0) else (0, caskC a p l d)) := by
  unfold cask_Depth.f
  refine Ev.bind (cask_ev a p l d) ?_
  by_cases c : caskC a p l d = 0
  · have hp := caskC_prof c
    have hb := bungR_bd l hp
    have hl := prof_len l hp
    have hi := bgI_lt l l 0 0 (by omega) List.drop_zero
    rw [if_pos c]
    unfold depthV
    by_cases c1 : p = 1
    · rw [if_pos c1]
      refine Ev.congr (Ev.bind (h := fun k bt => if 0 ≤ bt.1 then (if bt.1 < (l.length : Int) then some (wrap64 (2 * ((rd_T39 l bt.1).f1)), bt.2) else none) else none) (bung_ev l hp) ?_) (fun k => by rw [if_pos c, if_pos c1])
      refine (Ev.const _).congr (fun k => ?_)
      rw [if_pos (by omega), if_pos (by omega)]
      unfold bungR at hb ⊢
      rw [show wrap64 (2 * (rd_T39 l (bgI l 0 0 l : Int)).f1) = 2 * (rd_T39 l (bgI l 0 0 l : Int)).f1 by unfold wrap64; omega]
    · rw [if_neg c1]
      refine (Ev.const _).congr (fun k => ?_)
      rw [if_pos c, if_neg c1, Len_ev, if_pos hp]
      rfl
  · rw [if_neg c]
    exact (Ev.const _).congr (fun k => by rw [if_neg c])
end Go.Proofs.Ytefjmcljkmppoaa.K
