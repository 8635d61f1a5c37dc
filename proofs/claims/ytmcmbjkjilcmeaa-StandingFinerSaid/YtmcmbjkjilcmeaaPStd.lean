/- By hand: 'enough rounds' and walks along lists, in plain words. -/
import Derived.Test.YtmcmbjkjilcmeaaGAt
import Derived.Test.YtmcmbjkjilcmeaaGSorted
import Derived.Test.YtmcmbjkjilcmeaaK2
import Derived.Test.YtmcmbjkjilcmeaaK16
import Derived.Test.YtmcmbjkjilcmeaaK11
import Derived.Test.YtmcmbjkjilcmeaaK18
import Derived.Test.YtmcmbjkjilcmeaaK13
import Derived.Test.YtmcmbjkjilcmeaaK20
import Derived.Test.YtmcmbjkjilcmeaaK12
import Derived.Test.YtmcmbjkjilcmeaaK10
import Derived.Test.YtmcmbjkjilcmeaaK19
import Derived.Test.YtmcmbjkjilcmeaaK10
import Derived.Test.YtmcmbjkjilcmeaaK17a
import Derived.Test.YtmcmbjkjilcmeaaK17
import Derived.Test.YtmcmbjkjilcmeaaK15
import Derived.Test.YtmcmbjkjilcmeaaK14
import Derived.Test.YtmcmbjkjilcmeaaGCloneP
import Derived.Test.YtmcmbjkjilcmeaaGSums
import Derived.Test.YtmcmbjkjilcmeaaK14
import Derived.KernelRfl
namespace Go.Proofs.Ytmcmbjkjilcmeaa.K
open Go.RowKit Go.Proofs.YtmcmbjkjilcmeaaW.PrintWords
set_option linter.unusedVariables false
set_option linter.unusedSimpArgs false
def Ev {α : Type} (g : Nat → Option α) (r : α) : Prop := ∃ K, ∀ k, K ≤ k → g k = some r
section
variable {α β : Type} {g g' : Nat → Option α} {r : α}
theorem Ev.const (r : α) : Ev (fun _ => some r) r := ⟨0, fun _ _ => rfl⟩
theorem Ev.congr (h : Ev g r) (e : ∀ k, g' k = g k) : Ev g' r := by
  obtain ⟨K, hK⟩ := h
  exact ⟨K, fun k hk => (e k).trans (hK k hk)⟩
theorem Ev.succ (h : Ev g' r) (hs : ∀ k, g (k + 1) = g' k) : Ev g r := by
  obtain ⟨K, hK⟩ := h
  refine ⟨K + 1, fun k hk => ?_⟩
  obtain ⟨m, rfl⟩ : ∃ m, k = m + 1 := ⟨k - 1, by omega⟩
  rw [hs]
  exact hK m (by omega)
theorem Ev.shift (h : Ev (fun k => g (k + 1)) r) : Ev g r := Ev.succ h (fun _ => rfl)
theorem Ev.bind {h : Nat → α → Option β} {b : β} (hg : Ev g r) (hh : Ev (fun k => h k r) b) : Ev (fun k => (g k).bind (h k)) b := by
  obtain ⟨K, hK⟩ := hg
  obtain ⟨J, hJ⟩ := hh
  refine ⟨K + J, fun k hk => ?_⟩
  show (g k).bind (h k) = some b
  rw [hK k (by omega)]
  exact hJ k (by omega)
theorem Ev.one (h : Ev g r) : ∃ k, g k = some r := by
  obtain ⟨K, hK⟩ := h
  exact ⟨K, hK K (Nat.le_refl _)⟩
theorem Ev.of_mono (hm : ∀ k, LeO (g k) (g (k + 1))) {k : Nat} (h : g k = some r) : Ev g r := by
  refine ⟨k, fun j hj => ?_⟩
  obtain ⟨d, rfl⟩ := Nat.exists_eq_add_of_le hj
  clear hj
  induction d with
  | zero => exact h
  | succ d ih => exact hm _ _ ih
theorem Ev.inj {r' : α} (h : Ev g r) (h' : Ev g r') : r = r' := by
  obtain ⟨K, hK⟩ := h
  obtain ⟨J, hJ⟩ := h'
  have := (hK (K + J) (by omega)).symm.trans (hJ (K + J) (by omega))
  exact Option.some.inj this
end
theorem wrap_up {i : Nat} (h : i ≤ 1000000) : wrap64 ((i : Int) + 1) = ((i + 1 : Nat) : Int) := by unfold wrap64; omega
theorem wrap_dn {i : Nat} (h : i ≤ 1000000) (h1 : 1 ≤ i) : wrap64 ((i : Int) - 1) = ((i - 1 : Nat) : Int) := by unfold wrap64; omega
theorem drop_atI {l suf : List Int} {x : Int} {i : Nat} (h : l.drop i = x :: suf) : i < l.length ∧ rd l (i : Int) = x ∧ l.drop (i + 1) = suf ∧ l.take (i + 1) = l.take i ++ [x] := by
  have hi : i < l.length := by
    apply Nat.lt_of_not_le
    intro hle
    rw [List.drop_eq_nil_of_le hle] at h
    cases h
  rw [List.drop_eq_getElem_cons hi] at h
  injection h with h1 h2
  refine ⟨hi, ?_, h2, by rw [← List.take_append_getElem hi, h1]⟩
  unfold rd
  simp [List.getD_eq_getElem?_getD, hi, h1]
theorem drop_end {α : Type} {l : List α} {i : Nat} (h : l.drop i = []) : l.length ≤ i := by simpa using h
theorem drop_atP {l suf : List S33} {x : S33} {i : Nat} (h : l.drop i = x :: suf) : i < l.length ∧ rd_T33 l (i : Int) = x ∧ l.drop (i + 1) = suf := by
  have hi : i < l.length := by
    apply Nat.lt_of_not_le
    intro hle
    rw [List.drop_eq_nil_of_le hle] at h
    cases h
  rw [List.drop_eq_getElem_cons hi] at h
  injection h with h1 h2
  exact ⟨hi, by rw [rdP_get l i hi, h1], h2⟩
theorem rdI_get (l : List Int) (i : Nat) (h : i < l.length) : rd l (i : Int) = l[i] := by
  unfold rd
  simp [List.getD_eq_getElem?_getD, h]
/-- The last place of a profile. -/
def lastX (l : List S33) : Int := (rd_T33 l ((l.length : Int) - 1)).f0
theorem len_ev (l : List S33) (h : 1 ≤ l.length) (h2 : l.length ≤ 1000000) : profile_length.f l = some (lastX l) := by
  unfold profile_length.f lastX
  have e : wrap64 ((l.length : Int) - 1) = (l.length : Int) - 1 := by unfold wrap64; omega
  rw [e, if_pos (by omega), if_pos (by omega)]
theorem prof_len (l : List S33) (h : profC l = 0) : 2 ≤ l.length ∧ l.length ≤ 32 := by
  unfold profC at h
  split at h
  · exact absurd h (by decide)
  split at h
  · exact absurd h (by decide)
  omega
theorem Len_ev (l : List S33) : profile_Length.f l = some (if profC l = 0 then (lastX l, 0) else (0, profC l)) := by
  unfold profile_Length.f check54.f
  simp only [Option.bind_some]
  by_cases c : profC l = 0
  · have := prof_len l c
    rw [if_pos c, if_pos c, len_ev l (by omega) (by omega)]
    rfl
  · rw [if_neg c, if_neg c]
end Go.Proofs.Ytmcmbjkjilcmeaa.K
/- By hand: the reference's check of a profile comes to what profile.Check tells. -/
namespace Go.Proofs.Ytmcmbjkjilcmeaa.K
open Go.RowKit Go.Proofs.YtmcmbjkjilcmeaaW.PrintWords
set_option linter.unusedVariables false
set_option linter.unusedSimpArgs false
theorem isLen_ev (n : Int) : spileref08_isLength.f n = some (measP n) := by
  unfold spileref08_isLength.f measP
  by_cases c : n ≥ 0
  · rw [if_pos c, decide_eq_true c, Bool.true_and]
  · rw [if_neg c, decide_eq_false c, Bool.false_and]
theorem c08_l3 (l : List S33) (hl : l.length ≤ 1000) : ∀ (suf : List S33) (f : Bool) (i : Nat) (p : S33), l.drop i = p :: suf → Ev (fun k => spileref08_Check.l3 k l f ((i + 1 : Nat) : Int)) (if runF f (pairs (p :: suf)) = none then 10 else 0)
  | [], f, i, p, h => by
    obtain ⟨h1, h2, h3⟩ := drop_atP h
    have h4 := drop_end h3
    refine Ev.succ (Ev.const _) (fun k => ?_)
    rw [spileref08_Check.l3, if_neg (by omega)]
    rfl
  | q :: suf, f, i, p, h => by
    obtain ⟨h1, h2, h3⟩ := drop_atP h
    obtain ⟨g1, g2, g3⟩ := drop_atP h3
    have ih := fun f' => c08_l3 l hl suf f' (i + 1) q h3
    have e1 : wrap64 (((i + 1 : Nat) : Int) - 1) = (i : Int) := by rw [wrap_dn (by omega) (by omega)]; simp
    have e2 : wrap64 (((i + 1 : Nat) : Int) + 1) = ((i + 1 + 1 : Nat) : Int) := wrap_up (by omega)
    have p1 : ((i + 1 : Nat) : Int) < (l.length : Int) := by omega
    have p2 : (0 : Int) ≤ ((i + 1 : Nat) : Int) := by omega
    have p3 : (0 : Int) ≤ (i : Int) := by omega
    have p4 : (i : Int) < (l.length : Int) := by omega
    cases f with
    | true =>
      by_cases c : p.f1 < q.f1
      · have e3 : runF true (pairs (p :: q :: suf)) = none := by rw [pairs, runF, if_pos (by simp [c])]
        rw [if_pos e3]
        refine Ev.succ (Ev.const _) (fun k => ?_)
        rw [spileref08_Check.l3, if_pos p1, if_pos rfl, if_pos p2, e1, if_pos p3, if_pos p4, g2, h2, if_pos c]
      · have e3 : runF true (pairs (p :: q :: suf)) = runF true (pairs (q :: suf)) := by rw [pairs, runF, if_neg (by simp [c])]; rfl
        rw [e3]
        refine Ev.succ (ih true) (fun k => ?_)
        rw [spileref08_Check.l3, if_pos p1, if_pos rfl, if_pos p2, e1, if_pos p3, if_pos p4, g2, h2, if_neg (by omega), e2]
    | false =>
      have e3 : runF false (pairs (p :: q :: suf)) = runF (decide (q.f1 < p.f1)) (pairs (q :: suf)) := by rw [pairs, runF, if_neg (by simp)]; rfl
      rw [e3]
      refine Ev.succ (ih (decide (q.f1 < p.f1))) (fun k => ?_)
      rw [spileref08_Check.l3, if_pos p1, if_neg (by simp), if_pos p2, e1, if_pos p3, if_pos p4, g2, h2, e2]
theorem c08_l2 (l : List S33) (hl : l.length ≤ 1000) (h2 : 2 ≤ l.length) : ∀ (suf : List S33) (i : Nat), l.drop i = suf → Ev (fun k => spileref08_Check.l2 k l (i : Int)) (if suf.any zeroP = true then 16 else if runF false (pairs l) = none then 10 else 0)
  | [], i, h => by
    have h4 := drop_end h
    obtain ⟨p, suf, hp⟩ : ∃ p suf, l.drop 0 = p :: suf := by
      cases l with
      | nil => simp at h2
      | cons p suf => exact ⟨p, suf, rfl⟩
    have := c08_l3 l hl suf false 0 p hp
    rw [← hp, List.drop_zero] at this
    exact Ev.succ this (fun k => by rw [spileref08_Check.l2, if_neg (by omega)]; rfl)
  | q :: suf, i, h => by
    obtain ⟨g1, g2, g3⟩ := drop_atP h
    have ih := c08_l2 l hl h2 suf (i + 1) g3
    have p1 : (i : Int) < (l.length : Int) := by omega
    have p2 : (0 : Int) ≤ (i : Int) := by omega
    rw [List.any_cons]
    by_cases c : q.f1 = 0
    · refine Ev.succ (Ev.const _) (fun k => ?_)
      rw [spileref08_Check.l2, if_pos p1, if_pos p2, g2, if_pos c]
      simp [zeroP, c]
    · have e : zeroP q = false := by simp [zeroP, c]
      rw [e, Bool.false_or]
      refine Ev.succ ih (fun k => ?_)
      rw [spileref08_Check.l2, if_pos p1, if_pos p2, g2, if_neg c, wrap_up (by omega)]
theorem c08_l1 (l : List S33) (hl : l.length ≤ 1000) (h2 : 2 ≤ l.length) : ∀ (suf : List S33) (i : Nat) (p : S33), l.drop i = p :: suf → Ev (fun k => spileref08_Check.l1 k l ((i + 1 : Nat) : Int)) (if (pairs (p :: suf)).any (fun x => decide (x.2.f0 ≤ x.1.f0)) = true then 5 else if l.any zeroP = true then 16 else if runF false (pairs l) = none then 10 else 0)
  | [], i, p, h => by
    obtain ⟨h1, h2', h3⟩ := drop_atP h
    have h4 := drop_end h3
    have := c08_l2 l hl h2 l 0 List.drop_zero
    exact Ev.succ this (fun k => by rw [spileref08_Check.l1, if_neg (by omega)]; rfl)
  | q :: suf, i, p, h => by
    obtain ⟨h1, h2', h3⟩ := drop_atP h
    obtain ⟨g1, g2, g3⟩ := drop_atP h3
    have ih := c08_l1 l hl h2 suf (i + 1) q h3
    have e1 : wrap64 (((i + 1 : Nat) : Int) - 1) = (i : Int) := by rw [wrap_dn (by omega) (by omega)]; simp
    have e2 : wrap64 (((i + 1 : Nat) : Int) + 1) = ((i + 1 + 1 : Nat) : Int) := wrap_up (by omega)
    have p1 : ((i + 1 : Nat) : Int) < (l.length : Int) := by omega
    have p2 : (0 : Int) ≤ ((i + 1 : Nat) : Int) := by omega
    have p3 : (0 : Int) ≤ (i : Int) := by omega
    have p4 : (i : Int) < (l.length : Int) := by omega
    have p5 : ¬ ((i + 1 : Nat) : Int) = 0 := by omega
    have p6 : ((i + 1 : Nat) : Int) > 0 := by omega
    rw [pairs, List.any_cons]
    have step : ∀ k, spileref08_Check.l1 (k + 1) l ((i + 1 : Nat) : Int) = spileref08_Check.j2 k l ((i + 1 : Nat) : Int) (decide (p.f0 ≥ q.f0)) := fun k => by
      rw [spileref08_Check.l1, if_pos p1, if_neg p5, if_pos p6, e1, if_pos p3, if_pos p4, if_pos p2, g2, h2']
    refine Ev.succ ?_ step
    by_cases c : q.f0 ≤ p.f0
    · refine Ev.succ (Ev.const _) (fun k => ?_)
      rw [spileref08_Check.j2, if_pos (decide_eq_true c)]
      simp [c]
    · rw [decide_eq_false c, Bool.false_or]
      refine Ev.succ ih (fun k => ?_)
      rw [spileref08_Check.j2, if_neg (by simp), e2]
theorem c08_l0 (l : List S33) (hl : l.length ≤ 1000) (h2 : 2 ≤ l.length) : ∀ (suf : List S33) (i : Nat), l.drop i = suf → Ev (fun k => spileref08_Check.l0 k l (i : Int)) (if suf.any badP = true then 2 else if (rd_T33 l 0).f0 ≠ 0 then 5
    else if (pairs l).any (fun x => decide (x.2.f0 ≤ x.1.f0)) = true then 5 else if l.any zeroP = true then 16 else if runF false (pairs l) = none then 10 else 0)
  | [], i, h => by
    have h4 := drop_end h
    obtain ⟨p, suf, hp⟩ : ∃ p suf, l.drop 0 = p :: suf := by
      cases l with
      | nil => simp at h2
      | cons p suf => exact ⟨p, suf, rfl⟩
    have hx := c08_l1 l hl h2 suf 0 p hp
    rw [← hp, List.drop_zero] at hx
    refine Ev.succ ?_ (fun k => by rw [spileref08_Check.l0, if_neg (by omega)])
    rw [if_neg (by simp)]
    have p1 : (0 : Int) < (l.length : Int) := by omega
    by_cases c : (rd_T33 l 0).f0 = 0
    · rw [if_neg (by simpa using c)]
      refine Ev.succ (g' := fun k => spileref08_Check.j2 k l 0 false) ?_ (fun k => by rw [spileref08_Check.l1, if_pos p1, if_pos rfl, if_pos (by decide), if_pos c, if_neg (by decide)])
      refine Ev.succ hx (fun k => ?_)
      rw [spileref08_Check.j2, if_neg (by simp), show wrap64 (0 + 1) = ((0 + 1 : Nat) : Int) by unfold wrap64; omega]
    · rw [if_pos c]
      refine Ev.succ (g' := fun k => spileref08_Check.j2 k l 0 true) ?_ (fun k => by rw [spileref08_Check.l1, if_pos p1, if_pos rfl, if_pos (by decide), if_neg c])
      exact Ev.succ (Ev.const _) (fun k => by rw [spileref08_Check.j2, if_pos rfl])
  | q :: suf, i, h => by
    obtain ⟨g1, g2, g3⟩ := drop_atP h
    have ih := c08_l0 l hl h2 suf (i + 1) g3
    have p1 : (i : Int) < (l.length : Int) := by omega
    have p2 : (0 : Int) ≤ (i : Int) := by omega
    rw [List.any_cons]
    cases c1 : measP q.f0 with
    | false =>
      refine Ev.succ (Ev.const _) (fun k => ?_)
      rw [spileref08_Check.l0, if_pos p1, if_pos p2, g2, isLen_ev, c1, Option.bind_some, if_neg (by simp)]
      simp [badP, c1]
    | true =>
      cases c2 : measP q.f1 with
      | false =>
        refine Ev.succ (Ev.const _) (fun k => ?_)
        rw [spileref08_Check.l0, if_pos p1, if_pos p2, g2, isLen_ev, c1, Option.bind_some, if_pos rfl, isLen_ev, c2, Option.bind_some, if_neg (by simp)]
        simp [badP, c2]
      | true =>
        have e : badP q = false := by simp [badP, c1, c2]
        rw [e, Bool.false_or]
        refine Ev.succ ih (fun k => ?_)
        rw [spileref08_Check.l0, if_pos p1, if_pos p2, g2, isLen_ev, c1, Option.bind_some, if_pos rfl, isLen_ev, c2, Option.bind_some, if_pos rfl, wrap_up (by omega)]
theorem c08_ev (l : List S33) : Ev (fun k => spileref08_Check.f k l) (profC l) := by
  unfold spileref08_Check.f profC
  by_cases c1 : l.length < 2
  · rw [if_pos c1]
    exact (Ev.const (9 : Int)).congr (fun k => by rw [if_pos (by omega)])
  · rw [if_neg c1]
    by_cases c2 : 32 < l.length
    · rw [if_pos c2]
      exact (Ev.const (8 : Int)).congr (fun k => by rw [if_neg (by omega), if_pos (by omega)])
    · rw [if_neg c2]
      exact (c08_l0 l (by omega) (by omega) l 0 List.drop_zero).congr (fun k => by rw [if_neg (by omega), if_neg (by omega)]; rfl)
end Go.Proofs.Ytmcmbjkjilcmeaa.K
/- By hand: the check of a cask, by both implementations. -/
namespace Go.Proofs.Ytmcmbjkjilcmeaa.K
open Go.RowKit Go.Proofs.YtmcmbjkjilcmeaaW.PrintWords
set_option linter.unusedVariables false
set_option linter.unusedSimpArgs false
def okB (b : Int) : Bool := (decide (97 ≤ b) && decide (b ≤ 122)) || (decide (65 ≤ b) && decide (b ≤ 90)) || (decide (48 ≤ b) && decide (b ≤ 57)) || b == 45 || b == 46
set_option maxHeartbeats 2000000 in
theorem named_step (k : Nat) (x : ByteArray) (n i : Int) (h0 : 0 ≤ i) (h1 : i < (x.size : Int)) (h2 : i < n) : cask_named.l0 (k + 1) x n i = cask_named.j2 k x n i (!okB (bt x i)) := by
  rw [cask_named.l0, if_pos h2, if_pos h0, if_pos h1]
  generalize bt x i = b
  repeat' split
  all_goals (congr 1; simp [okB]; try omega)
set_option maxHeartbeats 2000000 in
theorem name_step (k : Nat) (x : ByteArray) (i : Int) (h0 : 0 ≤ i) (h1 : i < (x.size : Int)) : spileref09_IsName.l0 (k + 1) x i = spileref09_IsName.j1 k x i (!okB (bt x i)) := by
  rw [spileref09_IsName.l0, if_pos h1, if_pos h0]
  generalize bt x i = b
  repeat' split
  all_goals (congr 1; simp [okB]; try omega)
def allB (x : ByteArray) (l : List Nat) : Bool := l.all fun j => okB (bt x (j : Int))
theorem range_at {n i m : Nat} {suf : List Nat} (h : (List.range n).drop i = m :: suf) : i < n ∧ m = i ∧ (List.range n).drop (i + 1) = suf := by
  have hi : i < (List.range n).length := by
    apply Nat.lt_of_not_le
    intro hle
    rw [List.drop_eq_nil_of_le hle] at h
    cases h
  rw [List.drop_eq_getElem_cons hi] at h
  injection h with h1 h2
  rw [List.getElem_range] at h1
  exact ⟨by simpa using hi, h1.symm, h2⟩
theorem named_l0 (x : ByteArray) (hl : x.size ≤ 1000) : ∀ (suf : List Nat) (i : Nat), (List.range x.size).drop i = suf → Ev (fun k => cask_named.l0 k x (x.size : Int) (i : Int)) (allB x suf)
  | [], i, h => by
    have h4 := drop_end h
    rw [List.length_range] at h4
    refine Ev.succ (Ev.const _) (fun k => ?_)
    rw [cask_named.l0, if_neg (by omega)]
    rfl
  | m :: suf, i, h => by
    obtain ⟨h1, rfl, h3⟩ := range_at h
    have ih := named_l0 x hl suf (m + 1) h3
    refine Ev.succ ?_ (fun k => named_step k x _ _ (by omega) (by omega) (by omega))
    unfold allB
    rw [List.all_cons]
    cases c : okB (bt x (m : Int)) with
    | true =>
      rw [Bool.true_and]
      refine Ev.succ ih (fun k => ?_)
      rw [cask_named.j2, if_neg (by simp), wrap_up (by omega)]
    | false =>
      refine Ev.succ (Ev.const _) (fun k => ?_)
      rw [cask_named.j2, if_pos (by simp)]
      rfl
theorem name_l0 (x : ByteArray) (hl : x.size ≤ 1000) : ∀ (suf : List Nat) (i : Nat), (List.range x.size).drop i = suf → Ev (fun k => spileref09_IsName.l0 k x (i : Int)) (allB x suf && (decide (1 ≤ x.size) && decide (x.size ≤ 64)))
  | [], i, h => by
    have h4 := drop_end h
    rw [List.length_range] at h4
    refine Ev.succ (Ev.const _) (fun k => ?_)
    rw [spileref09_IsName.l0, if_neg (by omega)]
    by_cases c : (x.size : Int) ≥ 1
    · rw [if_pos c, decide_eq_true (show 1 ≤ x.size by omega)]
      have : decide ((x.size : Int) ≤ 64) = decide (x.size ≤ 64) := decide_eq_decide.2 (by omega)
      rw [this]
      rfl
    · rw [if_neg c, decide_eq_false (show ¬ 1 ≤ x.size by omega)]
      rfl
  | m :: suf, i, h => by
    obtain ⟨h1, rfl, h3⟩ := range_at h
    have ih := name_l0 x hl suf (m + 1) h3
    refine Ev.succ ?_ (fun k => name_step k x _ (by omega) (by omega))
    unfold allB at ih ⊢
    rw [List.all_cons]
    cases c : okB (bt x (m : Int)) with
    | true =>
      rw [Bool.true_and]
      refine Ev.succ ih (fun k => ?_)
      rw [spileref09_IsName.j1, if_neg (by simp), wrap_up (by omega)]
    | false =>
      refine Ev.succ (Ev.const _) (fun k => ?_)
      rw [spileref09_IsName.j1, if_pos (by simp)]
      rfl
/-- Whether a string is a name. -/
def nmP (x : ByteArray) : Bool := allB x (List.range x.size) && (decide (1 ≤ x.size) && decide (x.size ≤ 64))
theorem named_ev (x : ByteArray) : Ev (fun k => cask_named.f k x) (nmP x) := by
  unfold cask_named.f nmP
  by_cases c1 : (x.size : Int) < 1
  · rw [decide_eq_false (show ¬ 1 ≤ x.size by omega), Bool.false_and, Bool.and_false]
    refine Ev.congr (g := fun k => cask_named.j0 k x true) ?_ (fun k => by rw [if_pos c1])
    exact Ev.succ (Ev.const _) (fun k => by rw [cask_named.j0, if_pos rfl])
  · rw [decide_eq_true (show 1 ≤ x.size by omega), Bool.true_and]
    refine Ev.congr (g := fun k => cask_named.j0 k x (decide ((x.size : Int) > 64))) ?_ (fun k => by rw [if_neg c1])
    by_cases c2 : x.size ≤ 64
    · rw [decide_eq_true c2, Bool.and_true, decide_eq_false (by omega)]
      exact Ev.succ (named_l0 x (by omega) _ 0 List.drop_zero) (fun k => by rw [cask_named.j0, if_neg (by simp)]; rfl)
    · rw [decide_eq_false c2, Bool.and_false, decide_eq_true (by omega)]
      exact Ev.succ (Ev.const _) (fun k => by rw [cask_named.j0, if_pos rfl])
theorem name_ev (x : ByteArray) (hl : x.size ≤ 1000) : Ev (fun k => spileref09_IsName.f k x) (nmP x) := name_l0 x hl _ 0 List.drop_zero
/-- What the check of a cask tells. -/
def caskC (a : ByteArray) (p : Int) (l : List S33) (d : Int) : Int := if nmP a = true then (if (p ≠ 1 ∧ p ≠ 2) ∨ d < 0 ∨ d > 1073741824 then 2 else profC l) else 4
theorem cask_ev (a : ByteArray) (p : Int) (l : List S33) (d : Int) : Ev (fun k => cask_Check.f k a p l d) (caskC a p l d) := by
  unfold cask_Check.f caskC
  refine Ev.bind (named_ev a) ?_
  cases c : nmP a with
  | false => exact (Ev.const (4 : Int)).congr (fun k => by rw [if_neg (by simp)])
  | true =>
    rw [if_pos rfl]
    have h0 : ∀ b : Bool, Ev (fun k => cask_Check.j0 k b a p l d) (if b = true ∨ d < 0 ∨ d > 1073741824 then 2 else profC l) := fun b => by
      cases b with
      | true => exact Ev.succ (Ev.const _) (fun k => by rw [cask_Check.j0, if_pos rfl, if_pos (Or.inl rfl)])
      | false =>
        by_cases c1 : d < 0
        · exact Ev.succ (Ev.const _) (fun k => by rw [cask_Check.j0, if_neg (by simp), if_pos c1, if_pos (.inr (.inl c1))])
        · by_cases c2 : d > 1073741824
          · exact Ev.succ (Ev.const _) (fun k => by rw [cask_Check.j0, if_neg (by simp), if_neg c1, if_pos c2, if_pos (.inr (.inr c2))])
          · exact Ev.succ (Ev.const _) (fun k => by rw [cask_Check.j0, if_neg (by simp), if_neg c1, if_neg c2, if_neg (by simp; omega)]; rfl)
    by_cases c1 : p = 1
    · have := h0 false
      rw [show (if (p ≠ 1 ∧ p ≠ 2) ∨ d < 0 ∨ d > 1073741824 then (2 : Int) else profC l) = if (false = true) ∨ d < 0 ∨ d > 1073741824 then 2 else profC l by simp [c1]]
      exact this.congr (fun k => by rw [if_pos rfl, if_pos c1])
    · have := h0 (p != 2)
      rw [show (if (p ≠ 1 ∧ p ≠ 2) ∨ d < 0 ∨ d > 1073741824 then (2 : Int) else profC l) = if ((p != 2) = true) ∨ d < 0 ∨ d > 1073741824 then 2 else profC l by simp [c1]]
      exact this.congr (fun k => by rw [if_pos rfl, if_neg c1])
theorem rcask_ev (a : ByteArray) (p : Int) (l : List S33) (d : Int) (hl : a.size ≤ 1000) : Ev (fun k => spileref09_Check.f k a p l d) (caskC a p l d) := by
  unfold spileref09_Check.f caskC
  refine Ev.bind (name_ev a hl) ?_
  cases c : nmP a with
  | false => exact (Ev.const (4 : Int)).congr (fun k => by rw [if_neg (by simp)])
  | true =>
    rw [if_pos rfl]
    have h0 : ∀ b : Bool, Ev (fun k => spileref09_Check.j0 k b a p l d) (if b = true then 2 else profC l) := fun b => by
      cases b with
      | true => exact Ev.succ (Ev.const _) (fun k => by rw [spileref09_Check.j0, if_pos rfl, if_pos rfl])
      | false =>
        rw [if_neg (by simp)]
        refine Ev.succ (Ev.bind (c08_ev l) (Ev.const (profC l))) (fun k => ?_)
        rw [spileref09_Check.j0, if_neg (by simp)]
    by_cases c0 : p = 1 ∨ p = 2
    · by_cases c1 : d < 0
      · rw [if_pos (.inr (.inl c1))]
        have := h0 true
        rw [if_pos rfl] at this
        exact this.congr (fun k => by
          rw [if_pos rfl]
          rcases c0 with c0 | c0
          · rw [if_pos c0, if_pos c1]
          · rw [if_neg (by omega), if_pos c0, if_pos c1])
      · have := h0 (decide (d > 1073741824))
        rw [show (if (p ≠ 1 ∧ p ≠ 2) ∨ d < 0 ∨ d > 1073741824 then (2 : Int) else profC l) = if (decide (d > 1073741824) = true) then 2 else profC l by
          by_cases c2 : d > 1073741824
          · rw [if_pos (.inr (.inr c2)), if_pos (decide_eq_true c2)]
          · rw [if_neg (by omega), if_neg (by simp; omega)]]
        exact this.congr (fun k => by
          rw [if_pos rfl]
          rcases c0 with c0 | c0
          · rw [if_pos c0, if_neg c1]
          · rw [if_neg (by omega), if_pos c0, if_neg c1])
    · rw [if_pos (.inl (by omega))]
      have := h0 true
      rw [if_pos rfl] at this
      exact this.congr (fun k => by rw [if_pos rfl, if_neg (by omega), if_neg (by omega)])
/-- The error of a cask that has to be right and standing. -/
def stdC (a : ByteArray) (p : Int) (l : List S33) (d : Int) : Int := if caskC a p l d = 0 then (if p = 2 then 0 else 10) else 1
theorem stands_ev (a : ByteArray) (p : Int) (l : List S33) (d : Int) : Ev (fun k => standing_stands.f k a p l d) (stdC a p l d) := by
  unfold standing_stands.f stdC
  refine Ev.bind (cask_ev a p l d) ?_
  by_cases c : caskC a p l d = 0
  · simp only [if_pos c]
    by_cases c2 : p = 2
    · simp only [if_pos c2]
      exact Ev.const _
    · simp only [if_neg c2]
      exact Ev.const _
  · simp only [if_neg c]
    exact Ev.const _
theorem is_ev (a : ByteArray) (p : Int) (l : List S33) (d : Int) (hl : a.size ≤ 1000) : Ev (fun k => spileref12_is.f k a p l d) (stdC a p l d) := by
  unfold spileref12_is.f stdC
  refine Ev.bind (rcask_ev a p l d hl) ?_
  by_cases c : caskC a p l d = 0
  · simp only [if_pos c]
    by_cases c2 : p = 2
    · simp only [if_pos c2]
      exact Ev.const _
    · simp only [if_neg c2]
      exact Ev.const _
  · simp only [if_neg c]
    exact Ev.const _
theorem std_prof {a : ByteArray} {p : Int} {l : List S33} {d : Int} (h : stdC a p l d = 0) : profC l = 0 := by
  unfold stdC caskC at h
  by_cases c : nmP a = true
  · rw [if_pos c] at h
    by_cases c2 : (p ≠ 1 ∧ p ≠ 2) ∨ d < 0 ∨ d > 1073741824
    · rw [if_pos c2] at h
      simp at h
    · rw [if_neg c2] at h
      by_cases c3 : profC l = 0
      · exact c3
      · rw [if_neg c3] at h
        simp at h
  · rw [if_neg c] at h
    simp at h
end Go.Proofs.Ytmcmbjkjilcmeaa.K
/- By hand: the check of levels, by both implementations; lists of numbers and of bounds compared. -/
namespace Go.Proofs.Ytmcmbjkjilcmeaa.K
open Go.RowKit Go.Proofs.YtmcmbjkjilcmeaaW.PrintWords
set_option linter.unusedVariables false
set_option linter.unusedSimpArgs false
theorem has_l0 (l : List Int) (x : Int) (hl : l.length ≤ 100000) : ∀ (suf : List Int) (i : Nat), l.drop i = suf → Ev (fun k => spileref12_has.l0 k l x (i : Int)) (decide (x ∈ suf))
  | [], i, h => by
    have h4 := drop_end h
    exact Ev.succ (Ev.const _) (fun k => by rw [spileref12_has.l0, if_neg (by omega)]; rfl)
  | q :: suf, i, h => by
    obtain ⟨g1, g2, g3, _⟩ := drop_atI h
    have ih := has_l0 l x hl suf (i + 1) g3
    have p1 : (i : Int) < (l.length : Int) := by omega
    have p2 : (0 : Int) ≤ (i : Int) := by omega
    by_cases c : q = x
    · exact Ev.succ (Ev.const _) (fun k => by rw [spileref12_has.l0, if_pos p1, if_pos p2, g2, if_pos c]; simp [c])
    · rw [show decide (x ∈ q :: suf) = decide (x ∈ suf) by simp [Ne.symm c]]
      exact Ev.succ ih (fun k => by rw [spileref12_has.l0, if_pos p1, if_pos p2, g2, if_neg c, wrap_up (by omega)])
theorem has_ev (l : List Int) (x : Int) (hl : l.length ≤ 100000) : Ev (fun k => spileref12_has.f k l x) (decide (x ∈ l)) := has_l0 l x hl l 0 List.drop_zero
theorem idx_l0 (l : List Int) (x : Int) (hl : l.length ≤ 100000) : ∀ (suf : List Int) (i : Nat), l.drop i = suf → ∃ r : Int, Ev (fun k => slices_Index_int_int.l0 k l x (l.length : Int) (i : Int)) r ∧ decide (r ≥ 0) = decide (x ∈ suf)
  | [], i, h => by
    have h4 := drop_end h
    exact ⟨-1, Ev.succ (Ev.const _) (fun k => by rw [slices_Index_int_int.l0, if_neg (by omega)]), by simp⟩
  | q :: suf, i, h => by
    obtain ⟨g1, g2, g3, _⟩ := drop_atI h
    obtain ⟨r, ih, hr⟩ := idx_l0 l x hl suf (i + 1) g3
    have p1 : (i : Int) < (l.length : Int) := by omega
    have p2 : (0 : Int) ≤ (i : Int) := by omega
    by_cases c : x = q
    · exact ⟨(i : Int), Ev.succ (Ev.const _) (fun k => by rw [slices_Index_int_int.l0, if_pos p1, if_pos p2, if_pos p1, g2, if_pos c]), by simp [c]⟩
    · refine ⟨r, Ev.succ ih (fun k => by rw [slices_Index_int_int.l0, if_pos p1, if_pos p2, if_pos p1, g2, if_neg c, wrap_up (by omega)]), ?_⟩
      rw [hr]
      simp [c]
theorem cont_ev (l : List Int) (x : Int) (hl : l.length ≤ 100000) : Ev (fun k => slices_Contains_int_int.f k l x) (decide (x ∈ l)) := by
  obtain ⟨r, h, hr⟩ := idx_l0 l x hl l 0 List.drop_zero
  unfold slices_Contains_int_int.f slices_Index_int_int.f
  rw [← hr]
  exact Ev.bind h (Ev.const _)
theorem eqI_l0 (a b : List Int) (hl : a.length ≤ 100000) (he : a.length = b.length) : ∀ (sa sb : List Int) (i : Nat), a.drop i = sa → b.drop i = sb → Ev (fun k => slices_Equal_int_int.l0 k a b (a.length : Int) (i : Int)) (decide (sa = sb))
  | [], sb, i, h, h' => by
    have h4 := drop_end h
    have : sb = [] := by rw [← h']; exact List.drop_eq_nil_of_le (by omega)
    subst this
    exact Ev.succ (Ev.const _) (fun k => by rw [slices_Equal_int_int.l0, if_neg (by omega)]; rfl)
  | q :: sa, [], i, h, h' => by
    obtain ⟨g1, g2, g3, _⟩ := drop_atI h
    have := drop_end h'
    omega
  | q :: sa, u :: sb, i, h, h' => by
    obtain ⟨g1, g2, g3, _⟩ := drop_atI h
    obtain ⟨f1, f2, f3, _⟩ := drop_atI h'
    have ih := eqI_l0 a b hl he sa sb (i + 1) g3 f3
    have p1 : (i : Int) < (a.length : Int) := by omega
    have p2 : (0 : Int) ≤ (i : Int) := by omega
    have p3 : (i : Int) < (b.length : Int) := by omega
    by_cases c : q = u
    · rw [show decide (q :: sa = u :: sb) = decide (sa = sb) by simp [c]]
      exact Ev.succ ih (fun k => by rw [slices_Equal_int_int.l0, if_pos p1, if_pos p2, if_pos p1, if_pos p3, g2, f2, if_pos c, wrap_up (by omega)])
    · exact Ev.succ (Ev.const _) (fun k => by rw [slices_Equal_int_int.l0, if_pos p1, if_pos p2, if_pos p1, if_pos p3, g2, f2, if_neg c]; simp [c])
theorem eqI_ev (a b : List Int) (hl : a.length ≤ 100000) : Ev (fun k => slices_Equal_int_int.f k a b) (decide (a = b)) := by
  unfold slices_Equal_int_int.f
  by_cases c : a.length = b.length
  · exact (eqI_l0 a b hl c a b 0 List.drop_zero List.drop_zero).congr (fun k => by rw [if_pos (by omega)]; rfl)
  · rw [decide_eq_false (fun e => c (by rw [e]))]
    exact (Ev.const false).congr (fun k => by rw [if_neg (by omega)])
def ascI : List Int → Bool
  | a :: b :: r => decide (a < b) && ascI (b :: r)
  | _ => true
def outL (lv : List Int) (e : Int) : Bool := lv.any fun x => decide (x < 0) || decide (x > e)
def misP (lv : List Int) (l : List S33) : Bool := l.any fun p => decide (p.f0 > rd lv 0) && (decide (p.f0 < rd lv ((lv.length : Int) - 1)) && !decide (p.f0 ∈ lv))
def chkL (lv : List Int) (l : List S33) : Int := if outL lv (lastX l) = true then 2 else if ascI lv = false then 5 else if misP lv l = true then 7 else 0
/-- What the check of levels tells. -/
def chkC (a : ByteArray) (p : Int) (l : List S33) (d : Int) (lv : List Int) : Int := if stdC a p l d = 0 then (if lv.length < 2 then 9 else if lv.length > 128 then 8 else chkL lv l) else stdC a p l d
section
variable (a : ByteArray) (p : Int) (l : List S33) (d : Int) (lv : List Int) (hl : l.length ≤ 1000) (hv : lv.length ≤ 1000) (h2 : 2 ≤ lv.length) (hl1 : 1 ≤ l.length)
include hl hv h2
theorem sc_l2 : ∀ (suf : List S33) (i : Nat), l.drop i = suf → Ev (fun k => standing_Check.l2 k lv l (l.length : Int) (i : Int)) (if misP lv suf = true then 7 else 0)
  | [], i, h => by
    have h4 := drop_end h
    exact Ev.succ (Ev.const _) (fun k => by rw [standing_Check.l2, if_neg (by omega)]; rfl)
  | q :: suf, i, h => by
    obtain ⟨g1, g2, g3⟩ := drop_atP h
    have ih := sc_l2 suf (i + 1) g3
    have p1 : (i : Int) < (l.length : Int) := by omega
    have p2 : (0 : Int) ≤ (i : Int) := by omega
    have p3 : 0 < (lv.length : Int) := by omega
    have e : wrap64 ((lv.length : Int) - 1) = (lv.length : Int) - 1 := by unfold wrap64; omega
    have p4 : 0 ≤ (lv.length : Int) - 1 := by omega
    have p5 : (lv.length : Int) - 1 < (lv.length : Int) := by omega
    have hj : ∀ b : Bool, Ev (fun k => standing_Check.j3 k lv l (l.length : Int) (i : Int) b) (if b = true then 7 else if misP lv suf = true then 7 else 0) := fun b => by
      cases b with
      | true => exact Ev.succ (Ev.const _) (fun k => by rw [standing_Check.j3, if_pos rfl, if_pos rfl])
      | false => rw [if_neg (by simp)]; exact Ev.succ ih (fun k => by rw [standing_Check.j3, if_neg (by simp), wrap_up (by omega)])
    by_cases c1 : q.f0 > rd lv 0
    · by_cases c2 : q.f0 < rd lv ((lv.length : Int) - 1)
      · have := Ev.bind (h := fun k t => standing_Check.j3 k lv l (l.length : Int) (i : Int) (!t)) (cont_ev lv q.f0 (by omega)) (hj (!decide (q.f0 ∈ lv)))
        refine Ev.succ ?_ (fun k => by rw [standing_Check.l2, if_pos p1, if_pos p2, if_pos p1, if_pos p3, g2, if_pos c1, e, if_pos p4, if_pos p5, if_pos c2])
        rw [show (if misP lv (q :: suf) = true then (7 : Int) else 0) = if (!decide (q.f0 ∈ lv)) = true then 7 else if misP lv suf = true then 7 else 0 by
          rw [misP, List.any_cons, decide_eq_true c1, decide_eq_true c2]
          cases decide (q.f0 ∈ lv) <;> rfl]
        exact this
      · rw [show (if misP lv (q :: suf) = true then (7 : Int) else 0) = if false = true then 7 else if misP lv suf = true then 7 else 0 by
          rw [misP, List.any_cons, decide_eq_true c1, decide_eq_false c2]; rfl]
        exact Ev.succ (hj false) (fun k => by rw [standing_Check.l2, if_pos p1, if_pos p2, if_pos p1, if_pos p3, g2, if_pos c1, e, if_pos p4, if_pos p5, if_neg c2])
    · rw [show (if misP lv (q :: suf) = true then (7 : Int) else 0) = if false = true then 7 else if misP lv suf = true then 7 else 0 by
        rw [misP, List.any_cons, decide_eq_false c1]; rfl]
      exact Ev.succ (hj false) (fun k => by rw [standing_Check.l2, if_pos p1, if_pos p2, if_pos p1, if_pos p3, g2, if_neg c1])
theorem sc_l1 : ∀ (suf : List Int) (i : Nat) (x : Int), lv.drop i = x :: suf → Ev (fun k => standing_Check.l1 k lv ((i + 1 : Nat) : Int) a p l d) (if ascI (x :: suf) = false then 5 else if misP lv l = true then 7 else 0)
  | [], i, x, h => by
    obtain ⟨h1, h2', h3, _⟩ := drop_atI h
    have h4 := drop_end h3
    exact Ev.succ (sc_l2 l lv hl hv h2 l 0 List.drop_zero) (fun k => by rw [standing_Check.l1, if_neg (by omega)]; rfl)
  | q :: suf, i, x, h => by
    obtain ⟨h1, h2', h3, _⟩ := drop_atI h
    obtain ⟨g1, g2, g3, _⟩ := drop_atI h3
    have ih := sc_l1 suf (i + 1) q h3
    have e1 : wrap64 (((i + 1 : Nat) : Int) - 1) = (i : Int) := by rw [wrap_dn (by omega) (by omega)]; simp
    have e2 : wrap64 (((i + 1 : Nat) : Int) + 1) = ((i + 1 + 1 : Nat) : Int) := wrap_up (by omega)
    have p1 : ((i + 1 : Nat) : Int) < (lv.length : Int) := by omega
    have p2 : (0 : Int) ≤ ((i + 1 : Nat) : Int) := by omega
    have p3 : (0 : Int) ≤ (i : Int) := by omega
    have p4 : (i : Int) < (lv.length : Int) := by omega
    by_cases c : x ≥ q
    · refine Ev.succ (Ev.const _) (fun k => ?_)
      rw [standing_Check.l1, if_pos p1, e1, if_pos p3, if_pos p4, if_pos p2, g2, h2', if_pos c, if_pos (by rw [ascI, decide_eq_false (by omega)]; rfl)]
    · rw [show ascI (x :: q :: suf) = ascI (q :: suf) by rw [ascI, decide_eq_true (by omega)]; rfl]
      exact Ev.succ ih (fun k => by rw [standing_Check.l1, if_pos p1, e1, if_pos p3, if_pos p4, if_pos p2, g2, h2', if_neg c, e2])
theorem sc_l0 (e : Int) : ∀ (suf : List Int) (i : Nat), lv.drop i = suf → Ev (fun k => standing_Check.l0 k lv e lv (lv.length : Int) (i : Int) a p l d) (if outL suf e = true then 2 else if ascI lv = false then 5 else if misP lv l = true then 7 else 0)
  | [], i, h => by
    have h4 := drop_end h
    obtain ⟨x, suf, hp⟩ : ∃ x suf, lv.drop 0 = x :: suf := by
      cases lv with
      | nil => simp at h2
      | cons x suf => exact ⟨x, suf, rfl⟩
    have := sc_l1 a p l d lv hl hv h2 suf 0 x hp
    rw [← hp, List.drop_zero] at this
    exact Ev.succ this (fun k => by rw [standing_Check.l0, if_neg (by omega)]; rfl)
  | q :: suf, i, h => by
    obtain ⟨g1, g2, g3, _⟩ := drop_atI h
    have ih := sc_l0 e suf (i + 1) g3
    have p1 : (i : Int) < (lv.length : Int) := by omega
    have p2 : (0 : Int) ≤ (i : Int) := by omega
    rw [outL, List.any_cons]
    by_cases c1 : q < 0
    · refine Ev.succ (Ev.const _) (fun k => ?_)
      rw [standing_Check.l0, if_pos p1, if_pos p2, if_pos p1, g2, if_pos c1]
      simp [c1]
    · by_cases c2 : q > e
      · refine Ev.succ (Ev.const _) (fun k => ?_)
        rw [standing_Check.l0, if_pos p1, if_pos p2, if_pos p1, g2, if_neg c1, if_pos c2]
        simp [c2]
      · rw [decide_eq_false c1, decide_eq_false c2, Bool.or_false, Bool.false_or]
        exact Ev.succ ih (fun k => by rw [standing_Check.l0, if_pos p1, if_pos p2, if_pos p1, g2, if_neg c1, if_neg c2, wrap_up (by omega)])
end
theorem schk_ev (a : ByteArray) (p : Int) (l : List S33) (d : Int) (lv : List Int) : Ev (fun k => standing_Check.f k a p l d lv) (chkC a p l d lv) := by
  unfold standing_Check.f chkC
  refine Ev.bind (stands_ev a p l d) ?_
  by_cases c : stdC a p l d = 0
  · simp only [if_pos c]
    by_cases c1 : lv.length < 2
    · simp only [if_pos c1, if_pos (show (lv.length : Int) < 2 by omega)]
      exact Ev.const _
    · simp only [if_neg c1, if_neg (show ¬ (lv.length : Int) < 2 by omega)]
      by_cases c2 : lv.length > 128
      · simp only [if_pos c2, if_pos (show (lv.length : Int) > 128 by omega)]
        exact Ev.const _
      · simp only [if_neg c2, if_neg (show ¬ (lv.length : Int) > 128 by omega)]
        have hp := std_prof c
        have hl := prof_len l hp
        rw [Len_ev, if_pos hp]
        simp only [Option.bind_some]
        exact sc_l0 a p l d lv (by omega) (by omega) (by omega) (lastX l) lv 0 List.drop_zero
  · simp only [if_neg c]
    exact Ev.const _
end Go.Proofs.Ytmcmbjkjilcmeaa.K
/- By hand: the check of levels, by the reference. -/
namespace Go.Proofs.Ytmcmbjkjilcmeaa.K
open Go.RowKit Go.Proofs.YtmcmbjkjilcmeaaW.PrintWords
set_option linter.unusedVariables false
set_option linter.unusedSimpArgs false
section
variable (l : List S33) (lv : List Int) (hl : l.length ≤ 1000) (hv : lv.length ≤ 1000) (h2 : 2 ≤ lv.length) (hl1 : 1 ≤ l.length)
include hl hv h2
theorem rc_l2 : ∀ (suf : List S33) (i : Nat), l.drop i = suf → Ev (fun k => spileref12_Check.l2 k lv l (i : Int)) (if misP lv suf = true then 7 else 0)
  | [], i, h => by
    have h4 := drop_end h
    exact Ev.succ (Ev.const _) (fun k => by rw [spileref12_Check.l2, if_neg (by omega)]; rfl)
  | q :: suf, i, h => by
    obtain ⟨g1, g2, g3⟩ := drop_atP h
    have ih := rc_l2 suf (i + 1) g3
    have p1 : (i : Int) < (l.length : Int) := by omega
    have p2 : (0 : Int) ≤ (i : Int) := by omega
    have p3 : 0 < (lv.length : Int) := by omega
    have e : wrap64 ((lv.length : Int) - 1) = (lv.length : Int) - 1 := by unfold wrap64; omega
    have p4 : 0 ≤ (lv.length : Int) - 1 := by omega
    have p5 : (lv.length : Int) - 1 < (lv.length : Int) := by omega
    have hj : ∀ b : Bool, Ev (fun k => spileref12_Check.j3 k lv l (i : Int) b) (if b = true then 7 else if misP lv suf = true then 7 else 0) := fun b => by
      cases b with
      | true => exact Ev.succ (Ev.const _) (fun k => by rw [spileref12_Check.j3, if_pos rfl, if_pos rfl])
      | false => rw [if_neg (by simp)]; exact Ev.succ ih (fun k => by rw [spileref12_Check.j3, if_neg (by simp), wrap_up (by omega)])
    by_cases c1 : q.f0 > rd lv 0
    · by_cases c2 : q.f0 < rd lv ((lv.length : Int) - 1)
      · have := Ev.bind (h := fun k t => spileref12_Check.j3 k lv l (i : Int) (!t)) (has_ev lv q.f0 (by omega)) (hj (!decide (q.f0 ∈ lv)))
        refine Ev.succ ?_ (fun k => by rw [spileref12_Check.l2, if_pos p1, if_pos p2, if_pos p3, g2, if_pos c1, e, if_pos p4, if_pos p5, if_pos c2])
        rw [show (if misP lv (q :: suf) = true then (7 : Int) else 0) = if (!decide (q.f0 ∈ lv)) = true then 7 else if misP lv suf = true then 7 else 0 by
          rw [misP, List.any_cons, decide_eq_true c1, decide_eq_true c2]
          cases decide (q.f0 ∈ lv) <;> rfl]
        exact this
      · rw [show (if misP lv (q :: suf) = true then (7 : Int) else 0) = if false = true then 7 else if misP lv suf = true then 7 else 0 by
          rw [misP, List.any_cons, decide_eq_true c1, decide_eq_false c2]; rfl]
        exact Ev.succ (hj false) (fun k => by rw [spileref12_Check.l2, if_pos p1, if_pos p2, if_pos p3, g2, if_pos c1, e, if_pos p4, if_pos p5, if_neg c2])
    · rw [show (if misP lv (q :: suf) = true then (7 : Int) else 0) = if false = true then 7 else if misP lv suf = true then 7 else 0 by
        rw [misP, List.any_cons, decide_eq_false c1]; rfl]
      exact Ev.succ (hj false) (fun k => by rw [spileref12_Check.l2, if_pos p1, if_pos p2, if_pos p3, g2, if_neg c1])
theorem rc_l1 : ∀ (suf : List Int) (i : Nat) (x : Int), lv.drop i = x :: suf → Ev (fun k => spileref12_Check.l1 k lv l ((i + 1 : Nat) : Int)) (if ascI (x :: suf) = false then 5 else if misP lv l = true then 7 else 0)
  | [], i, x, h => by
    obtain ⟨h1, h2', h3, _⟩ := drop_atI h
    have h4 := drop_end h3
    exact Ev.succ (rc_l2 l lv hl hv h2 l 0 List.drop_zero) (fun k => by rw [spileref12_Check.l1, if_neg (by omega)]; rfl)
  | q :: suf, i, x, h => by
    obtain ⟨h1, h2', h3, _⟩ := drop_atI h
    obtain ⟨g1, g2, g3, _⟩ := drop_atI h3
    have ih := rc_l1 suf (i + 1) q h3
    have e1 : wrap64 (((i + 1 : Nat) : Int) - 1) = (i : Int) := by rw [wrap_dn (by omega) (by omega)]; simp
    have e2 : wrap64 (((i + 1 : Nat) : Int) + 1) = ((i + 1 + 1 : Nat) : Int) := wrap_up (by omega)
    have p1 : ((i + 1 : Nat) : Int) < (lv.length : Int) := by omega
    have p2 : (0 : Int) ≤ ((i + 1 : Nat) : Int) := by omega
    have p3 : (0 : Int) ≤ (i : Int) := by omega
    have p4 : (i : Int) < (lv.length : Int) := by omega
    by_cases c : x ≥ q
    · refine Ev.succ (Ev.const _) (fun k => ?_)
      rw [spileref12_Check.l1, if_pos p1, e1, if_pos p3, if_pos p4, if_pos p2, g2, h2', if_pos c, if_pos (by rw [ascI, decide_eq_false (by omega)]; rfl)]
    · rw [show ascI (x :: q :: suf) = ascI (q :: suf) by rw [ascI, decide_eq_true (by omega)]; rfl]
      exact Ev.succ ih (fun k => by rw [spileref12_Check.l1, if_pos p1, e1, if_pos p3, if_pos p4, if_pos p2, g2, h2', if_neg c, e2])
include hl1 in
theorem rc_l0 : ∀ (suf : List Int) (i : Nat), lv.drop i = suf → Ev (fun k => spileref12_Check.l0 k lv l (i : Int)) (if outL suf (lastX l) = true then 2 else if ascI lv = false then 5 else if misP lv l = true then 7 else 0)
  | [], i, h => by
    have h4 := drop_end h
    obtain ⟨x, suf, hp⟩ : ∃ x suf, lv.drop 0 = x :: suf := by
      cases lv with
      | nil => simp at h2
      | cons x suf => exact ⟨x, suf, rfl⟩
    have := rc_l1 l lv hl hv h2 suf 0 x hp
    rw [← hp, List.drop_zero] at this
    exact Ev.succ this (fun k => by rw [spileref12_Check.l0, if_neg (by omega)]; rfl)
  | q :: suf, i, h => by
    obtain ⟨g1, g2, g3, _⟩ := drop_atI h
    have ih := rc_l0 suf (i + 1) g3
    have p1 : (i : Int) < (lv.length : Int) := by omega
    have p2 : (0 : Int) ≤ (i : Int) := by omega
    have eL : wrap64 ((l.length : Int) - 1) = (l.length : Int) - 1 := by unfold wrap64; omega
    have p5 : 0 ≤ (l.length : Int) - 1 := by omega
    have p6 : (l.length : Int) - 1 < (l.length : Int) := by omega
    rw [outL, List.any_cons]
    by_cases c1 : q < 0
    · refine Ev.succ (Ev.const _) (fun k => ?_)
      rw [spileref12_Check.l0, if_pos p1, if_pos p2, g2, if_pos c1]
      simp [c1]
    · by_cases c2 : q > lastX l
      · refine Ev.succ (Ev.const _) (fun k => ?_)
        rw [spileref12_Check.l0, if_pos p1, if_pos p2, g2, if_neg c1, eL, if_pos p5, if_pos p6, if_pos (show q > (rd_T33 l ((l.length : Int) - 1)).f0 from c2)]
        simp [c2]
      · rw [decide_eq_false c1, decide_eq_false c2, Bool.or_false, Bool.false_or]
        exact Ev.succ ih (fun k => by rw [spileref12_Check.l0, if_pos p1, if_pos p2, g2, if_neg c1, eL, if_pos p5, if_pos p6, if_neg (show ¬ q > (rd_T33 l ((l.length : Int) - 1)).f0 from c2), wrap_up (by omega)])
end
theorem rchk_ev (a : ByteArray) (p : Int) (l : List S33) (d : Int) (lv : List Int) (ha : a.size ≤ 1000) : Ev (fun k => spileref12_Check.f k a p l d lv) (chkC a p l d lv) := by
  unfold spileref12_Check.f chkC
  refine Ev.bind (is_ev a p l d ha) ?_
  by_cases c : stdC a p l d = 0
  · simp only [if_pos c]
    by_cases c1 : lv.length < 2
    · simp only [if_pos c1, if_pos (show (lv.length : Int) < 2 by omega)]
      exact Ev.const _
    · simp only [if_neg c1, if_neg (show ¬ (lv.length : Int) < 2 by omega)]
      by_cases c2 : lv.length > 128
      · simp only [if_pos c2, if_pos (show (lv.length : Int) > 128 by omega)]
        exact Ev.const _
      · simp only [if_neg c2, if_neg (show ¬ (lv.length : Int) > 128 by omega)]
        have hl := prof_len l (std_prof c)
        exact rc_l0 l lv (by omega) (by omega) (by omega) (by omega) lv 0 List.drop_zero
  · simp only [if_neg c]
    exact Ev.const _
end Go.Proofs.Ytmcmbjkjilcmeaa.K
/- By hand: numbers sorted, each once; a strictly ascending list is known by its members. -/
namespace Go.Proofs.Ytmcmbjkjilcmeaa.K
open Go.RowKit Go.Proofs.YtmcmbjkjilcmeaaW.PrintWords
set_option linter.unusedVariables false
set_option linter.unusedSimpArgs false
theorem srt_asc (xs : List Int) : (srt xs).Pairwise (· ≤ ·) := by
  have h := List.pairwise_mergeSort (le := fun x y : Int => decide (x ≤ y)) (fun a b c h1 h2 => by simp only [decide_eq_true_eq] at *; omega) (fun a b => by simp only [Bool.or_eq_true, decide_eq_true_eq]; omega) xs
  exact h.imp (fun h => by simpa using h)
theorem srt_mem (xs : List Int) (x : Int) : x ∈ srt xs ↔ x ∈ xs := (List.mergeSort_perm xs _).mem_iff
theorem comp_upto (zs : List Int) (hs : zs.Pairwise (· ≤ ·)) : ∀ m, m ≤ zs.length → (Lib.compactUpTo zs.toArray m).Pairwise (· < ·) ∧ ∀ x, x ∈ Lib.compactUpTo zs.toArray m ↔ ∃ j, j < m ∧ zs[j]? = some x := by
  intro m
  induction m with
  | zero => intro _; exact ⟨by simp [Lib.compactUpTo], fun x => by simp [Lib.compactUpTo]⟩
  | succ m ih =>
    intro hm
    obtain ⟨h1, h2⟩ := ih (by omega)
    have hg : ∀ j (hj : j < zs.length), zs.toArray[j]! = zs[j] := fun j hj => by simp [hj]
    rw [Lib.compactUpTo_succ]
    have hlt : m < zs.length := by omega
    by_cases c : Lib.keeps zs.toArray m = true
    · rw [if_pos c]
      refine ⟨List.pairwise_append.2 ⟨h1, by simp, ?_⟩, fun x => ?_⟩
      · intro x hx y hy
        simp only [List.mem_singleton] at hy
        subst hy
        obtain ⟨j, hj, hxj⟩ := (h2 x).1 hx
        obtain ⟨hj', rfl⟩ := List.getElem?_eq_some_iff.1 hxj
        rw [hg m hlt]
        simp only [Lib.keeps, decide_eq_true_eq] at c
        rcases c with c | c
        · omega
        · rw [hg m hlt, hg (m - 1) (by omega)] at c
          have a1 : zs[m - 1] ≤ zs[m] := List.pairwise_iff_getElem.1 hs (m - 1) m (by omega) hlt (by omega)
          have a2 : zs[j] ≤ zs[m - 1] := by
            by_cases e : j = m - 1
            · subst e; exact Int.le_refl _
            · exact List.pairwise_iff_getElem.1 hs j (m - 1) hj' (by omega) (by omega)
          omega
      · rw [List.mem_append, h2, List.mem_singleton, hg m hlt]
        constructor
        · rintro (⟨j, hj, e⟩ | rfl)
          · exact ⟨j, by omega, e⟩
          · exact ⟨m, by omega, List.getElem?_eq_getElem hlt⟩
        · rintro ⟨j, hj, e⟩
          by_cases c2 : j = m
          · subst c2
            rw [List.getElem?_eq_getElem hlt] at e
            exact .inr (Option.some.inj e).symm
          · exact .inl ⟨j, by omega, e⟩
    · rw [if_neg c, List.append_nil]
      refine ⟨h1, fun x => ?_⟩
      rw [h2]
      simp only [Lib.keeps, decide_eq_true_eq, not_or, ne_eq, Classical.not_not] at c
      rw [hg m hlt, hg (m - 1) (by omega)] at c
      constructor
      · rintro ⟨j, hj, e⟩
        exact ⟨j, by omega, e⟩
      · rintro ⟨j, hj, e⟩
        by_cases c2 : j = m
        · subst c2
          rw [List.getElem?_eq_getElem hlt, c.2] at e
          exact ⟨j - 1, by omega, by rw [List.getElem?_eq_getElem (by omega)]; exact e⟩
        · exact ⟨j, by omega, e⟩
theorem comp_asc (zs : List Int) (hs : zs.Pairwise (· ≤ ·)) : (Lib.compact zs).Pairwise (· < ·) := (comp_upto zs hs zs.length (Nat.le_refl _)).1
theorem comp_mem (zs : List Int) (hs : zs.Pairwise (· ≤ ·)) (x : Int) : x ∈ Lib.compact zs ↔ x ∈ zs := by
  refine ((comp_upto zs hs zs.length (Nat.le_refl _)).2 x).trans ⟨?_, ?_⟩
  · rintro ⟨j, hj, e⟩
    exact List.mem_of_getElem? e
  · intro h
    obtain ⟨j, hj, rfl⟩ := List.mem_iff_getElem.1 h
    exact ⟨j, hj, List.getElem?_eq_getElem hj⟩
/-- The numbers in ascending order, each once. -/
def setL (xs : List Int) : List Int := Lib.compact (srt xs)
theorem set_asc (xs : List Int) : (setL xs).Pairwise (· < ·) := comp_asc _ (srt_asc xs)
theorem set_mem (xs : List Int) (x : Int) : x ∈ setL xs ↔ x ∈ xs := (comp_mem _ (srt_asc xs) x).trans (srt_mem xs x)
theorem asc_ext : ∀ {a b : List Int}, a.Pairwise (· < ·) → b.Pairwise (· < ·) → (∀ x, x ∈ a ↔ x ∈ b) → a = b
  | [], [], _, _, _ => rfl
  | [], y :: b, _, _, h => absurd ((h y).2 (by simp)) (by simp)
  | x :: a, [], _, _, h => absurd ((h x).1 (by simp)) (by simp)
  | x :: a, y :: b, h1, h2, h => by
    obtain ⟨h1a, h1b⟩ := List.pairwise_cons.1 h1
    obtain ⟨h2a, h2b⟩ := List.pairwise_cons.1 h2
    have e : x = y := by
      have m1 := (h x).1 (by simp)
      have m2 := (h y).2 (by simp)
      rcases List.mem_cons.1 m1 with e | m1
      · exact e
      · rcases List.mem_cons.1 m2 with e | m2
        · exact e.symm
        · have := h2a x m1
          have := h1a y m2
          omega
    subst e
    rw [asc_ext h1b h2b (fun z => ?_)]
    constructor
    · intro hz
      have := (h z).1 (by simp [hz])
      rcases List.mem_cons.1 this with e | m
      · subst e
        exact absurd (h1a z hz) (by omega)
      · exact m
    · intro hz
      have := (h z).2 (by simp [hz])
      rcases List.mem_cons.1 this with e | m
      · subst e
        exact absurd (h2a z hz) (by omega)
      · exact m
theorem sorted_ev (xs : List Int) (h : xs.length < 100000000) : sorted35.f xs = some (setL xs) := by unfold sorted35.f; rw [if_pos h]; rfl
theorem set_eq {xs ys : List Int} (h1 : ys.Pairwise (· < ·)) (h2 : ∀ x, x ∈ xs ↔ x ∈ ys) : setL xs = ys := asc_ext (set_asc xs) h1 (fun x => (set_mem xs x).trans (h2 x))
end Go.Proofs.Ytmcmbjkjilcmeaa.K
/- By hand: the n-fold levels, by both implementations. -/
namespace Go.Proofs.Ytmcmbjkjilcmeaa.K
open Go.RowKit Go.Proofs.YtmcmbjkjilcmeaaW.PrintWords
set_option linter.unusedVariables false
set_option linter.unusedSimpArgs false
def gv (dip n : Int) (i : Nat) : Int := Int.tdiv ((i : Int) * dip) n
def gridL (dip n : Int) : List Int := (List.range (n.toNat + 1)).map (gv dip n)
def ptsL (l : List S33) (dip : Int) : List Int := (l.filter fun p => decide (p.f0 < dip)).map (·.f0)
def levL (l : List S33) (dip n : Int) : List Int := setL (gridL dip n ++ ptsL l dip)
def levE (l : List S33) (dip n : Int) : List Int × Int := if profC l = 0 then (if dip < 0 ∨ dip > lastX l ∨ n < 1 ∨ n > 64 then ([], 2) else (levL l dip n, 0)) else ([], 1)
theorem gv_wrap {dip n : Int} {i : Nat} (hd : 0 ≤ dip ∧ dip ≤ 100000) (hi : i ≤ 64) : wrap64 ((i : Int) * dip) = (i : Int) * dip ∧ wrap64 (Int.tdiv ((i : Int) * dip) n) = gv dip n i := by
  have h1 := mul_bd (i : Int) dip ⟨by omega, by omega⟩ ⟨by omega, by omega⟩
  exact ⟨wrap_id _ (by omega), wrap_tdiv _ _ (by omega)⟩
theorem lv_l1 (l : List S33) (hl : l.length ≤ 1000) (dip : Int) : ∀ (suf : List S33) (i : Nat) (out : List Int), l.drop i = suf → out.length + suf.length < 100000 → Ev (fun k => standing_Levels.l1 k dip out l (l.length : Int) (i : Int)) (setL (out ++ ptsL suf dip), 0)
  | [], i, out, h, hlen => by
    have h4 := drop_end h
    have := sorted_ev out (by simp at hlen; omega)
    refine Ev.succ (Ev.const _) (fun k => ?_)
    rw [standing_Levels.l1, if_neg (by omega), this, ptsL, List.filter_nil, List.map_nil, List.append_nil]
    rfl
  | q :: suf, i, out, h, hlen => by
    obtain ⟨g1, g2, g3⟩ := drop_atP h
    rw [List.length_cons] at hlen
    have p1 : (i : Int) < (l.length : Int) := by omega
    have p2 : (0 : Int) ≤ (i : Int) := by omega
    by_cases c : q.f0 < dip
    · have ih := lv_l1 l hl dip suf (i + 1) (out ++ [q.f0]) g3 (by simp; omega)
      rw [show out ++ ptsL (q :: suf) dip = (out ++ [q.f0]) ++ ptsL suf dip by simp [ptsL, c]]
      exact Ev.succ ih (fun k => by rw [standing_Levels.l1, if_pos p1, if_pos p2, if_pos p1, g2, if_pos c, if_pos (by omega), wrap_up (by omega)])
    · have ih := lv_l1 l hl dip suf (i + 1) out g3 (by omega)
      rw [show ptsL (q :: suf) dip = ptsL suf dip by simp [ptsL, c]]
      exact Ev.succ ih (fun k => by rw [standing_Levels.l1, if_pos p1, if_pos p2, if_pos p1, g2, if_neg c, wrap_up (by omega)])
theorem lv_l0 (l : List S33) (hl : l.length ≤ 1000) (dip n : Int) (hd : 0 ≤ dip ∧ dip ≤ 100000) (hn : 1 ≤ n ∧ n ≤ 64) : ∀ (suf : List Nat) (i : Nat) (out : List Int), (List.range (n.toNat + 1)).drop i = suf → out.length + suf.length < 1000 →
    Ev (fun k => standing_Levels.l0 k l dip n out (n + 1) (i : Int)) (setL (out ++ suf.map (gv dip n) ++ ptsL l dip), 0)
  | [], i, out, h, hlen => by
    have h4 := drop_end h
    rw [List.length_range] at h4
    have := lv_l1 l hl dip l 0 out List.drop_zero (by simp at hlen; omega)
    rw [List.map_nil, List.append_nil]
    exact Ev.succ this (fun k => by rw [standing_Levels.l0, if_neg (by omega)]; rfl)
  | m :: suf, i, out, h, hlen => by
    obtain ⟨h1, rfl, h3⟩ := range_at h
    rw [List.length_cons] at hlen
    have ih := lv_l0 l hl dip n hd hn suf (m + 1) (out ++ [gv dip n m]) h3 (by simp; omega)
    obtain ⟨w1, w2⟩ := gv_wrap (n := n) (i := m) hd (by omega)
    rw [show out ++ (m :: suf).map (gv dip n) ++ ptsL l dip = (out ++ [gv dip n m]) ++ suf.map (gv dip n) ++ ptsL l dip by simp]
    exact Ev.succ ih (fun k => by rw [standing_Levels.l0, if_pos (by omega), if_neg (by omega), if_pos (by omega), w1, w2, wrap_up (by omega)])
theorem prof_meas (l : List S33) (h : profC l = 0) : ∀ p ∈ l, (0 ≤ p.f0 ∧ p.f0 ≤ 100000) ∧ (0 ≤ p.f1 ∧ p.f1 ≤ 100000) := by
  unfold profC at h
  split at h
  · exact absurd h (by decide)
  split at h
  · exact absurd h (by decide)
  split at h
  · exact absurd h (by decide)
  rename_i h3
  intro p hp
  have hb : badP p = false := by
    have h4 : ¬ ∃ x ∈ l, badP x = true := fun hh => h3 (List.any_eq_true.2 hh)
    cases e : badP p with
    | false => rfl
    | true => exact absurd ⟨p, hp, e⟩ h4
  simp [badP, measP] at hb
  exact hb
theorem last_mem (l : List S33) (h : 1 ≤ l.length) : rd_T33 l ((l.length : Int) - 1) ∈ l := by
  rw [show (l.length : Int) - 1 = ((l.length - 1 : Nat) : Int) by omega, rdP_get l (l.length - 1) (by omega)]
  exact List.getElem_mem _
theorem last_bd (l : List S33) (h : profC l = 0) : 0 ≤ lastX l ∧ lastX l ≤ 100000 :=
  (prof_meas l h _ (last_mem l (by have := prof_len l h; omega))).1
theorem slev_ev (l : List S33) (dip n : Int) : Ev (fun k => standing_Levels.f k l dip n) (levE l dip n) := by
  unfold standing_Levels.f levE
  rw [Len_ev]
  simp only [Option.bind_some]
  by_cases c : profC l = 0
  · simp only [if_pos c, if_true]
    have h0 := prof_len l c
    have hL := last_bd l c
    have ht : Ev (fun k => standing_Levels.j0 k l dip n true) (([] : List Int), (2 : Int)) := Ev.succ (Ev.const _) (fun k => by rw [standing_Levels.j0, if_pos rfl])
    by_cases c1 : dip < 0
    · simp only [if_pos c1, if_pos (show dip < 0 ∨ dip > lastX l ∨ n < 1 ∨ n > 64 from .inl c1)]
      exact ht
    by_cases c2 : dip > lastX l
    · simp only [if_neg c1, if_pos c2, if_pos (show dip < 0 ∨ dip > lastX l ∨ n < 1 ∨ n > 64 from .inr (.inl c2))]
      exact ht
    by_cases c3 : n < 1
    · simp only [if_neg c1, if_neg c2, if_pos c3, if_pos (show dip < 0 ∨ dip > lastX l ∨ n < 1 ∨ n > 64 from .inr (.inr (.inl c3)))]
      exact ht
    by_cases c4 : n > 64
    · simp only [if_neg c1, if_neg c2, if_neg c3, if_pos (show dip < 0 ∨ dip > lastX l ∨ n < 1 ∨ n > 64 from .inr (.inr (.inr c4))), decide_eq_true c4]
      exact ht
    · simp only [if_neg c1, if_neg c2, if_neg c3, if_neg (show ¬ (dip < 0 ∨ dip > lastX l ∨ n < 1 ∨ n > 64) by omega), decide_eq_false c4]
      have := lv_l0 l (by omega) dip n ⟨by omega, by omega⟩ ⟨by omega, by omega⟩ (List.range (n.toNat + 1)) 0 [] List.drop_zero (by simp; omega)
      rw [List.nil_append] at this
      refine Ev.succ this (fun k => ?_)
      rw [standing_Levels.j0, if_neg (by simp), wrap_id (n + 1) (by omega)]
      rfl
  · simp only [if_neg c]
    exact Ev.const _
/-! The reference's. -/
/-- The least of some numbers behind x, or what was the best. -/
def nxF (x : Int) (b : Int) (ys : List Int) : Int := ys.foldl (fun b y => if y > x then (if y < b then y else b) else b) b
def nxE (l : List S33) (dip n x : Int) : Int := nxF x (nxF x dip (gridL dip n)) (l.map (·.f0))
theorem nxF_spec (x : Int) : ∀ (ys : List Int) (b : Int), x < b → x < nxF x b ys ∧ nxF x b ys ≤ b ∧ (nxF x b ys = b ∨ nxF x b ys ∈ ys) ∧ ∀ y ∈ ys, x < y → nxF x b ys ≤ y
  | [], b, h => ⟨h, Int.le_refl _, .inl rfl, by simp⟩
  | y :: ys, b, h => by
    unfold nxF
    rw [List.foldl_cons]
    by_cases c1 : y > x
    · rw [if_pos c1]
      by_cases c2 : y < b
      · rw [if_pos c2]
        obtain ⟨h1, h2, h3, h4⟩ := nxF_spec x ys y c1
        unfold nxF at h1 h2 h3 h4
        refine ⟨h1, by omega, .inr ?_, fun z hz hx => ?_⟩
        · rcases h3 with e | m
          · rw [e]; simp
          · exact List.mem_cons_of_mem _ m
        · rcases List.mem_cons.1 hz with e | m
          · subst e; exact h2
          · exact h4 z m hx
      · rw [if_neg c2]
        obtain ⟨h1, h2, h3, h4⟩ := nxF_spec x ys b h
        unfold nxF at h1 h2 h3 h4
        refine ⟨h1, h2, h3.imp id (List.mem_cons_of_mem _), fun z hz hx => ?_⟩
        rcases List.mem_cons.1 hz with e | m
        · subst e; omega
        · exact h4 z m hx
    · rw [if_neg c1]
      obtain ⟨h1, h2, h3, h4⟩ := nxF_spec x ys b h
      unfold nxF at h1 h2 h3 h4
      refine ⟨h1, h2, h3.imp id (List.mem_cons_of_mem _), fun z hz hx => ?_⟩
      rcases List.mem_cons.1 hz with e | m
      · subst e; omega
      · exact h4 z m hx
theorem nx_l1 (l : List S33) (hl : l.length ≤ 1000) (x : Int) : ∀ (suf : List S33) (i : Nat) (b : Int), l.drop i = suf → Ev (fun k => spileref12_next.l1 k l x b (i : Int)) (nxF x b (suf.map (·.f0)))
  | [], i, b, h => by
    have h4 := drop_end h
    exact Ev.succ (Ev.const _) (fun k => by rw [spileref12_next.l1, if_neg (by omega)]; rfl)
  | q :: suf, i, b, h => by
    obtain ⟨g1, g2, g3⟩ := drop_atP h
    have ih := fun b' => nx_l1 l hl x suf (i + 1) b' g3
    have p1 : (i : Int) < (l.length : Int) := by omega
    have p2 : (0 : Int) ≤ (i : Int) := by omega
    rw [List.map_cons, nxF, List.foldl_cons]
    by_cases c1 : q.f0 > x
    · rw [if_pos c1]
      by_cases c2 : q.f0 < b
      · rw [if_pos c2]
        exact Ev.succ (ih q.f0) (fun k => by rw [spileref12_next.l1, if_pos p1, if_pos p2, g2, if_pos c1, if_pos c2, wrap_up (by omega)])
      · rw [if_neg c2]
        exact Ev.succ (ih b) (fun k => by rw [spileref12_next.l1, if_pos p1, if_pos p2, g2, if_pos c1, if_neg c2, wrap_up (by omega)])
    · rw [if_neg c1]
      exact Ev.succ (ih b) (fun k => by rw [spileref12_next.l1, if_pos p1, if_pos p2, g2, if_neg c1, wrap_up (by omega)])
theorem nx_l0 (l : List S33) (hl : l.length ≤ 1000) (dip n x : Int) (hd : 0 ≤ dip ∧ dip ≤ 100000) (hn : 1 ≤ n ∧ n ≤ 64) : ∀ (suf : List Nat) (i : Nat) (b : Int), (List.range (n.toNat + 1)).drop i = suf →
    Ev (fun k => spileref12_next.l0 k l dip n x b (i : Int)) (nxF x (nxF x b (suf.map (gv dip n))) (l.map (·.f0)))
  | [], i, b, h => by
    have h4 := drop_end h
    rw [List.length_range] at h4
    have := nx_l1 l hl x l 0 b List.drop_zero
    exact Ev.succ this (fun k => by rw [spileref12_next.l0, if_neg (by omega)]; rfl)
  | m :: suf, i, b, h => by
    obtain ⟨h1, rfl, h3⟩ := range_at h
    have ih := fun b' => nx_l0 l hl dip n x hd hn suf (m + 1) b' h3
    obtain ⟨w1, w2⟩ := gv_wrap (n := n) (i := m) hd (by omega)
    have p1 : (m : Int) ≤ n := by omega
    have p2 : ¬ n = 0 := by omega
    rw [List.map_cons, show nxF x b (gv dip n m :: suf.map (gv dip n)) = nxF x (if gv dip n m > x then (if gv dip n m < b then gv dip n m else b) else b) (suf.map (gv dip n)) from rfl]
    by_cases c1 : gv dip n m > x
    · rw [if_pos c1]
      by_cases c2 : gv dip n m < b
      · rw [if_pos c2]
        exact Ev.succ (ih _) (fun k => by rw [spileref12_next.l0, if_pos p1, if_neg p2, w1, w2, if_pos c1, if_pos c2, wrap_up (by omega)])
      · rw [if_neg c2]
        exact Ev.succ (ih _) (fun k => by rw [spileref12_next.l0, if_pos p1, if_neg p2, w1, w2, if_pos c1, if_neg c2, wrap_up (by omega)])
    · rw [if_neg c1]
      exact Ev.succ (ih _) (fun k => by rw [spileref12_next.l0, if_pos p1, if_neg p2, w1, w2, if_neg c1, wrap_up (by omega)])
theorem nx_ev (l : List S33) (hl : l.length ≤ 1000) (dip n x : Int) (hd : 0 ≤ dip ∧ dip ≤ 100000) (hn : 1 ≤ n ∧ n ≤ 64) : Ev (fun k => spileref12_next.f k l dip n x) (nxE l dip n x) := nx_l0 l hl dip n x hd hn _ 0 dip List.drop_zero
theorem gv_bd {dip n : Int} {i : Nat} (hd : 0 ≤ dip) (hn : 1 ≤ n) (hi : (i : Int) ≤ n) : 0 ≤ gv dip n i ∧ gv dip n i ≤ dip := by
  have h0 : 0 ≤ (i : Int) * dip := Int.mul_nonneg (by omega) hd
  unfold gv
  rw [Int.tdiv_eq_ediv_of_nonneg h0]
  refine ⟨Int.ediv_nonneg h0 (by omega), ?_⟩
  have h1 : (i : Int) * dip ≤ n * dip := Int.mul_le_mul_of_nonneg_right hi hd
  have h2 := Int.ediv_le_ediv (show 0 < n by omega) h1
  rwa [Int.mul_ediv_cancel_left _ (by omega)] at h2
theorem gv_0 (dip n : Int) : gv dip n 0 = 0 := by simp [gv]
theorem gv_n {dip n : Int} (hn : 1 ≤ n) : gv dip n n.toNat = dip := by
  unfold gv
  rw [show ((n.toNat : Nat) : Int) = n by omega, Int.mul_tdiv_cancel_left _ (by omega)]
/-- The set of levels: all in [0, dip]; 0 and dip are in it. -/
theorem lev_facts (l : List S33) (dip n : Int) (hp : profC l = 0) (hd : 0 ≤ dip ∧ dip ≤ lastX l) (hn : 1 ≤ n ∧ n ≤ 64) :
    (∀ x ∈ levL l dip n, 0 ≤ x ∧ x ≤ dip) ∧ (0 : Int) ∈ levL l dip n ∧ dip ∈ levL l dip n := by
  refine ⟨fun x hx => ?_, ?_, ?_⟩
  · have := (set_mem _ x).1 hx
    rcases List.mem_append.1 this with h | h
    · obtain ⟨i, hi, rfl⟩ := List.mem_map.1 h
      rw [List.mem_range] at hi
      exact gv_bd hd.1 hn.1 (by omega)
    · obtain ⟨p, hp', rfl⟩ := List.mem_map.1 h
      obtain ⟨h1, h2⟩ := List.mem_filter.1 hp'
      have := (prof_meas l hp p h1).1
      simp at h2
      omega
  · refine (set_mem _ _).2 (List.mem_append.2 (.inl (List.mem_map.2 ⟨0, by rw [List.mem_range]; omega, gv_0 _ _⟩)))
  · refine (set_mem _ _).2 (List.mem_append.2 (.inl (List.mem_map.2 ⟨n.toNat, by rw [List.mem_range]; omega, gv_n hn.1⟩)))
theorem nx_spec (l : List S33) (dip n x : Int) (hx : x < dip) : x < nxE l dip n x ∧ nxE l dip n x ≤ dip ∧ (nxE l dip n x = dip ∨ nxE l dip n x ∈ gridL dip n ++ ptsL l dip) ∧ ∀ y ∈ gridL dip n ++ ptsL l dip, x < y → nxE l dip n x ≤ y := by
  obtain ⟨a1, a2, a3, a4⟩ := nxF_spec x (gridL dip n) dip hx
  obtain ⟨b1, b2, b3, b4⟩ := nxF_spec x (l.map (·.f0)) _ a1
  unfold nxE
  refine ⟨b1, by omega, ?_, fun y hy hxy => ?_⟩
  · rcases b3 with e | m
    · rw [e]
      exact a3.imp id (fun h => List.mem_append.2 (.inl h))
    · by_cases c : nxF x (nxF x dip (gridL dip n)) (l.map (·.f0)) = dip
      · exact .inl c
      · obtain ⟨p, hp, he⟩ := List.mem_map.1 m
        refine .inr (List.mem_append.2 (.inr (List.mem_map.2 ⟨p, List.mem_filter.2 ⟨hp, ?_⟩, he⟩)))
        simp only [decide_eq_true_eq]
        omega
  · rcases List.mem_append.1 hy with h | h
    · have := a4 y h hxy
      omega
    · obtain ⟨p, hp, rfl⟩ := List.mem_map.1 h
      exact b4 _ (List.mem_map.2 ⟨p, (List.mem_filter.1 hp).1, rfl⟩) hxy
theorem mg_l0 (l : List S33) (hl : l.length ≤ 1000) (dip n : Int) (hp : profC l = 0) (hd : 0 ≤ dip ∧ dip ≤ lastX l) (hn : 1 ≤ n ∧ n ≤ 64) (M : List Int) (hM : levL l dip n = M) (hML : M.length ≤ 100000) :
    ∀ (d j : Nat), j + d + 1 = M.length → Ev (fun k => spileref12_Merge.l0 k l dip n (M.take (j + 1))) M := by
  obtain ⟨f1, f2, f3⟩ := lev_facts l dip n hp hd hn
  have hasc := set_asc (gridL dip n ++ ptsL l dip)
  have hL := last_bd l hp
  rw [hM] at f1 f2 f3
  have hasc' : M.Pairwise (· < ·) := hM ▸ hasc
  have hmem : ∀ x, x ∈ M ↔ x ∈ gridL dip n ++ ptsL l dip := fun x => by rw [← hM]; exact set_mem _ x
  intro d
  induction d with
  | zero =>
    intro j hj
    have e : M.take (j + 1) = M := List.take_of_length_le (by omega)
    have hlast : M[j]'(by omega) = dip := by
      obtain ⟨i, hi, he⟩ := List.mem_iff_getElem.1 f3
      have h1 := (f1 _ (List.getElem_mem (show j < M.length by omega))).2
      by_cases c : i = j
      · subst c; exact he
      · have := List.pairwise_iff_getElem.1 hasc' i j hi (by omega) (by omega)
        omega
    rw [e]
    refine Ev.succ (Ev.const _) (fun k => ?_)
    have e2 : wrap64 ((M.length : Int) - 1) = (j : Int) := by unfold wrap64; omega
    rw [spileref12_Merge.l0, e2, if_pos (by omega), if_pos (by omega), rdI_get M j (by omega), if_neg (by omega)]
  | succ d ih =>
    intro j hj
    have hj1 : j < M.length := by omega
    have hj2 : j + 1 < M.length := by omega
    have hlt : M[j] < M[j + 1] := List.pairwise_iff_getElem.1 hasc' j (j + 1) hj1 hj2 (by omega)
    have hle := (f1 _ (List.getElem_mem hj2)).2
    have hx : M[j] < dip := by omega
    obtain ⟨n1, n2, n3, n4⟩ := nx_spec l dip n M[j] hx
    have hn3 : nxE l dip n M[j] ∈ M := by
      rcases n3 with e | m
      · rw [e]; exact f3
      · exact (hmem _).2 m
    have hnx : nxE l dip n M[j] = M[j + 1] := by
      have h1 := n4 M[j + 1] ((hmem _).1 (List.getElem_mem hj2)) hlt
      obtain ⟨i, hi, he⟩ := List.mem_iff_getElem.1 hn3
      have hij : j < i := by
        apply Nat.lt_of_not_le
        intro hle'
        by_cases c : i = j
        · subst c; omega
        · have := List.pairwise_iff_getElem.1 hasc' i j hi hj1 (by omega)
          omega
      by_cases c : i = j + 1
      · subst c; omega
      · have := List.pairwise_iff_getElem.1 hasc' (j + 1) i hj2 hi (by omega)
        omega
    have hstep : M.take (j + 1) ++ [M[j + 1]] = M.take (j + 1 + 1) := List.take_append_getElem hj2
    have e0 : (M.take (j + 1)).length = j + 1 := by rw [List.length_take]; omega
    have e2 : wrap64 (((M.take (j + 1)).length : Int) - 1) = (j : Int) := by rw [e0]; unfold wrap64; omega
    have e3 : rd (M.take (j + 1)) (j : Int) = M[j] := by rw [rdI_get _ j (by omega)]; simp
    have hb := nx_ev l hl dip n M[j] ⟨by omega, by omega⟩ hn
    rw [hnx] at hb
    have hi := ih (j + 1) (by omega)
    rw [← hstep] at hi
    refine Ev.succ (Ev.bind (h := fun k t => spileref12_Merge.l0 k l dip n (M.take (j + 1) ++ [t])) hb hi) (fun k => ?_)
    rw [spileref12_Merge.l0, e2, e0, if_pos (by omega), if_pos (by omega), e3, if_pos hx]
    congr 1
    funext t
    rw [if_pos (by omega)]
theorem rlev_ev (l : List S33) (dip n : Int) : Ev (fun k => spileref12_Levels.f k l dip n) (levE l dip n) := by
  unfold spileref12_Levels.f levE
  refine Ev.bind (c08_ev l) ?_
  by_cases c : profC l = 0
  · simp only [if_pos c]
    have h0 := prof_len l c
    have hL := last_bd l c
    have e1 : wrap64 ((l.length : Int) - 1) = (l.length : Int) - 1 := by unfold wrap64; omega
    have p1 : 0 ≤ (l.length : Int) - 1 := by omega
    have p2 : (l.length : Int) - 1 < (l.length : Int) := by omega
    have ht : Ev (fun k => spileref12_Levels.j0 k l dip n true) (([] : List Int), (2 : Int)) := Ev.succ (Ev.const _) (fun k => by rw [spileref12_Levels.j0, if_pos rfl])
    simp only [e1, if_pos p1, if_pos p2]
    simp only [show (rd_T33 l ((l.length : Int) - 1)).f0 = lastX l from rfl]
    by_cases c1 : dip < 0
    · simp only [if_pos c1, if_pos (show dip < 0 ∨ dip > lastX l ∨ n < 1 ∨ n > 64 from .inl c1)]
      exact ht
    by_cases c2 : dip > lastX l
    · simp only [if_neg c1, if_pos c2, if_pos (show dip < 0 ∨ dip > lastX l ∨ n < 1 ∨ n > 64 from .inr (.inl c2))]
      exact ht
    by_cases c3 : n < 1
    · simp only [if_neg c1, if_neg c2, if_pos c3, if_pos (show dip < 0 ∨ dip > lastX l ∨ n < 1 ∨ n > 64 from .inr (.inr (.inl c3)))]
      exact ht
    by_cases c4 : n > 64
    · simp only [if_neg c1, if_neg c2, if_neg c3, if_pos (show dip < 0 ∨ dip > lastX l ∨ n < 1 ∨ n > 64 from .inr (.inr (.inr c4))), decide_eq_true c4]
      exact ht
    · simp only [if_neg c1, if_neg c2, if_neg c3, if_neg (show ¬ (dip < 0 ∨ dip > lastX l ∨ n < 1 ∨ n > 64) by omega), decide_eq_false c4]
      obtain ⟨f1, f2, f3⟩ := lev_facts l dip n c ⟨by omega, by omega⟩ ⟨by omega, by omega⟩
      have hasc := set_asc (gridL dip n ++ ptsL l dip)
      obtain ⟨M, hM⟩ : ∃ M, levL l dip n = M := ⟨_, rfl⟩
      have hlen : M.length ≤ 100000 := by
        have : M.length ≤ (gridL dip n ++ ptsL l dip).length := by
          rw [← hM]
          exact Nat.le_trans (compact_le _) (by rw [show (srt (gridL dip n ++ ptsL l dip)).length = _ from List.length_mergeSort _]; exact Nat.le_refl _)
        have h3 : (ptsL l dip).length ≤ l.length := by rw [ptsL, List.length_map]; exact List.length_filter_le _ _
        have h4 : (gridL dip n).length = n.toNat + 1 := by simp [gridL]
        rw [List.length_append] at this
        omega
      have hz : M.take 1 = [0] := by
        rw [hM] at f1 f2
        have hasc' : M.Pairwise (· < ·) := hM ▸ hasc
        cases M with
        | nil => simp at f2
        | cons x r =>
          rcases List.mem_cons.1 f2 with e | m
          · rw [← e]; rfl
          · have h5 := (List.pairwise_cons.1 hasc').1 0 m
            have := (f1 x (by simp)).1
            omega
      have := mg_l0 l (by omega) dip n c ⟨by omega, by omega⟩ ⟨by omega, by omega⟩ M hM hlen (M.length - 1) 0 (by rw [hM] at f2; cases M with | nil => simp at f2 | cons x r => simp)
      rw [Nat.zero_add, hz] at this
      rw [hM]
      refine Ev.succ (Ev.bind (h := fun _ t => some (t, (0 : Int))) this (Ev.const (M, (0 : Int)))) (fun k => ?_)
      rw [spileref12_Levels.j0, if_neg (by simp)]
      rfl
  · simp only [if_neg c]
    exact Ev.const _
end Go.Proofs.Ytmcmbjkjilcmeaa.K
/- By hand: copies; the guard of the laws of package 12; the example comes out true. -/
namespace Go.Proofs.Ytmcmbjkjilcmeaa.K
open Go.RowKit Go.Proofs.YtmcmbjkjilcmeaaW.PrintWords
set_option linter.unusedVariables false
set_option linter.unusedSimpArgs false
theorem cloneP_ev (l : List S33) (h : l.length ≤ 1000000) : clone13.f l = some l := by unfold clone13.f; rw [if_pos (by omega)]
theorem cloneI_ev (l : List Int) (h : l.length ≤ 1000000) : clone18.f l = some l := by unfold clone18.f; rw [if_pos (by omega)]
theorem rd24_0 (x : S24) : rd_T24 [x] 0 = x := rfl
theorem own_ev (a : ByteArray) (p : Int) (l : List S33) (d : Int) (hl : l.length ≤ 1000000) : Ev (fun k => spilelaw12_own.f k a p l d) (a, p, l, d) := by
  have h : Ev (fun k => spileref09_Copy.f k [(⟨a, p, l, d⟩ : S24)]) [(⟨a, p, l, d⟩ : S24)] := by
    unfold spileref09_Copy.f
    refine Ev.succ (g' := fun k => spileref09_Copy.l0 k [(⟨a, p, l, d⟩ : S24)] [(⟨a, p, l, d⟩ : S24)] 1) (Ev.succ (Ev.const _) (fun k => ?_)) (fun k => ?_)
    · rw [spileref09_Copy.l0, if_neg (by simp)]
    · rw [spileref09_Copy.l0, if_pos (by simp), if_pos (by decide)]
      simp only [Option.bind_some, rd24_0, List.nil_append, List.length_nil, Nat.zero_add]
      rw [if_pos (by omega), if_pos (by omega), show wrap64 (0 + 1) = 1 by unfold wrap64; omega]
  unfold spilelaw12_own.f
  refine Ev.bind h ?_
  exact (Ev.const (a, p, l, d)).congr (fun k => by rw [if_pos (by simp)]; rfl)
/-- The guard of the laws. -/
def fewP (a : ByteArray) (l : List S33) (lv : List Int) : Bool := decide (l.length ≤ 33) && decide (a.size ≤ 70) && decide (lv.length ≤ 129)
theorem few_ev (a : ByteArray) (p : Int) (l : List S33) (d : Int) (lv : List Int) : Ev (fun k => spilelaw12_few.f k a p l d lv) (fewP a l lv) := by
  have h : Ev (fun k => spileref09_Few.f k [(⟨a, p, l, d⟩ : S24)]) (decide (l.length ≤ 33) && decide (a.size ≤ 70)) := by
    unfold spileref09_Few.f
    have e0 : ∀ k, spileref09_Few.l0 (k + 1) [(⟨a, p, l, d⟩ : S24)] 0 = if decide (l.length ≤ 33) = true then (if ((a.size : Int) > 70) then some false else spileref09_Few.l0 k [(⟨a, p, l, d⟩ : S24)] 1) else some false := fun k => by
      rw [spileref09_Few.l0, if_pos (by simp), if_pos (by decide), rd24_0]
      simp only [spileref08_Few.f, Option.bind_some]
      rw [show decide ((l.length : Int) ≤ 33) = decide (l.length ≤ 33) from decide_eq_decide.2 (by omega), show wrap64 (0 + 1) = 1 by unfold wrap64; omega]
    refine Ev.succ ?_ e0
    by_cases c1 : l.length ≤ 33
    · simp only [decide_eq_true c1, Bool.true_and, if_true]
      by_cases c2 : a.size ≤ 70
      · simp only [decide_eq_true c2, if_neg (show ¬ (a.size : Int) > 70 by omega)]
        exact Ev.succ (Ev.const _) (fun k => by rw [spileref09_Few.l0, if_neg (by simp)]; rfl)
      · simp only [decide_eq_false c2, if_pos (show (a.size : Int) > 70 by omega)]
        exact Ev.const _
    · simp only [decide_eq_false c1, Bool.false_and, Bool.false_eq_true, if_false]
      exact Ev.const _
  unfold spilelaw12_few.f fewP
  refine Ev.bind h ?_
  cases c : decide (l.length ≤ 33) && decide (a.size ≤ 70) with
  | true => exact (Ev.const _).congr (fun k => by rw [if_pos rfl, show decide ((lv.length : Int) ≤ 129) = decide (lv.length ≤ 129) from decide_eq_decide.2 (by omega)]; rfl)
  | false => exact (Ev.const _).congr (fun k => by rw [if_neg (by simp)]; rfl)
theorem few_spec {a : ByteArray} {l : List S33} {lv : List Int} (h : fewP a l lv = true) : l.length ≤ 33 ∧ a.size ≤ 70 ∧ lv.length ≤ 129 := by
  simp only [fewP, Bool.and_eq_true, decide_eq_true_eq] at h
  exact ⟨h.1.1, h.1.2, h.2⟩
end Go.Proofs.Ytmcmbjkjilcmeaa.K
/- By hand: the bounds of the radius, the sums between levels and the spaces, by both implementations. -/
namespace Go.Proofs.Ytmcmbjkjilcmeaa.K
open Go.RowKit Go.Proofs.YtmcmbjkjilcmeaaW.PrintWords
set_option linter.unusedVariables false
set_option linter.unusedSimpArgs false
theorem at_ev (l : List S33) (x : Int) (hp : profC l = 0) (h0 : 0 ≤ x) (h1 : x ≤ lastX l) : profile_At.f l x = some ((atP x (pairs l)).1, (atP x (pairs l)).2, 0) := by
  have hb := last_bd l hp
  have hl := prof_len l hp
  unfold profile_At.f check54.f at76.f
  simp only [Option.bind_some, if_pos hp, if_neg (show ¬ x < 0 by omega), len_ev l (by omega) (by omega), if_neg (show ¬ x > lastX l by omega), if_pos (show profC l = 0 ∧ 0 ≤ x ∧ x ≤ 100000 from ⟨hp, h0, by omega⟩)]
/-- The levels of a right check lie in the cask. -/
theorem chk_in {a : ByteArray} {p : Int} {l : List S33} {d : Int} {lv : List Int} (h : chkC a p l d lv = 0) : stdC a p l d = 0 ∧ 2 ≤ lv.length ∧ lv.length ≤ 128 ∧ chkL lv l = 0 ∧ (∀ x ∈ lv, 0 ≤ x ∧ x ≤ lastX l) := by
  unfold chkC at h
  by_cases c : stdC a p l d = 0
  · rw [if_pos c] at h
    by_cases c1 : lv.length < 2
    · rw [if_pos c1] at h; exact absurd h (by decide)
    · rw [if_neg c1] at h
      by_cases c2 : lv.length > 128
      · rw [if_pos c2] at h; exact absurd h (by decide)
      · rw [if_neg c2] at h
        refine ⟨c, by omega, by omega, h, fun x hx => ?_⟩
        unfold chkL at h
        by_cases c3 : outL lv (lastX l) = true
        · rw [if_pos c3] at h; exact absurd h (by decide)
        · have h4 : ¬ ∃ y ∈ lv, (decide (y < 0) || decide (y > lastX l)) = true := fun hh => c3 (List.any_eq_true.2 hh)
          have : ¬ (decide (x < 0) || decide (x > lastX l)) = true := fun hh => h4 ⟨x, hx, hh⟩
          simp at this
          omega
  · rw [if_neg c] at h
    exact absurd h c
def sumsE (a : ByteArray) (p : Int) (l : List S33) (d : Int) (lv : List Int) : List S40 × Int := if chkC a p l d lv = 0 then (outS l lv (lv.length - 1), 0) else ([], chkC a p l d lv)
theorem s42_ev (a : ByteArray) (p : Int) (l : List S33) (d : Int) (lv : List Int) (c : chkC a p l d lv = 0) : sums42.f a p l d lv = some (outS l lv (lv.length - 1)) := by
  obtain ⟨h1, h2, h3, h4, h5⟩ := chk_in c
  unfold sums42.f
  rw [if_pos ⟨by omega, fun x hx => by rw [at_ev l x (std_prof h1) (h5 x hx).1 (h5 x hx).2]; rfl⟩]
theorem ssums_ev (a : ByteArray) (p : Int) (l : List S33) (d : Int) (lv : List Int) : Ev (fun k => standing_Sums.f k a p l d lv) (sumsE a p l d lv) := by
  unfold standing_Sums.f sumsE
  refine Ev.bind (schk_ev a p l d lv) ?_
  by_cases c : chkC a p l d lv = 0
  · simp only [if_pos c, s42_ev a p l d lv c, Option.bind_some]
    exact Ev.const _
  · simp only [if_neg c]
    exact Ev.const _
/-- The bounds of the space of a sum. -/
def spE (s : S40) : Int × Int := (wrap64 (Int.tdiv (wrap64 (s.f0 * 333)) 318), wrap64 (Int.tdiv (wrap64 ((wrap64 (s.f1 * 355)) + 338)) 339))
def betE (a : ByteArray) (p : Int) (l : List S33) (d : Int) (lv : List Int) : Int × Int × Int := if chkC a p l d lv = 0 then ((spE (sB l lv (lv.length - 1))).1, (spE (sB l lv (lv.length - 1))).2, 0) else (0, 0, chkC a p l d lv)
theorem out_last (l : List S33) (lv : List Int) (m : Nat) : rd_T40 (outS l lv (m + 1)) (m : Int) = sB l lv (m + 1) := by
  unfold rd_T40
  rw [List.getD_eq_getElem?_getD, Int.toNat_natCast, outS, List.getElem?_map, List.getElem?_range (by omega)]
  rfl
theorem last_of (l : List S33) (lv : List Int) (h : 2 ≤ lv.length) (h2 : lv.length ≤ 1000) : (0 ≤ wrap64 (((outS l lv (lv.length - 1)).length : Int) - 1)) ∧ wrap64 (((outS l lv (lv.length - 1)).length : Int) - 1) < ((outS l lv (lv.length - 1)).length : Int) ∧
    rd_T40 (outS l lv (lv.length - 1)) (wrap64 (((outS l lv (lv.length - 1)).length : Int) - 1)) = sB l lv (lv.length - 1) := by
  obtain ⟨m, hm⟩ : ∃ m, lv.length - 1 = m + 1 := ⟨lv.length - 2, by omega⟩
  rw [hm, outS_len]
  have e : wrap64 (((m + 1 : Nat) : Int) - 1) = (m : Int) := by rw [wrap_dn (by omega) (by omega)]; simp
  rw [e]
  exact ⟨by omega, by omega, out_last l lv m⟩
theorem sbet_ev (a : ByteArray) (p : Int) (l : List S33) (d : Int) (lv : List Int) : Ev (fun k => standing_Between.f k a p l d lv) (betE a p l d lv) := by
  unfold standing_Between.f betE
  refine Ev.bind (schk_ev a p l d lv) ?_
  by_cases c : chkC a p l d lv = 0
  · obtain ⟨h1, h2, h3, h4, h5⟩ := chk_in c
    obtain ⟨e1, e2, e3⟩ := last_of l lv h2 (by omega)
    simp only [if_pos c, s42_ev a p l d lv c, Option.bind_some, if_pos e1, if_pos e2, e3, standing_space.f]
    exact Ev.const _
  · simp only [if_neg c]
    exact Ev.const _
def wetE (a : ByteArray) (p : Int) (l : List S33) (d : Int) (dip n : Int) : Int × Int × Int :=
  if stdC a p l d = 0 then (if (levE l dip n).2 = 0 then (if dip = 0 then (0, 0, 0) else betE a p l d (levE l dip n).1) else (0, 0, (levE l dip n).2)) else (0, 0, stdC a p l d)
theorem swet_ev (a : ByteArray) (p : Int) (l : List S33) (d : Int) (dip n : Int) : Ev (fun k => standing_Wet.f k a p l d dip n) (wetE a p l d dip n) := by
  unfold standing_Wet.f wetE
  refine Ev.bind (stands_ev a p l d) ?_
  by_cases c : stdC a p l d = 0
  · simp only [if_pos c]
    refine Ev.bind (slev_ev l dip n) ?_
    by_cases c1 : (levE l dip n).2 = 0
    · simp only [if_pos c1]
      by_cases c2 : dip = 0
      · simp only [if_pos c2, c1]
        exact Ev.const _
      · simp only [if_neg c2]
        exact Ev.bind (sbet_ev a p l d _) (Ev.const _)
    · simp only [if_neg c1]
      exact Ev.const _
  · simp only [if_neg c]
    exact Ev.const _
theorem eqB_l0 (a b : List S40) (hl : a.length ≤ 100000) (he : a = b) : ∀ (m i : Nat), i + m = a.length → Ev (fun k => api_Bounds.l0 k a b (a.length : Int) (i : Int)) true := by
  subst he
  intro m
  induction m with
  | zero =>
    intro i hi
    exact Ev.succ (Ev.const _) (fun k => by rw [api_Bounds.l0, if_neg (by omega)])
  | succ m ih =>
    intro i hi
    exact Ev.succ (ih (i + 1) (by omega)) (fun k => by rw [api_Bounds.l0, if_pos (by omega), if_pos (by omega), if_pos (by omega), if_pos (by omega), if_neg (by simp), wrap_up (by omega)])
theorem eqB_ev (a : List S40) (hl : a.length ≤ 100000) : Ev (fun k => api_Bounds.f k a a) true := by
  unfold api_Bounds.f
  exact (eqB_l0 a a hl rfl a.length 0 (by omega)).congr (fun k => by rw [if_pos rfl]; rfl)
end Go.Proofs.Ytmcmbjkjilcmeaa.K
/- By hand: the example of package standing's laws comes out true. -/
namespace Go.Proofs.Ytmcmbjkjilcmeaa.K
open Go.RowKit Go.Proofs.YtmcmbjkjilcmeaaW.PrintWords
set_option linter.unusedVariables false
set_option linter.unusedSimpArgs false
def pail : List S33 := [⟨0, 2⟩, ⟨4, 4⟩]
def drum : List S33 := [⟨0, 3⟩, ⟨10, 3⟩]
theorem lev_pail : levE pail 4 3 = ([0, 1, 2, 4], 0) := by
  have h1 : profC pail = 0 := by kernel_rfl
  have h2 : lastX pail = 4 := by kernel_rfl
  have h3 : gridL 4 3 ++ ptsL pail 4 = [0, 1, 2, 4, 0] := by kernel_rfl
  unfold levE levL
  rw [if_pos h1, h2, if_neg (by decide), h3, set_eq (ys := [0, 1, 2, 4]) (by decide) (fun x => by simp; omega)]
theorem lev_drum : levE drum 10 3 = ([0, 3, 6, 10], 0) := by
  have h1 : profC drum = 0 := by kernel_rfl
  have h2 : lastX drum = 10 := by kernel_rfl
  have h3 : gridL 10 3 ++ ptsL drum 10 = [0, 3, 6, 10, 0] := by kernel_rfl
  unfold levE levL
  rw [if_pos h1, h2, if_neg (by decide), h3, set_eq (ys := [0, 3, 6, 10]) (by decide) (fun x => by simp; omega)]
theorem ex1 : sumsE ⟨#[112]⟩ 2 pail 0 [0, 2, 4] = ([⟨24, 54⟩, ⟨78, 150⟩], 0) := by kernel_rfl
theorem ex2 : wetE ⟨#[100]⟩ 2 drum 0 10 3 = (282, 283, 0) := by
  have h1 : stdC ⟨#[100]⟩ 2 drum 0 = 0 := by kernel_rfl
  unfold wetE
  rw [if_pos h1, lev_drum, if_pos rfl, if_neg (by decide)]
  have h2 : betE ⟨#[100]⟩ 2 drum 0 [0, 3, 6, 10] = (282, 283, 0) := by kernel_rfl
  exact h2
theorem ex3 : betE ⟨#[100]⟩ 2 drum 0 [0, 10] = (282, 283, 0) := by kernel_rfl
theorem ex4 : chkC ⟨#[112]⟩ 2 pail 0 [0, 1, 2, 4] = 0 := by kernel_rfl
theorem awake_ev : Ev (fun k => spilelaw12_awake.f k) true := by
  unfold spilelaw12_awake.f spilelaw12_Pail.f
  simp only [Option.bind_some]
  refine Ev.bind (by have := ssums_ev ⟨#[112]⟩ 2 pail 0 [0, 2, 4]; rw [ex1] at this; exact this) ?_
  refine Ev.bind (by have := swet_ev ⟨#[100]⟩ 2 drum 0 10 3; rw [ex2] at this; exact this) ?_
  refine Ev.bind (by have := slev_ev pail 4 3; rw [lev_pail] at this; exact this) ?_
  refine Ev.bind (by have := sbet_ev ⟨#[100]⟩ 2 drum 0 [0, 10]; rw [ex3] at this; exact this) ?_
  simp only [if_true]
  refine Ev.bind (eqB_ev _ (by decide)) ?_
  simp only [if_true, beq_self_eq_true, Bool.and_self]
  refine Ev.bind (by have := eqI_ev [0, 1, 2, 4] [0, 1, 2, 4] (by decide); rw [decide_eq_true rfl] at this; exact this) ?_
  simp only [if_true]
  refine Ev.bind (by have := schk_ev ⟨#[112]⟩ 2 pail 0 [0, 1, 2, 4]; rw [ex4] at this; exact this) ?_
  exact Ev.const _
end Go.Proofs.Ytmcmbjkjilcmeaa.K
