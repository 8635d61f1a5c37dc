/- By hand: the radius in a stave and the sums, without overflow. -/
import Derived.Test.YtmcmbjkjilcmeaaPStd
namespace Go.Proofs.Ytmcmbjkjilcmeaa.K
open Go.RowKit Go.Proofs.YtmcmbjkjilcmeaaW.PrintWords
set_option linter.unusedVariables false
set_option linter.unusedSimpArgs false
/-- The radius at x, times the length of the stave. -/
def nmS (s : S33 × S33) (x : Int) : Int := s.1.f1 * (s.2.f0 - x) + s.2.f1 * (x - s.1.f0)
def htS (s : S33 × S33) : Int := s.2.f0 - s.1.f0
theorem nm_bd (s : S33 × S33) (h : len1 s) (x : Int) (h1 : s.1.f0 ≤ x) (h2 : x ≤ s.2.f0) : 1 ≤ htS s ∧ htS s ≤ 100000 ∧ 0 ≤ nmS s x ∧ nmS s x ≤ 100000 * htS s := by
  obtain ⟨⟨m1, m2, m3⟩, m4, m5⟩ := h
  have a1 := mul_nn s.1.f1 (s.2.f0 - x) 100000 (s.2.f0 - x) m4 ⟨by omega, by omega⟩
  have a2 := mul_nn s.2.f1 (x - s.1.f0) 100000 (x - s.1.f0) m5 ⟨by omega, by omega⟩
  unfold nmS htS
  omega
/-- Floor and ceiling. -/
theorem flo_ce (n h : Int) (h1 : 1 ≤ h) (h0 : 0 ≤ n) (h2 : n ≤ 100000 * h) : 0 ≤ Int.tdiv n h ∧ Int.tdiv n h ≤ Int.tdiv (n + h - 1) h ∧ Int.tdiv (n + h - 1) h ≤ 100000 ∧ Int.tdiv n h * h ≤ n ∧ n ≤ Int.tdiv (n + h - 1) h * h ∧ n < (Int.tdiv n h + 1) * h ∧ (Int.tdiv (n + h - 1) h - 1) * h < n := by
  rw [Int.tdiv_eq_ediv_of_nonneg h0, Int.tdiv_eq_ediv_of_nonneg (show 0 ≤ n + h - 1 by omega)]
  have a1 := Int.mul_ediv_add_emod n h
  have a2 := Int.emod_nonneg n (show h ≠ 0 by omega)
  have a3 := Int.emod_lt_of_pos n (show 0 < h by omega)
  have b1 := Int.mul_ediv_add_emod (n + h - 1) h
  have b2 := Int.emod_nonneg (n + h - 1) (show h ≠ 0 by omega)
  have b3 := Int.emod_lt_of_pos (n + h - 1) (show 0 < h by omega)
  have c1 : 0 ≤ n / h := Int.ediv_nonneg h0 (by omega)
  have c2 : n / h ≤ (n + h - 1) / h := Int.ediv_le_ediv (by omega) (by omega)
  have c3 : (n + h - 1) / h ≤ 100000 := by
    have : (n + h - 1) / h < 100001 := Int.ediv_lt_of_lt_mul (by omega) (by omega)
    omega
  rw [Int.mul_comm] at a1 b1
  refine ⟨c1, c2, c3, by omega, by omega, ?_, ?_⟩
  · rw [Int.add_mul]; omega
  · rw [Int.sub_mul]; omega
theorem stv_eq (s : S33 × S33) (x : Int) : stv s x = (Int.tdiv (nmS s x) (htS s), Int.tdiv (nmS s x + htS s - 1) (htS s)) := rfl
theorem pairs_last : ∀ (l : List S33) (p q : S33), lastX (p :: q :: l) = lastX (q :: l) := by
  intro l p q
  unfold lastX
  rw [show (((p :: q :: l).length : Int) - 1) = (((q :: l).length : Nat) : Int) by simp, show (((q :: l).length : Int) - 1) = (((q :: l).length - 1 : Nat) : Int) by simp,
    rdP_get _ _ (by simp), rdP_get _ _ (by simp)]
  simp
/-- Wherever x lies in a stave, it is this stave's radius. -/
theorem atP_find : ∀ (l : List S33) (p : S33) (x : Int), (∀ s ∈ pairs (p :: l), len1 s) → 1 ≤ l.length → p.f0 ≤ x → x ≤ lastX (p :: l) → ∃ s ∈ pairs (p :: l), s.1.f0 ≤ x ∧ x ≤ s.2.f0 ∧ atP x (pairs (p :: l)) = stv s x
  | [], p, x, _, h, _, _ => by simp at h
  | q :: r, p, x, hs, _, h1, h2 => by
    rw [pairs] at hs ⊢
    by_cases c : q.f0 < x
    · rw [atP, if_pos c]
      rw [pairs_last] at h2
      cases r with
      | nil =>
        have : lastX [q] = q.f0 := rfl
        omega
      | cons q2 r =>
        obtain ⟨s, m, e1, e2, e3⟩ := atP_find (q2 :: r) q x (fun s hm => hs s (List.mem_cons_of_mem _ hm)) (by simp) (by omega) h2
        exact ⟨s, List.mem_cons_of_mem _ m, e1, e2, e3⟩
    · rw [atP, if_neg c]
      exact ⟨(p, q), by simp, h1, by dsimp only; omega, rfl⟩
theorem prof_zero (l : List S33) (h : profC l = 0) : (rd_T33 l 0).f0 = 0 := by
  unfold profC at h
  split at h
  · exact absurd h (by decide)
  split at h
  · exact absurd h (by decide)
  split at h
  · exact absurd h (by decide)
  split at h
  · exact absurd h (by decide)
  rename_i h5
  exact Classical.not_not.1 h5
theorem at_find (l : List S33) (hp : profC l = 0) (x : Int) (h0 : 0 ≤ x) (h1 : x ≤ lastX l) : ∃ s ∈ pairs l, len1 s ∧ s.1.f0 ≤ x ∧ x ≤ s.2.f0 ∧ atP x (pairs l) = stv s x := by
  have hz := prof_zero l hp
  have hs := prof_len1 l hp
  have hl := prof_len l hp
  cases l with
  | nil => simp at hl
  | cons p r =>
    have e : (rd_T33 (p :: r) 0).f0 = p.f0 := rfl
    obtain ⟨s, m, e1, e2, e3⟩ := atP_find r p x hs (by simp at hl; omega) (by omega) h1
    exact ⟨s, m, hs s m, e1, e2, e3⟩
theorem at_bd (l : List S33) (hp : profC l = 0) (x : Int) (h0 : 0 ≤ x) (h1 : x ≤ lastX l) : 0 ≤ (atP x (pairs l)).1 ∧ (atP x (pairs l)).1 ≤ (atP x (pairs l)).2 ∧ (atP x (pairs l)).2 ≤ 100000 := by
  obtain ⟨s, m, hs, e1, e2, e3⟩ := at_find l hp x h0 h1
  obtain ⟨a1, a2, a3, a4⟩ := nm_bd s hs x e1 e2
  obtain ⟨b1, b2, b3, _⟩ := flo_ce (nmS s x) (htS s) a1 a3 a4
  rw [e3, stv_eq]
  exact ⟨b1, b2, b3⟩
theorem asc_lt : ∀ (lv : List Int), ascI lv = true → ∀ (i : Nat), i + 1 < lv.length → rd lv (i : Int) < rd lv ((i : Int) + 1)
  | [], _, i, h => by simp at h
  | [a], _, i, h => by simp at h
  | a :: b :: r, h, i, hi => by
    rw [ascI, Bool.and_eq_true, decide_eq_true_eq] at h
    cases i with
    | zero => exact h.1
    | succ i =>
      have := asc_lt (b :: r) h.2 i (by simpa using hi)
      rw [show ((i + 1 : Nat) : Int) + 1 = ((i + 2 : Nat) : Int) by omega, rdI_get _ (i + 1) (by omega), rdI_get _ (i + 2) (by simpa using hi)]
      rw [show ((i : Nat) : Int) + 1 = ((i + 1 : Nat) : Int) by omega, rdI_get _ i (by simp at hi ⊢; omega), rdI_get _ (i + 1) (by simpa using hi)] at this
      simpa using this
theorem chkL_asc {lv : List Int} {l : List S33} (h : chkL lv l = 0) : ascI lv = true ∧ misP lv l = false := by
  unfold chkL at h
  split at h
  · exact absurd h (by decide)
  split at h
  · exact absurd h (by decide)
  rename_i h2
  split at h
  · exact absurd h (by decide)
  rename_i h3
  exact ⟨by simpa using h2, by simpa using h3⟩
/-- The lesser and the greater bound of the radius between two levels. -/
def loR (l : List S33) (x y : Int) : Int := min (atP x (pairs l)).1 (atP y (pairs l)).1
def hiR (l : List S33) (x y : Int) : Int := max (atP x (pairs l)).2 (atP y (pairs l)).2
theorem step_bd (l : List S33) (hp : profC l = 0) (x y : Int) (h0 : 0 ≤ x) (h1 : x < y) (h2 : y ≤ lastX l) :
    (0 ≤ loR l x y ∧ loR l x y ≤ hiR l x y ∧ hiR l x y ≤ 100000) ∧ 0 ≤ 3 * (y - x) * (loR l x y * loR l x y) ∧ 3 * (y - x) * (loR l x y * loR l x y) ≤ 3 * (y - x) * (hiR l x y * hiR l x y) ∧ 3 * (y - x) * (hiR l x y * hiR l x y) ≤ 30000000000 * (y - x) := by
  have a := at_bd l hp x h0 (by omega)
  have b := at_bd l hp y (by omega) h2
  have c : 0 ≤ loR l x y ∧ loR l x y ≤ hiR l x y ∧ hiR l x y ≤ 100000 := by unfold loR hiR; omega
  refine ⟨c, ?_, ?_, ?_⟩
  · exact Int.mul_nonneg (by omega) (Int.mul_nonneg c.1 c.1)
  · exact Int.mul_le_mul_of_nonneg_left (mul_nn _ _ _ _ ⟨c.1, c.2.1⟩ ⟨c.1, c.2.1⟩).2 (by omega)
  · have := (mul_nn (hiR l x y) (hiR l x y) 100000 100000 ⟨by omega, c.2.2⟩ ⟨by omega, c.2.2⟩).2
    have := Int.mul_le_mul_of_nonneg_left this (show 0 ≤ 3 * (y - x) by omega)
    omega
theorem wrap_sq (h r : Int) (h0 : 0 ≤ h ∧ h ≤ 100000) (hr : 0 ≤ r ∧ r ≤ 100000) : wrap64 (wrap64 (wrap64 (3 * h) * r) * r) = 3 * h * (r * r) := by
  have a1 := mul_nn (3 * h) r 300000 100000 ⟨by omega, by omega⟩ hr
  have a2 := mul_nn (3 * h * r) r 30000000000 100000 ⟨a1.1, by omega⟩ hr
  rw [wrap_id2 (3 * h) (by omega), wrap_id2 (3 * h * r) (by omega), wrap_id2 (3 * h * r * r) (by omega), Int.mul_assoc]
/-- The sums, step by step. -/
theorem sB_step (l : List S33) (hp : profC l = 0) (lv : List Int) (hin : ∀ x ∈ lv, 0 ≤ x ∧ x ≤ lastX l) (hasc : ascI lv = true) : ∀ (j : Nat), j + 1 < lv.length →
    sB l lv (j + 1) = ⟨(sB l lv j).f0 + 3 * (rd lv ((j : Int) + 1) - rd lv (j : Int)) * (loR l (rd lv (j : Int)) (rd lv ((j : Int) + 1)) * loR l (rd lv (j : Int)) (rd lv ((j : Int) + 1))),
      (sB l lv j).f1 + 3 * (rd lv ((j : Int) + 1) - rd lv (j : Int)) * (hiR l (rd lv (j : Int)) (rd lv ((j : Int) + 1)) * hiR l (rd lv (j : Int)) (rd lv ((j : Int) + 1)))⟩ ∧
    (0 ≤ (sB l lv (j + 1)).f0 ∧ (sB l lv (j + 1)).f0 ≤ (sB l lv (j + 1)).f1 ∧ (sB l lv (j + 1)).f1 ≤ 30000000000 * (rd lv ((j : Int) + 1) - rd lv 0)) := by
  have hb := last_bd l hp
  intro j
  induction j with
  | zero =>
    intro hj
    have hx := hin _ (rd_mem lv 0 (by omega) (by omega))
    have hy := hin _ (rd_mem lv 1 (by omega) (by omega))
    have hlt := asc_lt lv hasc 0 hj
    simp only [Int.natCast_zero, Int.zero_add] at hlt ⊢
    obtain ⟨c, d1, d2, d3⟩ := step_bd l hp _ _ hx.1 hlt hy.2
    have e : sB l lv 1 = ⟨0 + 3 * (rd lv 1 - rd lv 0) * (loR l (rd lv 0) (rd lv 1) * loR l (rd lv 0) (rd lv 1)), 0 + 3 * (rd lv 1 - rd lv 0) * (hiR l (rd lv 0) (rd lv 1) * hiR l (rd lv 0) (rd lv 1))⟩ := by
      rw [sB]
      simp only [Int.natCast_zero, Int.zero_add]
      rw [stepS, atV, atV, at_ev l _ hp hx.1 hx.2, at_ev l _ hp hy.1 hy.2]
      dsimp only [Option.getD_some]
      rw [show min (atP (rd lv 0) (pairs l)).1 (atP (rd lv 1) (pairs l)).1 = loR l (rd lv 0) (rd lv 1) from rfl, show max (atP (rd lv 0) (pairs l)).2 (atP (rd lv 1) (pairs l)).2 = hiR l (rd lv 0) (rd lv 1) from rfl]
      rw [wrap_id (rd lv 1 - rd lv 0) (by omega), wrap_sq _ _ ⟨by omega, by omega⟩ ⟨c.1, by omega⟩, wrap_sq _ _ ⟨by omega, by omega⟩ ⟨by omega, c.2.2⟩]
      rw [show (sB l lv 0).f0 = 0 from rfl, show (sB l lv 0).f1 = 0 from rfl, wrap_id2 _ (by omega), wrap_id2 _ (by omega), Int.zero_add, Int.zero_add]
    have e2 : (sB l lv 0) = ⟨0, 0⟩ := rfl
    rw [e2]
    refine ⟨by rw [e], ?_⟩
    rw [e]
    dsimp only
    omega
  | succ j ih =>
    intro hj
    obtain ⟨_, i1, i2, i3⟩ := ih (by omega)
    have hx := hin _ (rd_mem lv ((j + 1 : Nat) : Int) (by omega) (by omega))
    have hy := hin _ (rd_mem lv (((j + 1 : Nat) : Int) + 1) (by omega) (by omega))
    have hz := hin _ (rd_mem lv 0 (by omega) (by omega))
    have hlt := asc_lt lv hasc (j + 1) hj
    rw [show ((j : Int) + 1) = ((j + 1 : Nat) : Int) by omega] at i3
    obtain ⟨c, d1, d2, d3⟩ := step_bd l hp _ _ hx.1 hlt hy.2
    obtain ⟨x, hX⟩ : ∃ x, rd lv ((j + 1 : Nat) : Int) = x := ⟨_, rfl⟩
    obtain ⟨y, hY⟩ : ∃ y, rd lv (((j + 1 : Nat) : Int) + 1) = y := ⟨_, rfl⟩
    rw [hX] at hx hlt i3 c d1 d2 d3
    rw [hY] at hy hlt c d1 d2 d3
    have e : sB l lv (j + 1 + 1) = ⟨(sB l lv (j + 1)).f0 + 3 * (y - x) * (loR l x y * loR l x y), (sB l lv (j + 1)).f1 + 3 * (y - x) * (hiR l x y * hiR l x y)⟩ := by
      rw [sB, hX, hY]
      rw [stepS, atV, atV, at_ev l _ hp hx.1 hx.2, at_ev l _ hp hy.1 hy.2]
      dsimp only [Option.getD_some]
      rw [show min (atP x (pairs l)).1 (atP y (pairs l)).1 = loR l x y from rfl, show max (atP x (pairs l)).2 (atP y (pairs l)).2 = hiR l x y from rfl]
      rw [wrap_id (y - x) (by omega), wrap_sq _ _ ⟨by omega, by omega⟩ ⟨c.1, by omega⟩, wrap_sq _ _ ⟨by omega, by omega⟩ ⟨by omega, c.2.2⟩]
      rw [wrap_id2 _ (by omega), wrap_id2 _ (by omega)]
    rw [hX, hY]
    refine ⟨e, ?_⟩
    rw [e]
    dsimp only
    omega
end Go.Proofs.Ytmcmbjkjilcmeaa.K
