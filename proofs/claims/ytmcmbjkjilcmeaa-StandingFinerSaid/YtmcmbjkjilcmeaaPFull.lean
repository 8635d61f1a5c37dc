/- By hand: the sums between levels enclose the sum of the frustums. -/
import Derived.Test.YtmcmbjkjilcmeaaPGeo
namespace Go.Proofs.Ytmcmbjkjilcmeaa.K
open Go.RowKit Go.Proofs.YtmcmbjkjilcmeaaW.PrintWords
set_option linter.unusedVariables false
set_option linter.unusedSimpArgs false
def FX (s : S33 × S33) (x y : Int) : Int := (y - x) * (nmS s x * nmS s x + nmS s x * nmS s y + nmS s y * nmS s y)
theorem nm_lin (s : S33 × S33) (x y : Int) : nmS s y = nmS s x + (s.2.f1 - s.1.f1) * (y - x) := by unfold nmS; grind
theorem fx_alg (N k u v : Int) : u * (N * N + N * (N + k * u) + (N + k * u) * (N + k * u)) + v * ((N + k * u) * (N + k * u) + (N + k * u) * (N + k * (u + v)) + (N + k * (u + v)) * (N + k * (u + v))) = (u + v) * (N * N + N * (N + k * (u + v)) + (N + k * (u + v)) * (N + k * (u + v))) := by grind
theorem FX_add (s : S33 × S33) (p x y : Int) : FX s p x + FX s x y = FX s p y := by
  have h := fx_alg (nmS s p) (s.2.f1 - s.1.f1) (x - p) (y - x)
  unfold FX
  rw [nm_lin s p x, nm_lin s p y, show y - p = (x - p) + (y - x) by omega]
  exact h
theorem FX_self (s : S33 × S33) (x : Int) : FX s x x = 0 := by simp [FX]
theorem FX_full (s : S33 × S33) : FX s s.1.f0 s.2.f0 = htS s * htS s * fruT s := by
  unfold FX nmS htS fruT; grind
theorem fx_lo (h d lo a b : Int) (hd : 0 ≤ d) (h0 : 0 ≤ lo) (hh : 0 ≤ h) (ha : lo * h ≤ a) (hb : lo * h ≤ b) : h * h * (3 * d * (lo * lo)) ≤ d * (a * a + a * b + b * b) := by
  have hn : 0 ≤ lo * h := Int.mul_nonneg h0 hh
  have e1 : (lo * h) * (lo * h) ≤ a * a := Int.mul_le_mul ha ha hn (by omega)
  have e2 : (lo * h) * (lo * h) ≤ a * b := Int.mul_le_mul ha hb hn (by omega)
  have e3 : (lo * h) * (lo * h) ≤ b * b := Int.mul_le_mul hb hb hn (by omega)
  have e4 : d * (3 * ((lo * h) * (lo * h))) ≤ d * (a * a + a * b + b * b) := Int.mul_le_mul_of_nonneg_left (by omega) hd
  have e5 : h * h * (3 * d * (lo * lo)) = d * (3 * ((lo * h) * (lo * h))) := by grind
  omega
theorem fx_hi (h d hi a b : Int) (hd : 0 ≤ d) (ha0 : 0 ≤ a) (hb0 : 0 ≤ b) (ha : a ≤ hi * h) (hb : b ≤ hi * h) : d * (a * a + a * b + b * b) ≤ h * h * (3 * d * (hi * hi)) := by
  have e1 : a * a ≤ (hi * h) * (hi * h) := Int.mul_le_mul ha ha ha0 (by omega)
  have e2 : a * b ≤ (hi * h) * (hi * h) := Int.mul_le_mul ha hb hb0 (by omega)
  have e3 : b * b ≤ (hi * h) * (hi * h) := Int.mul_le_mul hb hb hb0 (by omega)
  have e4 : d * (a * a + a * b + b * b) ≤ d * (3 * ((hi * h) * (hi * h))) := Int.mul_le_mul_of_nonneg_left (by omega) hd
  have e5 : h * h * (3 * d * (hi * hi)) = d * (3 * ((hi * h) * (hi * h))) := by grind
  omega
theorem pairs_ge : ∀ (l : List S33) (p : S33), (∀ s ∈ pairs (p :: l), len1 s) → ∀ s ∈ pairs (p :: l), p.f0 ≤ s.1.f0 ∧ (s.1.f0 = p.f0 → s.1 = p)
  | [], p, _, s, h => by simp [pairs] at h
  | q :: r, p, hs, s, h => by
    rw [pairs] at hs h
    rcases List.mem_cons.1 h with e | m
    · subst e; exact ⟨Int.le_refl _, fun _ => rfl⟩
    · have h1 := pairs_ge r q (fun s hm => hs s (List.mem_cons_of_mem _ hm)) s m
      have h2 := (hs (p, q) (by simp)).1.2.1
      dsimp only at h2
      exact ⟨by omega, fun e => by omega⟩
/-- In whatever stave x lies, the bounds at x enclose its radius. -/
theorem at_any : ∀ (l : List S33) (p : S33) (x : Int), (∀ s ∈ pairs (p :: l), len1 s) → ∀ s ∈ pairs (p :: l), s.1.f0 ≤ x → x ≤ s.2.f0 →
    (atP x (pairs (p :: l))).1 * htS s ≤ nmS s x ∧ nmS s x ≤ (atP x (pairs (p :: l))).2 * htS s
  | [], p, x, _, s, h, _, _ => by simp [pairs] at h
  | q :: r, p, x, hs, s, h, h1, h2 => by
    rw [pairs] at hs h ⊢
    have hpq := hs (p, q) (by simp)
    by_cases c : q.f0 < x
    · rw [atP, if_pos c]
      rcases List.mem_cons.1 h with e | m
      · subst e; dsimp only at h2; omega
      · exact at_any r q x (fun s hm => hs s (List.mem_cons_of_mem _ hm)) s m h1 h2
    · rw [atP, if_neg c, stv_eq]
      rcases List.mem_cons.1 h with e | m
      · subst e
        obtain ⟨a1, a2, a3, a4⟩ := nm_bd _ hpq x h1 h2
        obtain ⟨b1, b2, b3, b4, b5, _⟩ := flo_ce _ _ a1 a3 a4
        exact ⟨b4, b5⟩
      · obtain ⟨g1, g2⟩ := pairs_ge r q (fun s hm => hs s (List.mem_cons_of_mem _ hm)) s m
        have hx : x = q.f0 := by omega
        have hs1 : s.1 = q := g2 (by omega)
        have hps := hpq.1.2.1
        dsimp only at hps
        obtain ⟨a1, a2, a3, a4⟩ := nm_bd (p, q) hpq x (by dsimp only; omega) (by dsimp only; omega)
        obtain ⟨b1, b2, b3, b4, b5, _⟩ := flo_ce _ _ a1 a3 a4
        have hn : nmS (p, q) x = q.f1 * htS (p, q) := by subst hx; unfold nmS htS; dsimp only; grind
        have hn2 : nmS s x = q.f1 * htS s := by subst hx; rw [← hs1]; unfold nmS htS; grind
        have hh := (nm_bd s (hs s (List.mem_cons_of_mem _ m)) x h1 h2).1
        obtain ⟨F, hF⟩ : ∃ F, Int.tdiv (nmS (p, q) x) (htS (p, q)) = F := ⟨_, rfl⟩
        obtain ⟨C, hC⟩ : ∃ C, Int.tdiv (nmS (p, q) x + htS (p, q) - 1) (htS (p, q)) = C := ⟨_, rfl⟩
        rw [hF] at b4 ⊢
        rw [hC] at b5 ⊢
        rw [hn] at b4 b5
        have c1 := Int.le_of_mul_le_mul_right b4 (by omega)
        have c2 := Int.le_of_mul_le_mul_right b5 (by omega)
        rw [hn2]
        exact ⟨Int.mul_le_mul_of_nonneg_right c1 (by omega), Int.mul_le_mul_of_nonneg_right c2 (by omega)⟩
def stN (l : List S33) (i : Nat) : S33 × S33 := (rd_T33 l (i : Int), rd_T33 l ((i : Int) + 1))
theorem stN_mem (l : List S33) (i : Nat) (h : i + 1 < l.length) : stN l i ∈ pairs l := by
  have := pairs_get l i h
  rw [← rdP_get l i (by omega), ← rdP_get l (i + 1) h] at this
  exact List.mem_of_getElem? this
theorem at_encl (l : List S33) (hp : profC l = 0) (s : S33 × S33) (hs : s ∈ pairs l) (x : Int) (h1 : s.1.f0 ≤ x) (h2 : x ≤ s.2.f0) : (atP x (pairs l)).1 * htS s ≤ nmS s x ∧ nmS s x ≤ (atP x (pairs l)).2 * htS s := by
  have hm := prof_len1 l hp
  cases l with
  | nil => simp [pairs] at hs
  | cons p r => exact at_any r p x hm s hs h1 h2
theorem fru_take (l : List S33) (i : Nat) (h : i + 1 < l.length) : fru ((pairs l).take (i + 1)) = fru ((pairs l).take i) + fruT (stN l i) := by
  rw [pairs_rd l i h, fru_snoc]
  rfl
theorem le_of_sq {h a b : Int} (hh : 1 ≤ h) (e : h * h * a ≤ h * h * b) : a ≤ b := Int.le_of_mul_le_mul_left e (Int.mul_pos (by omega) (by omega))
/-- Between the levels up to x: the invariant. -/
def InvF (l : List S33) (x L H : Int) (i : Nat) : Prop := (stN l i).1.f0 ≤ x ∧ x ≤ (stN l i).2.f0 ∧ htS (stN l i) * htS (stN l i) * (L - fru ((pairs l).take i)) ≤ FX (stN l i) (stN l i).1.f0 x ∧ FX (stN l i) (stN l i).1.f0 x ≤ htS (stN l i) * htS (stN l i) * (H - fru ((pairs l).take i))
theorem inv_end (l : List S33) (hp : profC l = 0) (x L H : Int) (i : Nat) (hi : i + 1 < l.length) (h : InvF l x L H i) (hx : x = (stN l i).2.f0) : L ≤ fru ((pairs l).take (i + 1)) ∧ fru ((pairs l).take (i + 1)) ≤ H := by
  obtain ⟨h1, h2, h3, h4⟩ := h
  have hl := prof_len1 l hp _ (stN_mem l i hi)
  have hh : 1 ≤ htS (stN l i) := by have := hl.1.2.1; unfold htS; omega
  rw [hx, FX_full] at h3 h4
  have a1 := le_of_sq hh h3
  have a2 := le_of_sq hh h4
  rw [fru_take l i hi]
  omega
theorem inv_next (l : List S33) (hp : profC l = 0) (x L H : Int) (i : Nat) (hi : i + 2 < l.length) (h : InvF l x L H i) (hx : x = (stN l i).2.f0) : InvF l x L H (i + 1) := by
  obtain ⟨e1, e2⟩ := inv_end l hp x L H i (by omega) h hx
  have hs : (stN l (i + 1)).1 = (stN l i).2 := by unfold stN; dsimp only; rw [show ((i + 1 : Nat) : Int) = (i : Int) + 1 by omega]
  have hl := prof_len1 l hp _ (stN_mem l (i + 1) (by omega))
  have hx2 : (stN l (i + 1)).1.f0 = x := by rw [hs]; exact hx.symm
  have hsq : 0 ≤ htS (stN l (i + 1)) * htS (stN l (i + 1)) := by
    have : 0 ≤ htS (stN l (i + 1)) := by have := hl.1.2.1; unfold htS; omega
    exact Int.mul_nonneg this this
  refine ⟨by omega, ?_, ?_, ?_⟩
  · have := hl.1.2.1; omega
  · rw [hx2, FX_self]
    exact Int.mul_nonpos_of_nonneg_of_nonpos hsq (by omega)
  · rw [hx2, FX_self]
    exact Int.mul_nonneg hsq (by omega)
theorem inv_step (l : List S33) (hp : profC l = 0) (x y L H : Int) (i : Nat) (hi : i + 1 < l.length) (h : InvF l x L H i) (hxy : x < y) (hy : y ≤ (stN l i).2.f0) (hx0 : 0 ≤ x) (hyL : y ≤ lastX l) :
    InvF l y (L + 3 * (y - x) * (loR l x y * loR l x y)) (H + 3 * (y - x) * (hiR l x y * hiR l x y)) i := by
  obtain ⟨h1, h2, h3, h4⟩ := h
  have hm := stN_mem l i hi
  have hl := prof_len1 l hp _ hm
  obtain ⟨s, hs⟩ : ∃ s, stN l i = s := ⟨_, rfl⟩
  unfold InvF
  rw [hs] at h1 h2 h3 h4 hy hm hl ⊢
  obtain ⟨a1, a2⟩ := at_encl l hp s hm x h1 h2
  obtain ⟨b1, b2⟩ := at_encl l hp s hm y (by omega) hy
  obtain ⟨n1, n2, n3, n4⟩ := nm_bd s hl x h1 h2
  obtain ⟨m1, m2, m3, m4⟩ := nm_bd s hl y (by omega) hy
  have c1 := stN_mem l i hi
  have q1 : loR l x y * htS s ≤ nmS s x := Int.le_trans (Int.mul_le_mul_of_nonneg_right (Int.min_le_left _ _) (by omega)) a1
  have q2 : loR l x y * htS s ≤ nmS s y := Int.le_trans (Int.mul_le_mul_of_nonneg_right (Int.min_le_right _ _) (by omega)) b1
  have q3 : nmS s x ≤ hiR l x y * htS s := Int.le_trans a2 (Int.mul_le_mul_of_nonneg_right (Int.le_max_left _ _) (by omega))
  have q4 : nmS s y ≤ hiR l x y * htS s := Int.le_trans b2 (Int.mul_le_mul_of_nonneg_right (Int.le_max_right _ _) (by omega))
  have q5 : 0 ≤ loR l x y := (step_bd l hp x y hx0 hxy hyL).1.1
  have r1 := fx_lo (htS s) (y - x) (loR l x y) (nmS s x) (nmS s y) (by omega) q5 (by omega) q1 q2
  have r2 := fx_hi (htS s) (y - x) (hiR l x y) (nmS s x) (nmS s y) (by omega) n3 m3 q3 q4
  have e := FX_add s s.1.f0 x y
  have e2 : FX s x y = (y - x) * (nmS s x * nmS s x + nmS s x * nmS s y + nmS s y * nmS s y) := rfl
  rw [← e2] at r1 r2
  refine ⟨by omega, hy, ?_, ?_⟩
  · rw [show L + 3 * (y - x) * (loR l x y * loR l x y) - fru ((pairs l).take i) = (L - fru ((pairs l).take i)) + 3 * (y - x) * (loR l x y * loR l x y) by omega, Int.mul_add]
    omega
  · rw [show H + 3 * (y - x) * (hiR l x y * hiR l x y) - fru ((pairs l).take i) = (H - fru ((pairs l).take i)) + 3 * (y - x) * (hiR l x y * hiR l x y) by omega, Int.mul_add]
    omega
/-- Points of the profile ascend. -/
theorem pt_asc (l : List S33) (hp : profC l = 0) (i : Nat) (h : i + 1 < l.length) : (rd_T33 l (i : Int)).f0 < (rd_T33 l ((i : Int) + 1)).f0 := (prof_len1 l hp _ (stN_mem l i h)).1.2.1
theorem pt_le (l : List S33) (hp : profC l = 0) : ∀ (d i : Nat), i + d < l.length → (rd_T33 l (i : Int)).f0 ≤ (rd_T33 l ((i + d : Nat) : Int)).f0
  | 0, i, h => Int.le_refl _
  | d + 1, i, h => by
    have h1 := pt_le l hp d i (by omega)
    have h2 := pt_asc l hp (i + d) (by omega)
    rw [show ((i + d : Nat) : Int) + 1 = ((i + (d + 1) : Nat) : Int) by omega] at h2
    omega
theorem rd33_mem (l : List S33) (i : Nat) (h : i < l.length) : rd_T33 l (i : Int) ∈ l := by rw [rdP_get l i h]; exact List.getElem_mem h
theorem asc_pw' : ∀ (lv : List Int), ascI lv = true → lv.Pairwise (· < ·)
  | [], _ => List.Pairwise.nil
  | [a], _ => by simp
  | a :: b :: r, h => by
    rw [ascI, Bool.and_eq_true, decide_eq_true_eq] at h
    have ih := asc_pw' (b :: r) h.2
    refine List.pairwise_cons.2 ⟨fun x hx => ?_, ih⟩
    rcases List.mem_cons.1 hx with e | m
    · rw [e]; exact h.1
    · have := (List.pairwise_cons.1 ih).1 x m
      omega
theorem no_pt (l : List S33) (lv : List Int) (hasc : ascI lv = true) (hmis : misP lv l = false) (j : Nat) (hj : j + 1 < lv.length) (q : S33) (hq : q ∈ l) (h0 : rd lv 0 ≤ rd lv (j : Int)) (h1 : rd lv (j : Int) < q.f0) : rd lv ((j : Int) + 1) ≤ q.f0 := by
  apply Int.not_lt.1
  intro h2
  have hpw := asc_pw' lv hasc
  have hq2 : ¬ (decide (q.f0 > rd lv 0) && (decide (q.f0 < rd lv ((lv.length : Int) - 1)) && !decide (q.f0 ∈ lv))) = true := by
    rw [misP, List.any_eq_false] at hmis
    exact hmis q hq
  simp only [Bool.and_eq_true, decide_eq_true_eq, Bool.not_eq_true', decide_eq_false_iff_not, not_and, Classical.not_not] at hq2
  have hle : rd lv ((j : Int) + 1) ≤ rd lv ((lv.length : Int) - 1) := by
    rw [show ((lv.length : Int) - 1) = ((lv.length - 1 : Nat) : Int) by omega, show (j : Int) + 1 = ((j + 1 : Nat) : Int) by omega, rdI_get _ (j + 1) hj, rdI_get _ (lv.length - 1) (by omega)]
    by_cases c : j + 1 = lv.length - 1
    · simp [c]
    · exact Int.le_of_lt (List.pairwise_iff_getElem.1 hpw (j + 1) (lv.length - 1) (by omega) (by omega) (by omega))
  have hmem := hq2 (by omega) (by omega)
  obtain ⟨i, hi, he⟩ := List.mem_iff_getElem.1 hmem
  rw [rdI_get _ j (by omega)] at h1
  rw [show (j : Int) + 1 = ((j + 1 : Nat) : Int) by omega, rdI_get _ (j + 1) hj] at h2
  by_cases c : i ≤ j
  · by_cases c2 : i = j
    · subst c2; omega
    · have := List.pairwise_iff_getElem.1 hpw i j hi (by omega) (by omega)
      omega
  · by_cases c2 : i = j + 1
    · subst c2; omega
    · have := List.pairwise_iff_getElem.1 hpw (j + 1) i hj hi (by omega)
      omega
theorem lv_ge (lv : List Int) (hasc : ascI lv = true) (j : Nat) (hj : j < lv.length) : rd lv 0 ≤ rd lv (j : Int) := by
  have hpw := asc_pw' lv hasc
  by_cases c : j = 0
  · subst c; exact Int.le_refl _
  · rw [show (0 : Int) = ((0 : Nat) : Int) from rfl, rdI_get _ 0 (by omega), rdI_get _ j hj]
    exact Int.le_of_lt (List.pairwise_iff_getElem.1 hpw 0 j (by omega) hj (by omega))
theorem inv_all (l : List S33) (hp : profC l = 0) (lv : List Int) (hin : ∀ x ∈ lv, 0 ≤ x ∧ x ≤ lastX l) (hasc : ascI lv = true) (hmis : misP lv l = false) (hz : rd lv 0 = 0) : ∀ j : Nat, j < lv.length → ∃ i, i + 1 < l.length ∧ InvF l (rd lv (j : Int)) (sB l lv j).f0 (sB l lv j).f1 i := by
  have hlen := prof_len l hp
  have hP0 := prof_zero l hp
  intro j
  induction j with
  | zero =>
    intro hj
    have hl := prof_len1 l hp _ (stN_mem l 0 (by omega))
    refine ⟨0, by omega, ?_⟩
    have e : (stN l 0).1.f0 = 0 := hP0
    have e2 : (sB l lv 0).f0 = 0 ∧ (sB l lv 0).f1 = 0 := ⟨rfl, rfl⟩
    unfold InvF
    rw [show ((0 : Nat) : Int) = 0 from rfl, hz, e, FX_self, e2.1, e2.2, List.take_zero, show fru [] = 0 from rfl, Int.sub_self, Int.mul_zero]
    have := hl.1.2.1
    exact ⟨Int.le_refl _, by omega, Int.le_refl _, Int.le_refl _⟩
  | succ j ih =>
    intro hj
    obtain ⟨i, hi, hI⟩ := ih (by omega)
    obtain ⟨hst, _⟩ := sB_step l hp lv hin hasc j hj
    have hx := hin _ (rd_mem lv (j : Int) (by omega) (by omega))
    have hy := hin _ (rd_mem lv ((j : Int) + 1) (by omega) (by omega))
    have hlt := asc_lt lv hasc j hj
    have hge := lv_ge lv hasc j (by omega)
    have hnp := fun q hq h1 => no_pt l lv hasc hmis j hj q hq hge h1
    rw [show ((j + 1 : Nat) : Int) = (j : Int) + 1 by omega, hst]
    obtain ⟨x, hX⟩ : ∃ x, rd lv (j : Int) = x := ⟨_, rfl⟩
    obtain ⟨y, hY⟩ : ∃ y, rd lv ((j : Int) + 1) = y := ⟨_, rfl⟩
    rw [hX] at hI hx hlt hnp ⊢
    rw [hY] at hy hlt hnp ⊢
    clear hst hX hY ih hge hin hasc hmis
    -- the stave in which x lies, but not at its end
    have key : ∃ i', i' + 1 < l.length ∧ InvF l x (sB l lv j).f0 (sB l lv j).f1 i' ∧ x < (stN l i').2.f0 := by
      by_cases c : x = (stN l i).2.f0
      · have hi2 : i + 2 < l.length := by
          apply Nat.lt_of_not_le
          intro hle
          have : lastX l = (stN l i).2.f0 := by
            unfold lastX stN
            dsimp only
            rw [show (l.length : Int) - 1 = (i : Int) + 1 by omega]
          omega
        have hn := inv_next l hp x _ _ i hi2 hI c
        refine ⟨i + 1, hi2, hn, ?_⟩
        have e1 := (prof_len1 l hp _ (stN_mem l (i + 1) hi2)).1.2.1
        have hs : (stN l (i + 1)).1 = (stN l i).2 := by unfold stN; dsimp only; rw [show ((i + 1 : Nat) : Int) = (i : Int) + 1 by omega]
        rw [hs] at e1
        omega
      · exact ⟨i, hi, hI, by have := hI.2.1; omega⟩
    obtain ⟨i', hi', hI', hxq⟩ := key
    have hq : (stN l i').2 ∈ l := by
      have := rd33_mem l (i' + 1) hi'
      rwa [show ((i' + 1 : Nat) : Int) = (i' : Int) + 1 by omega] at this
    have hyq : y ≤ (stN l i').2.f0 := hnp _ hq hxq
    exact ⟨i', hi', inv_step l hp x y _ _ i' hi' hI' hlt hyq hx.1 hy.2⟩
/-- The sums between 0 and the length enclose the sum of the frustums. -/
theorem full_bd (l : List S33) (hp : profC l = 0) (lv : List Int) (hin : ∀ x ∈ lv, 0 ≤ x ∧ x ≤ lastX l) (hasc : ascI lv = true) (hmis : misP lv l = false) (hz : rd lv 0 = 0) (h2 : 2 ≤ lv.length) (he : rd lv ((lv.length : Int) - 1) = lastX l) :
    (sB l lv (lv.length - 1)).f0 ≤ fru (pairs l) ∧ fru (pairs l) ≤ (sB l lv (lv.length - 1)).f1 := by
  obtain ⟨i, hi, hI⟩ := inv_all l hp lv hin hasc hmis hz (lv.length - 1) (by omega)
  rw [show ((lv.length - 1 : Nat) : Int) = (lv.length : Int) - 1 by omega, he] at hI
  have h1 := hI.2.1
  have hlast : i + 2 = l.length := by
    apply Nat.le_antisymm
    · omega
    · apply Nat.le_of_not_lt
      intro hlt
      have e := pt_asc l hp (i + 1) (by omega)
      have e2 := pt_le l hp (l.length - (i + 3)) (i + 2) (by omega)
      rw [show ((i + 2 + (l.length - (i + 3)) : Nat) : Int) = (l.length : Int) - 1 by omega] at e2
      have e3 : (stN l i).2.f0 = (rd_T33 l ((i + 1 : Nat) : Int)).f0 := by unfold stN; dsimp only; rw [show ((i + 1 : Nat) : Int) = (i : Int) + 1 by omega]
      rw [show ((i + 1 : Nat) : Int) + 1 = ((i + 2 : Nat) : Int) by omega] at e
      have e4 : lastX l = (rd_T33 l ((l.length : Int) - 1)).f0 := rfl
      omega
  have hx : lastX l = (stN l i).2.f0 := by
    unfold lastX stN
    dsimp only
    rw [show (l.length : Int) - 1 = (i : Int) + 1 by omega]
  have := inv_end l hp _ _ _ i hi hI hx
  rwa [List.take_of_length_le (by rw [pairs_len]; omega)] at this
end Go.Proofs.Ytmcmbjkjilcmeaa.K
