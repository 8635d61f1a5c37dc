/- By hand: the plain law of RankQuantiles. -/
import Derived.Test.YtbkoghmbacdiiaaPAwake
import Derived.Test.YtbkoghmbacdiiaaK20a
namespace Go.Proofs.Ytbkoghmbacdiiaa.K
open Go Go.RowKit Go.Proofs.YtbkoghmbacdiiaaW.PrintWords
set_option linter.unusedVariables false
set_option linter.unusedSimpArgs false
theorem srt_perm (l : List Int) : (srt l).Perm l := List.mergeSort_perm _ _
theorem srt_asc (l : List Int) : (srt l).Pairwise (· ≤ ·) := by
  have h := List.pairwise_mergeSort (le := fun x y : Int => decide (x ≤ y)) (fun a b c h1 h2 => by simp at h1 h2 ⊢; omega) (fun a b => by simp; omega) l
  exact h.imp (fun h => by simpa using h)
theorem srt_len (l : List Int) : (srt l).length = l.length := (srt_perm l).length_eq
theorem asc_at {s : List Int} (h : s.Pairwise (· ≤ ·)) {i j : Nat} (hij : i ≤ j) (hj : j < s.length) : s[i] ≤ s[j] := by
  by_cases e : i = j
  · subst e; exact Int.le_refl _
  · exact List.pairwise_iff_getElem.1 h i j (by omega) hj (by omega)
theorem cnt_le {s : List Int} (h : s.Pairwise (· ≤ ·)) {i : Nat} (hi : i < s.length) : i + 1 ≤ s.countP (fun y => decide (y ≤ s[i])) := by
  have e : s.countP (fun y => decide (y ≤ s[i])) = (s.take (i + 1)).countP (fun y => decide (y ≤ s[i])) + (s.drop (i + 1)).countP (fun y => decide (y ≤ s[i])) := by
    rw [← List.countP_append, List.take_append_drop]
  have e2 : (s.take (i + 1)).countP (fun y => decide (y ≤ s[i])) = (s.take (i + 1)).length := List.countP_eq_length.2 fun y hy => by
    obtain ⟨j, hj, rfl⟩ := List.getElem_of_mem hy
    rw [List.getElem_take]
    rw [List.length_take] at hj
    exact decide_eq_true (asc_at h (by omega) hi)
  rw [e, e2, List.length_take]
  omega
theorem cnt_lt {s : List Int} (h : s.Pairwise (· ≤ ·)) {i : Nat} (hi : i < s.length) : s.countP (fun y => decide (y < s[i])) ≤ i := by
  have e : s.countP (fun y => decide (y < s[i])) = (s.take i).countP (fun y => decide (y < s[i])) + (s.drop i).countP (fun y => decide (y < s[i])) := by
    rw [← List.countP_append, List.take_append_drop]
  have e2 : (s.drop i).countP (fun y => decide (y < s[i])) = 0 := List.countP_eq_zero.2 fun y hy => by
    obtain ⟨j, hj, rfl⟩ := List.getElem_of_mem hy
    rw [List.getElem_drop]
    rw [List.length_drop] at hj
    have := asc_at h (i := i) (j := i + j) (by omega) (by omega)
    simp
    omega
  have e3 : (s.take i).countP (fun y => decide (y < s[i])) ≤ (s.take i).length := List.countP_le_length
  rw [List.length_take] at e3
  omega
/-! ### slices.Contains -/
theorem idx_l0 (l : List Int) (x : Int) (hl : l.length ≤ 1000) : ∀ (suf : List Int) (i : Nat), l.drop i = suf → x ∈ suf → ∃ j : Int, 0 ≤ j ∧ Ev (fun k => slices_Index_int_int.l0 k l x (l.length : Int) (i : Int)) j
  | [], i, hd, h => by simp at h
  | y :: suf, i, hd, h => by
    obtain ⟨hi, hx, hd2, _⟩ := drop_atI hd
    by_cases e : x = y
    · exact ⟨i, by omega, Ev.succ (Ev.const _) (fun k => by rw [slices_Index_int_int.l0, if_pos (by omega), if_pos (by omega), if_pos (by omega), hx, if_pos e])⟩
    · obtain ⟨j, h0, hj⟩ := idx_l0 l x hl suf (i + 1) hd2 (by rcases List.mem_cons.1 h with h | h; exact absurd h e; exact h)
      exact ⟨j, h0, Ev.succ hj (fun k => by rw [slices_Index_int_int.l0, if_pos (by omega), if_pos (by omega), if_pos (by omega), hx, if_neg e, wrap_up (by omega)])⟩
theorem cont_ev {l : List Int} {x : Int} (hl : l.length ≤ 1000) (h : x ∈ l) : Ev (fun k => slices_Contains_int_int.f k l x) true := by
  obtain ⟨j, h0, hj⟩ := idx_l0 l x hl l 0 rfl h
  unfold slices_Contains_int_int.f slices_Index_int_int.f
  refine Ev.bind hj ?_
  exact Ev.congr (Ev.const true) (fun k => by rw [decide_eq_true h0])
/-! ### the loop -/
theorem q_l0 (l : List Int) (p q x : Int) (hl : l.length ≤ 1000) : ∀ (suf : List Int) (i a b : Nat), l.drop i = suf → a ≤ i → b ≤ i →
    (∀ i : Nat, l.length ≤ i → Ev (fun k => spilelaw33_RankQuantiles.l0 k l p q x ((a + suf.countP (fun y => decide (y < x)) : Nat) : Int) ((b + suf.countP (fun y => decide (y ≤ x)) : Nat) : Int) l (l.length : Int) (i : Int)) true) →
    Ev (fun k => spilelaw33_RankQuantiles.l0 k l p q x (a : Int) (b : Int) l (l.length : Int) (i : Int)) true
  | [], i, a, b, hd, ha, hb, h => by
    have := drop_endI hd
    exact h i this
  | y :: suf, i, a, b, hd, ha, hb, h => by
    obtain ⟨hi, hx, hd2, _⟩ := drop_atI hd
    have wi : wrap64 ((i : Int) + 1) = ((i + 1 : Nat) : Int) := wrap_up (by omega)
    have wa : wrap64 ((a : Int) + 1) = ((a + 1 : Nat) : Int) := wrap_up (by omega)
    have wb : wrap64 ((b : Int) + 1) = ((b + 1 : Nat) : Int) := wrap_up (by omega)
    rw [List.countP_cons, List.countP_cons] at h
    by_cases c1 : y < x
    · rw [if_pos (decide_eq_true c1), if_pos (decide_eq_true (show y ≤ x by omega))] at h
      have ih := q_l0 l p q x hl suf (i + 1) (a + 1) (b + 1) hd2 (by omega) (by omega) (fun i hi => by
        rw [show a + 1 + suf.countP (fun y => decide (y < x)) = a + (suf.countP (fun y => decide (y < x)) + 1) by omega, show b + 1 + suf.countP (fun y => decide (y ≤ x)) = b + (suf.countP (fun y => decide (y ≤ x)) + 1) by omega]
        exact h i hi)
      refine Ev.succ (Ev.succ ih (g := fun k => spilelaw33_RankQuantiles.j1 k l p q x ((a + 1 : Nat) : Int) (b : Int) y l (l.length : Int) (i : Int)) (fun k => ?_)) (fun k => ?_)
      · rw [spilelaw33_RankQuantiles.j1, if_pos (by omega), wi, wb]
      · rw [spilelaw33_RankQuantiles.l0, if_pos (by omega), if_pos (by omega), if_pos (by omega), hx, if_pos c1, wa]
    · by_cases c2 : y ≤ x
      · rw [if_neg (by simpa using c1), if_pos (decide_eq_true c2)] at h
        have ih := q_l0 l p q x hl suf (i + 1) a (b + 1) hd2 (by omega) (by omega) (fun i hi => by
          rw [show b + 1 + suf.countP (fun y => decide (y ≤ x)) = b + (suf.countP (fun y => decide (y ≤ x)) + 1) by omega]
          exact h i hi)
        refine Ev.succ (Ev.succ ih (g := fun k => spilelaw33_RankQuantiles.j1 k l p q x (a : Int) (b : Int) y l (l.length : Int) (i : Int)) (fun k => ?_)) (fun k => ?_)
        · rw [spilelaw33_RankQuantiles.j1, if_pos c2, wi, wb]
        · rw [spilelaw33_RankQuantiles.l0, if_pos (by omega), if_pos (by omega), if_pos (by omega), hx, if_neg c1]
      · rw [if_neg (by simpa using c1), if_neg (by simpa using c2)] at h
        have ih := q_l0 l p q x hl suf (i + 1) a b hd2 (by omega) (by omega) h
        refine Ev.succ (Ev.succ ih (g := fun k => spilelaw33_RankQuantiles.j1 k l p q x (a : Int) (b : Int) y l (l.length : Int) (i : Int)) (fun k => ?_)) (fun k => ?_)
        · rw [spilelaw33_RankQuantiles.j1, if_neg c2, wi]
        · rw [spilelaw33_RankQuantiles.l0, if_pos (by omega), if_pos (by omega), if_pos (by omega), hx, if_neg c1]
/-- The place of the quantile. -/
def plc (len : Nat) (p q : Int) : Int := mx 1 (((len : Int) * p + q - 1) / q)
theorem plc_facts {len : Nat} {p q : Int} (h0 : 0 < len) (hl : len ≤ 1000) (hq : 1 ≤ q ∧ q ≤ 1000) (hp : 0 ≤ p ∧ p ≤ q) : 1 ≤ plc len p q ∧ plc len p q ≤ len ∧ plc len p q * q ≥ len * p ∧ ((plc len p q - 1) * q < len * p ∨ plc len p q = 1) ∧
    mx 1 (wrap64 (Int.tdiv (wrap64 ((wrap64 ((wrap64 ((len : Int) * p)) + q)) - 1)) q)) = plc len p q ∧ 0 ≤ (len : Int) * p ∧ (len : Int) * p ≤ 1000000 := by
  have b0 : 0 ≤ (len : Int) * p := Int.mul_nonneg (by omega) hp.1
  have b1 : (len : Int) * p ≤ len * q := Int.mul_le_mul_of_nonneg_left hp.2 (by omega)
  have b2 : (len : Int) * p ≤ 1000 * 1000 := Int.mul_le_mul (by omega) (by omega) (by omega) (by omega)
  generalize hA : (len : Int) * p = A at b0 b1 b2 ⊢
  have hq0 : q ≠ 0 := by omega
  have d1 := Int.mul_ediv_add_emod (A + q - 1) q
  have d2 := Int.emod_nonneg (A + q - 1) hq0
  have d3 := Int.emod_lt_of_pos (A + q - 1) (show 0 < q by omega)
  have hD0 : 0 ≤ (A + q - 1) / q := Int.ediv_nonneg (by omega) (by omega)
  have hDl : (A + q - 1) / q ≤ len := by
    have h1 : (A + q - 1) / q < len + 1 := Int.ediv_lt_of_lt_mul (by omega) (by rw [Int.add_mul, Int.one_mul]; omega)
    omega
  have hw : wrap64 (Int.tdiv (wrap64 ((wrap64 ((wrap64 A) + q)) - 1)) q) = (A + q - 1) / q := by
    have e1 : wrap64 A = A := by unfold wrap64; omega
    have e2 : wrap64 (A + q) = A + q := by unfold wrap64; omega
    have e3 : wrap64 (A + q - 1) = A + q - 1 := by unfold wrap64; omega
    rw [e1, e2, e3, Int.tdiv_eq_ediv_of_nonneg (by omega)]
    generalize (A + q - 1) / q = D at hD0 hDl
    unfold wrap64
    omega
  rw [hw]
  unfold plc
  rw [hA]
  generalize hD : (A + q - 1) / q = D at d1 hD0 hDl ⊢
  have hmx : mx 1 D = if 1 ≤ D then D else 1 := by unfold mx; split <;> split <;> omega
  have hqD : q * D = D * q := Int.mul_comm _ _
  by_cases c : 1 ≤ D
  · rw [hmx, if_pos c]
    refine ⟨c, hDl, by omega, .inl (by rw [Int.sub_mul, Int.one_mul]; omega), rfl, b0, by omega⟩
  · rw [hmx, if_neg c]
    have e : D = 0 := by omega
    subst e
    refine ⟨by omega, by omega, by omega, .inr rfl, rfl, b0, by omega⟩
theorem RankQuantilesPure : spilelaw33_RankQuantiles.Pure := by
  intro l p q _ _ _ _ _
  refine Ev.one ?_
  unfold spilelaw33_RankQuantiles.f
  refine Ev.bind awake_ev ?_
  simp only [if_true]
  by_cases c12 : (l.length : Int) > 12
  · simp only [if_pos c12]
    exact Ev.const _
  · simp only [if_neg c12]
    refine Ev.bind (g := fun _ => clone14.f l) (r := l) ⟨0, fun _ _ => by unfold clone14.f; rw [if_pos (by omega)]⟩ ?_
    by_cases hf : ftE l = 0
    · by_cases hpq : 1 ≤ q ∧ q ≤ 1000 ∧ 0 ≤ p ∧ p ≤ q
      · obtain ⟨q1, q2, p1, p2⟩ := hpq
        have h0 := (ft_ok hf).1
        have hsl := srt_len l
        obtain ⟨f1, f2, f3, f4, f5, f6, f7⟩ := plc_facts h0 (by omega) ⟨q1, q2⟩ ⟨p1, p2⟩
        obtain ⟨i, hi⟩ : ∃ i : Nat, plc l.length p q = (i : Int) + 1 := ⟨(plc l.length p q - 1).toNat, by omega⟩
        have hil : i < (srt l).length := by omega
        have hw : wrap64 (plc l.length p q - 1) = (i : Int) := by rw [hi]; unfold wrap64; omega
        have hrd : rd (srt l) (i : Int) = (srt l)[i] := by unfold rd; simp [List.getD_eq_getElem?_getD, hil]
        obtain ⟨x, hx⟩ : ∃ x, x = (srt l)[i] := ⟨_, rfl⟩
        have hQ : Ev (fun k => rank_Quantile.f k l p q) (x, 0) := by
          unfold rank_Quantile.f
          refine Ev.bind (g := fun _ => rank_Sorted.f l) (r := (srt l, 0)) ⟨0, fun _ _ => by unfold rank_Sorted.f; rw [if_pos hf]⟩ ?_
          simp only [if_true, if_neg (show ¬ q < 1 by omega), if_neg (show ¬ q > 1000 by omega), if_neg (show ¬ p < 0 by omega), decide_eq_false (show ¬ p > q by omega)]
          refine Ev.shift ?_
          simp only [rank_Quantile.j0, Bool.false_eq_true, if_false, if_neg (show ¬ q = 0 by omega), hsl, f5, hw]
          simp only [if_pos (show 0 ≤ (i : Int) by omega), if_pos (show (i : Int) < (l.length : Int) by omega), hrd, ← hx]
          exact Ev.const _
        refine Ev.bind hQ ?_
        simp only [if_true]
        have hm : x ∈ l := (srt_perm l).mem_iff.1 (by rw [hx]; exact List.getElem_mem _)
        have hA := cnt_lt (srt_asc l) hil
        have hB := cnt_le (srt_asc l) hil
        rw [← hx, (srt_perm l).countP_eq] at hA hB
        refine q_l0 l p q x (by omega) l 0 0 0 rfl (Nat.le_refl _) (Nat.le_refl _) (fun i2 hi2 => ?_)
        have hBl : l.countP (fun y => decide (y ≤ x)) ≤ l.length := List.countP_le_length
        generalize l.countP (fun y => decide (y < x)) = a at hA ⊢
        generalize l.countP (fun y => decide (y ≤ x)) = b at hB hBl ⊢
        rw [Nat.zero_add, Nat.zero_add]
        have haq : 0 ≤ (a : Int) * q := Int.mul_nonneg (by omega) (by omega)
        have haq2 : (a : Int) * q ≤ (i : Int) * q := Int.mul_le_mul_of_nonneg_right (by omega) (by omega)
        have hiq2 : (i : Int) * q ≤ 1000 * 1000 := Int.mul_le_mul (by omega) (by omega) (by omega) (by omega)
        have hbq : ((i : Int) + 1) * q ≤ (b : Int) * q := Int.mul_le_mul_of_nonneg_right (by omega) (by omega)
        have hbq2 : (b : Int) * q ≤ 1000 * 1000 := Int.mul_le_mul (by omega) (by omega) (by omega) (by omega)
        have hbq0 : 0 ≤ (b : Int) * q := Int.mul_nonneg (by omega) (by omega)
        rw [hi] at f3 f4
        have w1 : wrap64 ((b : Int) * q) = b * q := by generalize (b : Int) * q = z at hbq2 hbq0; unfold wrap64; omega
        have w2 : wrap64 ((a : Int) * q) = a * q := by
          have h9 : (a : Int) * q ≤ 1000000 := by omega
          generalize (a : Int) * q = z at haq h9
          unfold wrap64
          omega
        have w3 : wrap64 ((l.length : Int) * p) = l.length * p := by generalize (l.length : Int) * p = z at f6 f7; unfold wrap64; omega
        have hI : (i : Int) + 1 - 1 = i := by omega
        rw [hI] at f4
        refine Ev.shift ?_
        simp only [spilelaw33_RankQuantiles.l0, if_neg (show ¬ (i2 : Int) < (l.length : Int) by omega)]
        refine Ev.bind (cont_ev (by omega) hm) ?_
        simp only [if_true, w1, w2, w3]
        rw [if_pos (show (b : Int) * q ≥ (l.length : Int) * p by omega)]
        by_cases c : (a : Int) * q < (l.length : Int) * p
        · rw [if_pos c]
          exact Ev.const _
        · rw [if_neg c]
          have ha0 : a = 0 := by omega
          subst ha0
          exact Ev.congr (Ev.const true) (fun k => by simp)
      · have hQ : Ev (fun k => rank_Quantile.f k l p q) (0, 2) := by
          have bad : Ev (fun k => rank_Quantile.j0 k p q (srt l) true) (0, 2) := Ev.succ (Ev.const _) (fun k => by rw [rank_Quantile.j0, if_pos rfl])
          unfold rank_Quantile.f
          refine Ev.bind (g := fun _ => rank_Sorted.f l) (r := (srt l, 0)) ⟨0, fun _ _ => by unfold rank_Sorted.f; rw [if_pos hf]⟩ ?_
          simp only [if_true]
          by_cases g1 : q < 1
          · simp only [if_pos g1]; exact bad
          · simp only [if_neg g1]
            by_cases g2 : q > 1000
            · simp only [if_pos g2]; exact bad
            · simp only [if_neg g2]
              by_cases g3 : p < 0
              · simp only [if_pos g3]; exact bad
              · simp only [if_neg g3]
                rw [decide_eq_true (show p > q by omega)]
                exact bad
        refine Ev.bind hQ ?_
        exact Ev.congr (Ev.const true) (fun k => by kernel_rfl)
    · have hQ : Ev (fun k => rank_Quantile.f k l p q) (0, ftE l) := by
        unfold rank_Quantile.f
        refine Ev.bind (g := fun _ => rank_Sorted.f l) (r := ([], ftE l)) ⟨0, fun _ _ => by unfold rank_Sorted.f; rw [if_neg hf]⟩ ?_
        simp only [if_neg hf]
        exact Ev.const _
      refine Ev.bind hQ ?_
      simp only [if_neg hf]
      exact Ev.congr (Ev.const true) (fun k => by simp)
end Go.Proofs.Ytbkoghmbacdiiaa.K
namespace Go.Proofs.Ytbkoghmbacdiiaa.Pure
theorem RankQuantiles : K.spilelaw33_RankQuantiles.Pure := K.RankQuantilesPure
end Go.Proofs.Ytbkoghmbacdiiaa.Pure
