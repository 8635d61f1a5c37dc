/- By hand: the plain law of RankSums. -/
import Derived.Test.YtbkoghmbacdiiaaPureRankSorts
import Derived.Test.YtbkoghmbacdiiaaK19
namespace Go.Proofs.Ytbkoghmbacdiiaa.K
open Go Go.RowKit Go.Proofs.YtbkoghmbacdiiaaW.PrintWords
set_option linter.unusedVariables false
set_option linter.unusedSimpArgs false
theorem rd_at (l : List Int) (j : Nat) (h : j < l.length) : rd l (j : Int) = l[j] := by unfold rd; simp [List.getD_eq_getElem?_getD, h]
/-! ### the ranks' sum -/
theorem rkS_two (x m : Int) : rkS x m + rkS m x = 2 := by
  unfold rkS
  by_cases c1 : m < x
  · rw [if_pos c1, if_neg (by omega), if_neg (by omega)]; rfl
  · by_cases c2 : m = x
    · rw [if_neg c1, if_pos c2, if_neg (by omega), if_pos c2.symm]; rfl
    · rw [if_neg c1, if_neg c2, if_pos (by omega)]; rfl
def inn (x : Int) (b : List Int) : Int := isum (b.map (rkS x))
def col (b : List Int) (x : Int) : Int := isum (b.map (fun m => rkS m x))
def dbl (a b : List Int) : Int := isum (a.map (fun x => inn x b))
theorem inn_col (x : Int) : ∀ b : List Int, inn x b + col b x = 2 * b.length
  | [] => by simp [inn, col, isum_nil]
  | m :: b => by
    have ih := inn_col x b
    have h := rkS_two x m
    unfold inn col at ih ⊢
    rw [List.map_cons, List.map_cons, isum_cons, isum_cons, List.length_cons]
    push_cast
    omega
theorem dbl_cons (x : Int) (a : List Int) : ∀ b : List Int, dbl b (x :: a) = col b x + dbl b a
  | [] => by simp [dbl, col, isum_nil]
  | m :: b => by
    have ih := dbl_cons x a b
    unfold dbl col at ih ⊢
    rw [List.map_cons, List.map_cons, List.map_cons, isum_cons, isum_cons, isum_cons, ih]
    have e : inn m (x :: a) = rkS m x + inn m a := by unfold inn; rw [List.map_cons, isum_cons]
    rw [e]
    omega
theorem dbl_two : ∀ a b : List Int, dbl a b + dbl b a = 2 * ((a.length : Int) * b.length)
  | [], b => by
    have h : ∀ b : List Int, dbl b [] = 0 := fun b => by
      induction b with
      | nil => rfl
      | cons m b ih => unfold dbl at ih ⊢; rw [List.map_cons, isum_cons, ih]; rfl
    rw [h b]
    simp [dbl, isum_nil]
  | x :: a, b => by
    have ih := dbl_two a b
    have h := inn_col x b
    rw [dbl_cons]
    have e : dbl (x :: a) b = inn x b + dbl a b := by unfold dbl; rw [List.map_cons, isum_cons]
    rw [e, List.length_cons]
    push_cast
    rw [Int.add_mul, Int.one_mul]
    omega
theorem rk_sum_aux (l : List Int) : ∀ a : List Int, isum (a.map (rk l)) = a.length + dbl a l
  | [] => by simp [dbl, isum_nil]
  | x :: a => by
    have ih := rk_sum_aux l a
    unfold dbl at ih ⊢
    rw [List.map_cons, List.map_cons, isum_cons, isum_cons, ih, List.length_cons]
    have e : rk l x = 1 + inn x l := rfl
    rw [e]
    push_cast
    omega
theorem rk_sum (l : List Int) : isum (l.map (rk l)) = (l.length : Int) * (l.length + 1) := by
  have h := dbl_two l l
  rw [rk_sum_aux, Int.mul_add, Int.mul_one]
  omega
/-! ### greater numbers have greater ranks -/
theorem inn_mono {x y : Int} (h : x ≤ y) : ∀ b : List Int, inn x b ≤ inn y b
  | [] => Int.le_refl _
  | m :: b => by
    have ih := inn_mono h b
    have e : rkS x m ≤ rkS y m := by
      unfold rkS
      by_cases c1 : m < x
      · rw [if_pos c1, if_pos (by omega)]; omega
      · rw [if_neg c1]
        by_cases c2 : m = x
        · rw [if_pos c2]
          by_cases c3 : m < y
          · rw [if_pos c3]; omega
          · rw [if_neg c3, if_pos (by omega)]; omega
        · rw [if_neg c2]
          split
          · omega
          · split <;> omega
    unfold inn at ih ⊢
    rw [List.map_cons, List.map_cons, isum_cons, isum_cons]
    omega
theorem inn_lt {x y : Int} (h : x < y) : ∀ b : List Int, x ∈ b → inn x b < inn y b
  | m :: b, hm => by
    have e1 := inn_mono (show x ≤ y by omega) b
    have e2 := inn_mono (show x ≤ y by omega) [m]
    have s : ∀ z, inn z (m :: b) = rkS z m + inn z b := fun z => by unfold inn; rw [List.map_cons, isum_cons]
    have s1 : ∀ z, inn z [m] = rkS z m := fun z => by unfold inn; rw [List.map_cons, isum_cons]; simp [isum_nil]
    rw [s1, s1] at e2
    rw [s, s]
    rcases List.mem_cons.1 hm with hm | hm
    · have e3 : rkS x m = 1 := by unfold rkS; rw [if_neg (by omega), if_pos hm.symm]
      have e4 : rkS y m = 2 := by unfold rkS; rw [if_pos (by omega)]
      omega
    · have := inn_lt h b hm
      omega
theorem rk_iff {l : List Int} {x y : Int} (hx : x ∈ l) (hy : y ∈ l) : ((decide (x < y)) != (decide (rk l x < rk l y))) = false := by
  have e : ∀ z, rk l z = 1 + inn z l := fun z => rfl
  rw [e, e]
  by_cases c : x < y
  · have := inn_lt c l hx
    rw [decide_eq_true c, decide_eq_true (by omega)]
    rfl
  · have := inn_mono (show y ≤ x by omega) l
    rw [decide_eq_false c, decide_eq_false (by omega)]
    rfl
/-! ### halves -/
theorem half_bd {x B : Int} (h : -B ≤ x ∧ x ≤ B) : -B ≤ Int.tdiv x 2 ∧ Int.tdiv x 2 ≤ B := by
  by_cases c : 0 ≤ x
  · rw [Int.tdiv_eq_ediv_of_nonneg c]
    omega
  · have e : Int.tdiv x 2 = -((-x) / 2) := by rw [← Int.tdiv_eq_ediv_of_nonneg (show 0 ≤ -x by omega), Int.neg_tdiv, Int.neg_neg]
    rw [e]
    omega
theorem half_even {x : Int} (h : odd x = false) : x = 2 * Int.tdiv x 2 := by
  have h1 := Int.mul_tdiv_add_tmod x 2
  have h2 : Int.tmod x 2 = 0 := by simpa [odd] using h
  omega
theorem rkS_half {x m : Int} (h1 : odd x = false) (h2 : odd m = false) : rkS (Int.tdiv x 2) (Int.tdiv m 2) = rkS x m := by
  have e1 := half_even h1
  have e2 := half_even h2
  unfold rkS
  by_cases c : m < x
  · rw [if_pos c, if_pos (by omega)]
  · rw [if_neg c, if_neg (by omega)]
    by_cases c2 : m = x
    · rw [if_pos c2, if_pos (by omega)]
    · rw [if_neg c2, if_neg (by omega)]
theorem rk_half {l : List Int} (h : ∀ m ∈ l, odd m = false) {x : Int} (hx : odd x = false) : rk (l.map (fun y => Int.tdiv y 2)) (Int.tdiv x 2) = rk l x := by
  unfold rk
  rw [List.map_map]
  congr 2
  exact List.map_congr_left (fun m hm => rkS_half hx (h m hm))
theorem ranks_half {l : List Int} (h : ∀ m ∈ l, odd m = false) : (l.map (fun y => Int.tdiv y 2)).map (rk (l.map (fun y => Int.tdiv y 2))) = l.map (rk l) := by
  rw [List.map_map]
  exact List.map_congr_left (fun m hm => rk_half h (h m hm))
theorem off_iff (x : Int) : offS x = false ↔ -1099511627776 ≤ x ∧ x ≤ 1099511627776 := by
  unfold offS
  simp
theorem ft_half {l : List Int} (h : ftE l = 0) : ftE (l.map (fun y => Int.tdiv y 2)) = 0 := by
  obtain ⟨h1, h2, h3⟩ := ft_ok h
  unfold ftE
  rw [List.length_map, if_neg (by omega), if_neg (by omega), if_neg]
  rw [Bool.not_eq_true, List.any_eq_false]
  intro x hx
  obtain ⟨y, hy, rfl⟩ := List.mem_map.1 hx
  rw [Bool.not_eq_true, off_iff]
  exact half_bd (h3 y hy)
/-! ### slices.Equal -/
theorem equal_l0 (l : List Int) (hl : l.length ≤ 1000) : ∀ (suf : List Int) (i : Nat), l.drop i = suf → Ev (fun k => slices_Equal_int_int.l0 k l l (l.length : Int) (i : Int)) true
  | [], i, h => by
    have hj := drop_endI h
    exact Ev.succ (Ev.const _) (fun k => by rw [slices_Equal_int_int.l0, if_neg (by omega)])
  | x :: suf, i, h => by
    obtain ⟨hi, hx, hd, ht⟩ := drop_atI h
    refine Ev.succ (equal_l0 l hl suf (i + 1) hd) (fun k => ?_)
    rw [slices_Equal_int_int.l0, if_pos (by omega), if_pos (by omega), if_pos (by omega), if_pos (by omega), if_pos rfl, wrap_up (by omega)]
theorem equal_ev (l : List Int) (hl : l.length ≤ 1000) : Ev (fun k => slices_Equal_int_int.f k l l) true := by
  unfold slices_Equal_int_int.f
  simp only [if_true]
  exact equal_l0 l hl l 0 rfl
/-! ### the law's loops -/
theorem sums_l1 (l : List Int) (hl : l.length ≤ 1000) (s : Int) (T : List Int) (i : Nat) (hi : i < l.length) (h : Ev (fun k => spilelaw33_RankSums.l0 k l (l.map (rk l)) s T (l.length : Int) ((i + 1 : Nat) : Int)) true) (m : Nat) :
    ∀ j : Nat, j + m = l.length → Ev (fun k => spilelaw33_RankSums.l1 k l (l.map (rk l)) s T (i : Int) (l.length : Int) (i : Int) (l.length : Int) (j : Int)) true := by
  have hm : (l.map (rk l)).length = l.length := List.length_map _
  induction m with
  | zero =>
    intro j hj
    refine Ev.succ h (fun k => ?_)
    rw [spilelaw33_RankSums.l1, if_neg (by omega), wrap_up (by omega)]
  | succ m ih =>
    intro j hj
    have hjl : j < l.length := by omega
    have e : ((decide ((rd l (i : Int)) < (rd l (j : Int)))) != (decide ((rd (l.map (rk l)) (i : Int)) < (rd (l.map (rk l)) (j : Int))))) = false := by
      rw [rd_at l i hi, rd_at l j hjl, rd_at _ i (by omega), rd_at _ j (by omega), List.getElem_map, List.getElem_map]
      exact rk_iff (List.getElem_mem _) (List.getElem_mem _)
    refine Ev.succ (ih (j + 1) (by omega)) (fun k => ?_)
    rw [spilelaw33_RankSums.l1, if_pos (by omega), if_pos (by omega), if_pos (by omega), if_pos (by omega), if_pos (by omega), if_pos (by omega), if_pos (by omega), e, if_neg (by simp), wrap_up (by omega)]
theorem rsum_end {l : List Int} (h12 : l.length ≤ 12) (hf : ftE l = 0) (i : Nat) (hi : l.length ≤ i) : Ev (fun k => spilelaw33_RankSums.l0 k l (l.map (rk l)) (isum (l.map (rk l))) (l.map (fun y => Int.tdiv y 2)) (l.length : Int) (i : Int)) true := by
  have hw : wrap64 ((l.length : Int) * (wrap64 ((l.length : Int) + 1))) = (l.length : Int) * (l.length + 1) := by
    rw [wrap_up (by omega)]
    have h1 : (0 : Int) ≤ (l.length : Int) * (l.length + 1) := Int.mul_nonneg (by omega) (by omega)
    have h2 : (l.length : Int) * (l.length + 1) ≤ 12 * 13 := Int.mul_le_mul (by omega) (by omega) (by omega) (by omega)
    push_cast
    generalize (l.length : Int) * (l.length + 1) = z at h1 h2
    unfold wrap64
    omega
  refine Ev.shift ?_
  simp only [spilelaw33_RankSums.l0, if_neg (show ¬ (i : Int) < (l.length : Int) by omega), hw]
  refine Ev.bind (g := fun _ => odd30.f l) (r := l.any odd) ⟨0, fun _ _ => rfl⟩ ?_
  rw [rk_sum]
  cases hodd : l.any odd with
  | true =>
    simp only [if_true]
    exact Ev.congr (Ev.const true) (fun k => by simp)
  | false =>
    simp only [Bool.false_eq_true, if_false]
    have hev : ∀ m ∈ l, odd m = false := fun m hm => by
      have := List.any_eq_false.1 hodd m hm
      simpa using this
    have hr := Ranks_ev (l.map (fun y => Int.tdiv y 2))
    rw [show ranksE (l.map (fun y => Int.tdiv y 2)) = (l.map (rk l), 0) by unfold ranksE; rw [if_pos (ft_half hf), ranks_half hev]] at hr
    refine Ev.bind hr ?_
    simp only [if_true]
    refine Ev.bind (equal_ev (l.map (rk l)) (by rw [List.length_map]; omega)) ?_
    simp only [if_true]
    exact Ev.congr (Ev.const true) (fun k => by simp)
theorem sums_l0 {l : List Int} (h12 : l.length ≤ 12) (hf : ftE l = 0) : ∀ (suf : List Int) (i : Nat), l.drop i = suf →
    Ev (fun k => spilelaw33_RankSums.l0 k l (l.map (rk l)) (isum ((l.take i).map (rk l))) ((l.take i).map (fun y => Int.tdiv y 2)) (l.length : Int) (i : Int)) true
  | [], i, h => by
    have hj := drop_endI h
    rw [List.take_of_length_le hj]
    exact rsum_end h12 hf i hj
  | x :: suf, i, h => by
    obtain ⟨hi, hx, hd, ht⟩ := drop_atI h
    have ih := sums_l0 h12 hf suf (i + 1) hd
    rw [ht, List.map_append, List.map_append, isum_append] at ih
    have hlm : (l.map (rk l)).length = l.length := List.length_map _
    have hrx : rd (l.map (rk l)) (i : Int) = rk l x := by
      rw [rd_at _ i (by omega), List.getElem_map, ← hx, rd_at l i hi]
    have hb := isum_bd 100 ((l.take i).map (rk l)) (fun z hz => by
      obtain ⟨y, _, rfl⟩ := List.mem_map.1 hz
      have := rk_bd l y
      omega)
    have hlt : ((l.take i).map (rk l)).length ≤ 12 := by rw [List.length_map, List.length_take]; omega
    have hrb := rk_bd l x
    have hxm : x ∈ l := by rw [← hx, rd_at l i hi]; exact List.getElem_mem _
    have hxb := (ft_ok hf).2.2 x hxm
    have hhb := half_bd (B := 1099511627776) hxb
    have w1 : wrap64 (isum ((l.take i).map (rk l)) + rk l x) = isum ((l.take i).map (rk l)) + isum ([x].map (rk l)) := by
      rw [List.map_cons, isum_cons, List.map_nil, isum_nil, Int.add_zero]
      have : isum ((l.take i).map (rk l)) ≤ 1200 := by omega
      unfold wrap64
      omega
    have w2 : wrap64 (Int.tdiv x 2) = Int.tdiv x 2 := by generalize Int.tdiv x 2 = z at hhb; unfold wrap64; omega
    have hT : ((l.take i).map (fun y => Int.tdiv y 2)).length < 17592186044416 := by rw [List.length_map, List.length_take]; omega
    refine Ev.succ (sums_l1 l (by omega) _ _ i hi ih l.length 0 (by omega)) (fun k => ?_)
    rw [spilelaw33_RankSums.l0, if_pos (by omega), if_pos (by omega), if_pos (by omega), if_pos (by omega), if_pos hT, hrx, hx, w1, w2]
    rfl
theorem RankSumsPure : spilelaw33_RankSums.Pure := by
  intro l _ _ _
  refine Ev.one ?_
  unfold spilelaw33_RankSums.f
  refine Ev.bind awake_ev ?_
  simp only [if_true]
  by_cases c12 : (l.length : Int) > 12
  · simp only [if_pos c12]
    exact Ev.const _
  · simp only [if_neg c12]
    refine Ev.bind (g := fun _ => clone14.f l) (r := l) ⟨0, fun _ _ => by unfold clone14.f; rw [if_pos (by omega)]⟩ ?_
    refine Ev.bind (Ranks_ev l) ?_
    by_cases hf : ftE l = 0
    · rw [show ranksE l = (l.map (rk l), 0) by unfold ranksE; rw [if_pos hf]]
      simp only [if_true, List.length_map]
      exact sums_l0 (by omega) hf l 0 rfl
    · rw [show ranksE l = ([], ftE l) by unfold ranksE; rw [if_neg hf]]
      simp only [if_neg hf]
      exact Ev.congr (Ev.const true) (fun k => by simp)
end Go.Proofs.Ytbkoghmbacdiiaa.K
namespace Go.Proofs.Ytbkoghmbacdiiaa.Pure
theorem RankSums : K.spilelaw33_RankSums.Pure := K.RankSumsPure
end Go.Proofs.Ytbkoghmbacdiiaa.Pure
