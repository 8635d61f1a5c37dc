/- By hand: the plain law of RankSorts. -/
import Derived.Test.YtbkoghmbacdiiaaPRef
import Derived.Test.YtbkoghmbacdiiaaPureRankQuantiles
import Derived.Test.YtbkoghmbacdiiaaK14
namespace Go.Proofs.Ytbkoghmbacdiiaa.K
open Go Go.RowKit Go.Proofs.YtbkoghmbacdiiaaW.PrintWords
set_option linter.unusedVariables false
set_option linter.unusedSimpArgs false
/-! ### the reference's ranks -/
theorem rrank_l0 (all : List Int) (hA : all.length ≤ 1000) (n : Int) : ∀ (suf : List Int) (j : Nat) (r : Int), all.drop j = suf → r = 1 + isum ((all.take j).map (rkS n)) → Ev (fun k => spileref33_rank.l0 k all n r (j : Int)) (rk all n)
  | [], j, r, h, hr => by
    have hj := drop_endI h
    rw [List.take_of_length_le hj] at hr
    refine Ev.succ (Ev.const _) (fun k => ?_)
    rw [spileref33_rank.l0, if_neg (by omega), hr]
    rfl
  | m :: suf, j, r, h, hr => by
    obtain ⟨hj, hx, hd, ht⟩ := drop_atI h
    have p1 : (0 : Int) ≤ (j : Int) := by omega
    have p2 : (j : Int) < (all.length : Int) := by omega
    have hb := isum_bd 2 ((all.take j).map (rkS n)) (fun x hx => by obtain ⟨m, _, rfl⟩ := List.mem_map.1 hx; exact rkS_bd n m)
    have hl : ((all.take j).map (rkS n)).length ≤ 1000 := by simp; omega
    have hn : 1 + isum ((all.take (j + 1)).map (rkS n)) = r + rkS n m := by
      rw [ht, List.map_append, isum_append, hr]
      simp [isum_cons, isum_nil]
      omega
    have hrb : 0 ≤ r ∧ r ≤ 3000 := by
      rw [hr]
      have : (2 : Int) * (((all.take j).map (rkS n)).length : Int) ≤ 2 * 1000 := by omega
      omega
    have ih := rrank_l0 all hA n suf (j + 1) (r + rkS n m) hd hn.symm
    by_cases c1 : m < n
    · have e : rkS n m = 2 := by unfold rkS; rw [if_pos c1]
      rw [e] at ih
      refine Ev.succ (Ev.succ ih (g := fun k => spileref33_rank.j1 k all n (r + 2) (j : Int)) (fun k => ?_)) (fun k => ?_)
      · rw [spileref33_rank.j1, if_pos p1, if_pos p2, hx, if_neg (by omega), wrap_up (by omega)]
      · rw [spileref33_rank.l0, if_pos p2, if_pos p1, hx, if_pos c1, show wrap64 (r + 2) = r + 2 by unfold wrap64; omega]
    · by_cases c2 : m = n
      · have e : rkS n m = 1 := by unfold rkS; rw [if_neg c1, if_pos c2]
        rw [e] at ih
        refine Ev.succ (Ev.succ ih (g := fun k => spileref33_rank.j1 k all n r (j : Int)) (fun k => ?_)) (fun k => ?_)
        · rw [spileref33_rank.j1, if_pos p1, if_pos p2, hx, if_pos c2, wrap_up (by omega), show wrap64 (r + 1) = r + 1 by unfold wrap64; omega]
        · rw [spileref33_rank.l0, if_pos p2, if_pos p1, hx, if_neg c1]
      · have e : rkS n m = 0 := by unfold rkS; rw [if_neg c1, if_neg c2]
        rw [e, Int.add_zero] at ih
        refine Ev.succ (Ev.succ ih (g := fun k => spileref33_rank.j1 k all n r (j : Int)) (fun k => ?_)) (fun k => ?_)
        · rw [spileref33_rank.j1, if_pos p1, if_pos p2, hx, if_neg c2, wrap_up (by omega)]
        · rw [spileref33_rank.l0, if_pos p2, if_pos p1, hx, if_neg c1]
theorem rrank_ev (all : List Int) (hA : all.length ≤ 1000) (n : Int) : Ev (fun k => spileref33_rank.f k all n) (rk all n) := rrank_l0 all hA n all 0 1 rfl (by simp [isum_nil])
theorem rranks_l0 (l : List Int) (hl : l.length ≤ 1000) : ∀ (suf : List Int) (i : Nat) (out : List Int), l.drop i = suf → out.length = i → Ev (fun k => spileref33_ranks.l0 k l out (i : Int)) (out ++ suf.map (rk l))
  | [], i, out, h, ho => by
    have hj := drop_endI h
    refine Ev.succ (Ev.const _) (fun k => ?_)
    rw [spileref33_ranks.l0, if_neg (by omega)]
    simp
  | n :: suf, i, out, h, ho => by
    obtain ⟨hi, hx, hd, _⟩ := drop_atI h
    have ih := rranks_l0 l hl suf (i + 1) (out ++ [rk l n]) hd (by simp [ho])
    refine Ev.shift ?_
    simp only [spileref33_ranks.l0, if_pos (show (i : Int) < (l.length : Int) by omega), if_pos (show (0 : Int) ≤ (i : Int) by omega), hx]
    refine Ev.bind (rrank_ev l hl n) ?_
    simp only [if_pos (show out.length < 17592186044416 by omega), wrap_up (show i ≤ 1000000 by omega)]
    simpa using ih
theorem rranks_ev (l : List Int) (hl : l.length ≤ 1000) : Ev (fun k => spileref33_ranks.f k l) (l.map (rk l)) := by
  have := rranks_l0 l hl l 0 [] rfl rfl
  simpa [spileref33_ranks.f] using this
/-! ### rises -/
/-- c, and one more for each of the numbers that is less than x. -/
def upW (x : Int) (c : Int) (L : List Int) : Int := L.foldl (fun c y => if y < x then wrap64 (c + 1) else c) c
def upsW : List Int → List Int → Int → Int
  | _, [], c => c
  | A, x :: L, c => upsW (A ++ [x]) L (upW x c A)
section
variable {R : Int × Int}
theorem rise_l1 (l : List Int) (hl : l.length ≤ 1000) (i : Nat) (x : Int) (hi : i < l.length) (hx : rd l (i : Int) = x) (m : Nat) : ∀ (j : Nat) (c : Int), j + m = i → Ev (fun k => rank_Rises.l0 k l (upW x c ((l.take i).drop j)) (l.length : Int) ((i + 1 : Nat) : Int)) R → Ev (fun k => rank_Rises.l1 k l c (i : Int) (l.length : Int) (i : Int) (i : Int) (j : Int)) R := by
  induction m with
  | zero =>
    intro j c hj h
    rw [List.drop_eq_nil_of_le (by rw [List.length_take]; omega)] at h
    refine Ev.succ h (fun k => ?_)
    rw [rank_Rises.l1, if_neg (by omega), wrap_up (by omega)]
    rfl
  | succ m ih =>
    intro j c hj h
    have hjl : j < (l.take i).length := by rw [List.length_take]; omega
    rw [List.drop_eq_getElem_cons hjl, List.getElem_take] at h
    have hy : rd l (j : Int) = l[j] := by unfold rd; simp [List.getD_eq_getElem?_getD, show j < l.length by omega]
    by_cases c1 : l[j] < x
    · have h2 := ih (j + 1) (wrap64 (c + 1)) (by omega) (by
        unfold upW at h ⊢
        rw [List.foldl_cons, if_pos c1] at h
        exact h)
      refine Ev.succ h2 (fun k => ?_)
      rw [rank_Rises.l1, if_pos (by omega), if_pos (by omega), if_pos (by omega), if_pos (by omega), if_pos (by omega), hy, hx, if_pos c1, wrap_up (by omega)]
    · have h2 := ih (j + 1) c (by omega) (by
        unfold upW at h ⊢
        rw [List.foldl_cons, if_neg c1] at h
        exact h)
      refine Ev.succ h2 (fun k => ?_)
      rw [rank_Rises.l1, if_pos (by omega), if_pos (by omega), if_pos (by omega), if_pos (by omega), if_pos (by omega), hy, hx, if_neg c1, wrap_up (by omega)]
theorem rrise_l1 (l : List Int) (hl : l.length ≤ 1000) (i : Nat) (x : Int) (hi : i < l.length) (hx : rd l (i : Int) = x) (m : Nat) : ∀ (j : Nat) (c : Int), j + m = i → Ev (fun k => spileref33_Rises.l0 k l (upW x c ((l.take i).drop j)) ((i + 1 : Nat) : Int)) R → Ev (fun k => spileref33_Rises.l1 k l c (i : Int) (j : Int)) R := by
  induction m with
  | zero =>
    intro j c hj h
    rw [List.drop_eq_nil_of_le (by rw [List.length_take]; omega)] at h
    refine Ev.succ h (fun k => ?_)
    rw [spileref33_Rises.l1, if_neg (by omega), wrap_up (by omega)]
    rfl
  | succ m ih =>
    intro j c hj h
    have hjl : j < (l.take i).length := by rw [List.length_take]; omega
    rw [List.drop_eq_getElem_cons hjl, List.getElem_take] at h
    have hy : rd l (j : Int) = l[j] := by unfold rd; simp [List.getD_eq_getElem?_getD, show j < l.length by omega]
    by_cases c1 : l[j] < x
    · have h2 := ih (j + 1) (wrap64 (c + 1)) (by omega) (by
        unfold upW at h ⊢
        rw [List.foldl_cons, if_pos c1] at h
        exact h)
      refine Ev.succ h2 (fun k => ?_)
      rw [spileref33_Rises.l1, if_pos (by omega), if_pos (by omega), if_pos (by omega), if_pos (by omega), if_pos (by omega), hy, hx, if_pos c1, wrap_up (by omega)]
    · have h2 := ih (j + 1) c (by omega) (by
        unfold upW at h ⊢
        rw [List.foldl_cons, if_neg c1] at h
        exact h)
      refine Ev.succ h2 (fun k => ?_)
      rw [spileref33_Rises.l1, if_pos (by omega), if_pos (by omega), if_pos (by omega), if_pos (by omega), if_pos (by omega), hy, hx, if_neg c1, wrap_up (by omega)]
end
theorem rise_l0 (l : List Int) (hl : l.length ≤ 1000) : ∀ (suf : List Int) (i : Nat) (c : Int), l.drop i = suf → Ev (fun k => rank_Rises.l0 k l c (l.length : Int) (i : Int)) (upsW (l.take i) suf c, 0)
  | [], i, c, h => by
    have hj := drop_endI h
    exact Ev.succ (Ev.const _) (fun k => by rw [rank_Rises.l0, if_neg (by omega)]; rfl)
  | x :: suf, i, c, h => by
    obtain ⟨hi, hx, hd, ht⟩ := drop_atI h
    have ih := rise_l0 l hl suf (i + 1) (upW x c (l.take i)) hd
    rw [ht] at ih
    refine Ev.succ (rise_l1 l hl i x hi hx i 0 c (by omega) ih) (fun k => ?_)
    rw [rank_Rises.l0, if_pos (by omega)]
    rfl
theorem rrise_l0 (l : List Int) (hl : l.length ≤ 1000) : ∀ (suf : List Int) (i : Nat) (c : Int), l.drop i = suf → Ev (fun k => spileref33_Rises.l0 k l c (i : Int)) (upsW (l.take i) suf c, 0)
  | [], i, c, h => by
    have hj := drop_endI h
    exact Ev.succ (Ev.const _) (fun k => by rw [spileref33_Rises.l0, if_neg (by omega)]; rfl)
  | x :: suf, i, c, h => by
    obtain ⟨hi, hx, hd, ht⟩ := drop_atI h
    have ih := rrise_l0 l hl suf (i + 1) (upW x c (l.take i)) hd
    rw [ht] at ih
    refine Ev.succ (rrise_l1 l hl i x hi hx i 0 c (by omega) ih) (fun k => ?_)
    rw [spileref33_Rises.l0, if_pos (by omega)]
    rfl
/-! ### quantiles -/
def quantE (l : List Int) (p q : Int) : Int × Int := if ftE l = 0 then (if 1 ≤ q ∧ q ≤ 1000 ∧ 0 ≤ p ∧ p ≤ q then (rd (srt l) (plc l.length p q - 1), 0) else (0, 2)) else (0, ftE l)
theorem quant_ev (l : List Int) (p q : Int) : Ev (fun k => rank_Quantile.f k l p q) (quantE l p q) := by
  unfold quantE rank_Quantile.f
  by_cases hf : ftE l = 0
  · rw [if_pos hf]
    refine Ev.bind (g := fun _ => rank_Sorted.f l) (r := (srt l, 0)) ⟨0, fun _ _ => by unfold rank_Sorted.f; rw [if_pos hf]⟩ ?_
    simp only [if_true]
    have bad : Ev (fun k => rank_Quantile.j0 k p q (srt l) true) (0, 2) := Ev.succ (Ev.const _) (fun k => by rw [rank_Quantile.j0, if_pos rfl])
    by_cases hpq : 1 ≤ q ∧ q ≤ 1000 ∧ 0 ≤ p ∧ p ≤ q
    · rw [if_pos hpq]
      obtain ⟨q1, q2, p1, p2⟩ := hpq
      have h0 := (ft_ok hf).1
      have h64 := (ft_ok hf).2.1
      have hsl := srt_len l
      obtain ⟨f1, f2, f3, f4, f5, f6, f7⟩ := plc_facts h0 (by omega) ⟨q1, q2⟩ ⟨p1, p2⟩
      have hw : wrap64 (plc l.length p q - 1) = plc l.length p q - 1 := by unfold wrap64; omega
      simp only [if_neg (show ¬ q < 1 by omega), if_neg (show ¬ q > 1000 by omega), if_neg (show ¬ p < 0 by omega), decide_eq_false (show ¬ p > q by omega)]
      refine Ev.shift ?_
      simp only [rank_Quantile.j0, Bool.false_eq_true, if_false, if_neg (show ¬ q = 0 by omega), hsl, f5, hw]
      simp only [if_pos (show 0 ≤ plc l.length p q - 1 by omega), if_pos (show plc l.length p q - 1 < (l.length : Int) by omega)]
      exact Ev.const _
    · rw [if_neg hpq]
      by_cases g1 : q < 1
      · simp only [if_pos g1]; exact bad
      · simp only [if_neg g1]
        by_cases g2 : q > 1000
        · simp only [if_pos g2]; exact bad
        · simp only [if_neg g2]
          by_cases g3 : p < 0
          · simp only [if_pos g3]; exact bad
          · simp only [if_neg g3]
            rw [decide_eq_true (show p > q by omega)]
            exact bad
  · rw [if_neg hf]
    refine Ev.bind (g := fun _ => rank_Sorted.f l) (r := ([], ftE l)) ⟨0, fun _ _ => by unfold rank_Sorted.f; rw [if_neg hf]⟩ ?_
    simp only [if_neg hf]
    exact Ev.const _
theorem rquant_l0 (l : List Int) (p q : Int) (h0 : 0 < l.length) (hl : l.length ≤ 64) (hq : 1 ≤ q ∧ q ≤ 1000) (hp : 0 ≤ p ∧ p ≤ q) (m : Nat) : ∀ i : Int, 1 ≤ i → i + m = plc l.length p q → Ev (fun k => spileref33_Quantile.l0 k l p q i) (rd (srt l) (plc l.length p q - 1), 0) := by
  obtain ⟨f1, f2, f3, f4, f5, f6, f7⟩ := plc_facts h0 (by omega) hq hp
  have hsl := srt_len l
  have w3 : wrap64 ((l.length : Int) * p) = l.length * p := by generalize (l.length : Int) * p = z at f6 f7; unfold wrap64; omega
  have w1 : ∀ i : Int, 1 ≤ i → i ≤ plc l.length p q → wrap64 (i * q) = i * q := fun i h1 h2 => by
    have a1 : 0 ≤ i * q := Int.mul_nonneg (by omega) (by omega)
    have a2 : i * q ≤ 64 * 1000 := Int.mul_le_mul (by omega) (by omega) (by omega) (by omega)
    generalize i * q = z at a1 a2
    unfold wrap64
    omega
  induction m with
  | zero =>
    intro i hi hm
    have e : i = plc l.length p q := by omega
    have hw : wrap64 (plc l.length p q - 1) = plc l.length p q - 1 := by unfold wrap64; omega
    subst e
    refine Ev.shift ?_
    simp only [spileref33_Quantile.l0, w3, w1 _ hi (Int.le_refl _), if_neg (show ¬ plc l.length p q * q < (l.length : Int) * p by omega)]
    refine Ev.bind (sorted_ev l (by omega)) ?_
    simp only [hw, hsl, if_pos (show 0 ≤ plc l.length p q - 1 by omega), if_pos (show plc l.length p q - 1 < (l.length : Int) by omega)]
    exact Ev.const _
  | succ m ih =>
    intro i hi hm
    have hc : i * q < (l.length : Int) * p := by
      have a : i * q ≤ (plc l.length p q - 1) * q := Int.mul_le_mul_of_nonneg_right (by omega) (by omega)
      omega
    have hwi : wrap64 (i + 1) = i + 1 := by unfold wrap64; omega
    refine Ev.succ (ih (i + 1) (by omega) (by omega)) (fun k => ?_)
    rw [spileref33_Quantile.l0, w3, w1 i hi (by omega), if_pos hc, hwi]
theorem rquant_ev (l : List Int) (p q : Int) : Ev (fun k => spileref33_Quantile.f k l p q) (quantE l p q) := by
  unfold quantE spileref33_Quantile.f
  refine Ev.bind (check_ev l) ?_
  by_cases hf : ftE l = 0
  · rw [if_pos hf]
    simp only [if_pos hf]
    have bad : Ev (fun k => spileref33_Quantile.j0 k l p q true) (0, 2) := Ev.succ (Ev.const _) (fun k => by rw [spileref33_Quantile.j0, if_pos rfl])
    by_cases hpq : 1 ≤ q ∧ q ≤ 1000 ∧ 0 ≤ p ∧ p ≤ q
    · rw [if_pos hpq]
      obtain ⟨q1, q2, p1, p2⟩ := hpq
      have h0 := (ft_ok hf).1
      have h64 := (ft_ok hf).2.1
      obtain ⟨f1, _⟩ := plc_facts h0 (by omega) ⟨q1, q2⟩ ⟨p1, p2⟩
      simp only [if_neg (show ¬ q < 1 by omega), if_neg (show ¬ q > 1000 by omega), if_neg (show ¬ p < 0 by omega), decide_eq_false (show ¬ p > q by omega)]
      refine Ev.succ (rquant_l0 l p q h0 h64 ⟨q1, q2⟩ ⟨p1, p2⟩ (plc l.length p q - 1).toNat 1 (Int.le_refl _) (by omega)) (fun k => ?_)
      rw [spileref33_Quantile.j0, if_neg (by simp)]
    · rw [if_neg hpq]
      by_cases g1 : q < 1
      · simp only [if_pos g1]; exact bad
      · simp only [if_neg g1]
        by_cases g2 : q > 1000
        · simp only [if_pos g2]; exact bad
        · simp only [if_neg g2]
          by_cases g3 : p < 0
          · simp only [if_pos g3]; exact bad
          · simp only [if_neg g3]
            rw [decide_eq_true (show p > q by omega)]
            exact bad
  · rw [if_neg hf]
    simp only [if_neg hf]
    exact Ev.const _
/-! ### two lists are the same -/
theorem same_l0 (l : List Int) (hl : l.length ≤ 1000) : ∀ (suf : List Int) (i : Nat), l.drop i = suf → Ev (fun k => spileref33_Same.l0 k l l (i : Int)) true
  | [], i, h => by
    have hj := drop_endI h
    exact Ev.succ (Ev.const _) (fun k => by rw [spileref33_Same.l0, if_neg (by omega)])
  | x :: suf, i, h => by
    obtain ⟨hi, hx, hd, ht⟩ := drop_atI h
    refine Ev.succ (same_l0 l hl suf (i + 1) hd) (fun k => ?_)
    rw [spileref33_Same.l0, if_pos (by omega), if_pos (by omega), if_pos (by omega), if_pos rfl, wrap_up (by omega)]
theorem same_ev (l : List Int) (hl : l.length ≤ 1000) : Ev (fun k => spileref33_Same.f k l l) true := by
  unfold spileref33_Same.f
  simp only [if_true]
  exact same_l0 l hl l 0 rfl
def sortE (l : List Int) : List Int × Int := if ftE l = 0 then (srt l, 0) else ([], ftE l)
def ranksE (l : List Int) : List Int × Int := if ftE l = 0 then (l.map (rk l), 0) else ([], ftE l)
def risesE (l : List Int) : Int × Int := if ftE l = 0 then (upsW [] l 0, 0) else (0, ftE l)
theorem rsort_ev (l : List Int) : Ev (fun k => spileref33_Sorted.f k l) (sortE l) := by
  unfold spileref33_Sorted.f sortE
  refine Ev.bind (check_ev l) ?_
  by_cases hf : ftE l = 0
  · simp only [if_pos hf]
    exact Ev.bind (sorted_ev l (by have := (ft_ok hf).2.1; omega)) (Ev.const _)
  · simp only [if_neg hf]
    exact Ev.const _
theorem Ranks_ev (l : List Int) : Ev (fun k => rank_Ranks.f k l) (ranksE l) := by
  unfold rank_Ranks.f ranksE
  refine Ev.bind (fault_ev l) ?_
  by_cases hf : ftE l = 0
  · simp only [if_pos hf]
    exact Ev.bind (ranks_ev l l (by have := (ft_ok hf).2.1; omega) (by have := (ft_ok hf).2.1; omega)) (Ev.const _)
  · simp only [if_neg hf]
    exact Ev.const _
theorem rRanks_ev (l : List Int) : Ev (fun k => spileref33_Ranks.f k l) (ranksE l) := by
  unfold spileref33_Ranks.f ranksE
  refine Ev.bind (check_ev l) ?_
  by_cases hf : ftE l = 0
  · simp only [if_pos hf]
    exact Ev.bind (rranks_ev l (by have := (ft_ok hf).2.1; omega)) (Ev.const _)
  · simp only [if_neg hf]
    exact Ev.const _
theorem rises_ev (l : List Int) : Ev (fun k => rank_Rises.f k l) (risesE l) := by
  unfold rank_Rises.f risesE
  refine Ev.bind (fault_ev l) ?_
  by_cases hf : ftE l = 0
  · simp only [if_pos hf]
    exact rise_l0 l (by have := (ft_ok hf).2.1; omega) l 0 0 rfl
  · simp only [if_neg hf]
    exact Ev.const _
theorem rrises_ev (l : List Int) : Ev (fun k => spileref33_Rises.f k l) (risesE l) := by
  unfold spileref33_Rises.f risesE
  refine Ev.bind (check_ev l) ?_
  by_cases hf : ftE l = 0
  · simp only [if_pos hf]
    exact rrise_l0 l (by have := (ft_ok hf).2.1; omega) l 0 0 rfl
  · simp only [if_neg hf]
    exact Ev.const _
theorem few_cases (l : List Int) : (spileref33_Few.f l = some true ∧ (l.length ≤ 12 ∨ l.length = 65)) ∨ spileref33_Few.f l = some false := by
  unfold spileref33_Few.f
  by_cases c : (l.length : Int) ≤ 12
  · rw [if_pos c]
    exact .inl ⟨rfl, by omega⟩
  · rw [if_neg c]
    by_cases c2 : l.length = 65
    · exact .inl ⟨by rw [c2]; rfl, .inr c2⟩
    · refine .inr ?_
      rw [beq_eq_false_iff_ne.mpr (by omega)]
theorem RankSortsPure : spilelaw33_RankSorts.Pure := by
  intro l p q _ _ _ _ _
  refine Ev.one ?_
  unfold spilelaw33_RankSorts.f
  refine Ev.bind awake_ev ?_
  simp only [if_true]
  rcases few_cases l with ⟨hF, hlen⟩ | hF
  · refine Ev.bind (g := fun _ => spileref33_Few.f l) (r := true) ⟨0, fun _ _ => hF⟩ ?_
    simp only [if_true]
    have hcl : Ev (fun _ => clone14.f l) l := ⟨0, fun _ _ => by unfold clone14.f; rw [if_pos (by omega)]⟩
    have hs : (sortE l).1.length ≤ 1000 := by
      unfold sortE
      split
      · rw [srt_len]; omega
      · simp
    have hr : (ranksE l).1.length ≤ 1000 := by
      unfold ranksE
      split
      · rw [List.length_map]; omega
      · simp
    refine Ev.bind hcl ?_
    refine Ev.bind (g := fun _ => rank_Sorted.f l) (r := sortE l) ⟨0, fun _ _ => rfl⟩ ?_
    refine Ev.bind (rsort_ev l) ?_
    refine Ev.bind hcl ?_
    refine Ev.bind (quant_ev l p q) ?_
    refine Ev.bind (rquant_ev l p q) ?_
    refine Ev.bind hcl ?_
    refine Ev.bind (Ranks_ev l) ?_
    refine Ev.bind (rRanks_ev l) ?_
    refine Ev.bind hcl ?_
    refine Ev.bind (rises_ev l) ?_
    refine Ev.bind (rrises_ev l) ?_
    refine Ev.bind (same_ev _ hs) ?_
    simp only [if_true]
    refine Ev.bind (same_ev _ hr) ?_
    simp only [if_true]
    exact Ev.congr (Ev.const true) (fun k => by simp)
  · refine Ev.bind (g := fun _ => spileref33_Few.f l) (r := false) ⟨0, fun _ _ => hF⟩ ?_
    simp only [Bool.false_eq_true, if_false]
    exact Ev.const _
end Go.Proofs.Ytbkoghmbacdiiaa.K
namespace Go.Proofs.Ytbkoghmbacdiiaa.Pure
theorem RankSorts : K.spilelaw33_RankSorts.Pure := K.RankSortsPure
end Go.Proofs.Ytbkoghmbacdiiaa.Pure
