import Derived.Test.YtbkoghmbacdiiaaPOrders
import Derived.Test.YtbkoghmbacdiiaaK15
import Derived.Test.YtbkoghmbacdiiaaK14
import Derived.Test.YtbkoghmbacdiiaaK17a
import Derived.Test.YtbkoghmbacdiiaaPCount
import Derived.Lib.SlicesCompact
import Derived.Test.YtbkoghmbacdiiaaK13
import Derived.Test.YtbkoghmbacdiiaaPRank
import Derived.Test.YtbkoghmbacdiiaaGRank
import Derived.Test.YtbkoghmbacdiiaaK20
/- By hand: how many ways there are to choose, by the reference; the total of numbers. -/
namespace Go.Proofs.Ytbkoghmbacdiiaa.K
open Go Go.RowKit Go.Proofs.YtbkoghmbacdiiaaW.PrintWords
set_option linter.unusedVariables false
set_option linter.unusedSimpArgs false
def chW : Nat → Nat → Int
  | 0, 0 => 1
  | 0, _ + 1 => 0
  | _ + 1, 0 => 1
  | n + 1, k + 1 => wrap64 (chW n (k + 1) + chW n k)
theorem chW_zero (n : Nat) : chW n 0 = 1 := by cases n <;> rfl
theorem chW_gt : ∀ (n t : Nat), n < t → chW n t = 0
  | 0, 0, h => by omega
  | 0, t + 1, _ => rfl
  | n + 1, 0, h => by omega
  | n + 1, t + 1, h => by
    show wrap64 (chW n (t + 1) + chW n t) = 0
    rw [chW_gt n (t + 1) (by omega), chW_gt n t (by omega)]
    unfold wrap64
    omega
theorem chW_self : ∀ n : Nat, chW n n = 1
  | 0 => rfl
  | n + 1 => by
    show wrap64 (chW n (n + 1) + chW n n) = 1
    rw [chW_gt n (n + 1) (by omega), chW_self n]
    unfold wrap64
    omega
theorem rd_set (X : List Int) (p t : Nat) (v : Int) (hp : p < X.length) : rd (X.set p v) (t : Int) = if t = p then v else rd X (t : Int) := by
  unfold rd
  simp only [Int.toNat_natCast, List.getD_eq_getElem?_getD, List.getElem?_set]
  by_cases h : t = p
  · subst h
    simp [hp]
  · rw [if_neg h, if_neg (fun e => h e.symm)]
theorem rd_range (f : Nat → Int) (m t : Nat) (h : t < m) : rd ((List.range m).map f) (t : Int) = f t := by
  unfold rd
  simp [List.getD_eq_getElem?_getD, h]
section
variable {n r : Nat} {R : Int}
theorem rw_l1 (i : Nat) (hi : 1 ≤ i) (hi2 : i ≤ 60) (hN : Ev (fun k => spileref33_ways.l0 k (n : Int) (r : Int) ((List.range (i + 1)).map (chW i)) ((i + 1 : Nat) : Int)) R) (m : Nat) :
    ∀ j : Nat, 1 ≤ j → j + m = i → Ev (fun k => spileref33_ways.l1 k (n : Int) (r : Int) ((List.range i).map (chW (i - 1))) (i : Int) ((List.range j).map (chW i)) (j : Int)) R := by
  induction m with
  | zero =>
    intro j hj hm
    have e : j = i := by omega
    subst e
    refine Ev.succ hN (fun k => ?_)
    rw [spileref33_ways.l1, if_neg (by omega), if_pos (by simp; omega), wrap_up (by omega), List.range_succ, List.map_append, List.map_cons, List.map_nil, chW_self]
  | succ m ih =>
    intro j hj hm
    have hw : wrap64 ((j : Int) - 1) = ((j - 1 : Nat) : Int) := by unfold wrap64; omega
    have hl : ((List.range i).map (chW (i - 1))).length = i := by simp
    have hv : wrap64 (rd ((List.range i).map (chW (i - 1))) ((j - 1 : Nat) : Int) + rd ((List.range i).map (chW (i - 1))) (j : Int)) = chW i j := by
      rw [rd_range _ _ _ (by omega), rd_range _ _ _ (by omega)]
      obtain ⟨a, rfl⟩ : ∃ a, i = a + 1 := ⟨i - 1, by omega⟩
      obtain ⟨b, rfl⟩ : ∃ b, j = b + 1 := ⟨j - 1, by omega⟩
      show wrap64 (chW a b + chW a (b + 1)) = wrap64 (chW a (b + 1) + chW a b)
      rw [Int.add_comm]
    refine Ev.succ (ih (j + 1) (by omega) (by omega)) (fun k => ?_)
    rw [spileref33_ways.l1, if_pos (by omega), hw, if_pos (by omega), if_pos (by omega), if_pos (by omega), if_pos (by omega), if_pos (by simp; omega), hv, wrap_up (by omega), List.range_succ, List.map_append, List.map_cons, List.map_nil]
theorem rw_l0 (hn : n ≤ 60) (hr : r ≤ n) (m : Nat) : ∀ i : Nat, i + m = n → Ev (fun k => spileref33_ways.l0 k (n : Int) (r : Int) ((List.range (i + 1)).map (chW i)) ((i + 1 : Nat) : Int)) (chW n r) := by
  induction m with
  | zero =>
    intro i hi
    have e : i = n := by omega
    subst e
    refine Ev.succ (Ev.const _) (fun k => ?_)
    rw [spileref33_ways.l0, if_neg (by omega), if_pos (by omega), if_pos (by simp; omega), rd_range _ _ _ (by omega)]
  | succ m ih =>
    intro i hi
    have h := rw_l1 (n := n) (r := r) (R := chW n r) (i + 1) (by omega) (by omega) (ih (i + 1) (by omega)) i 1 (Nat.le_refl _) (by omega)
    refine Ev.succ h (fun k => ?_)
    rw [spileref33_ways.l0, if_pos (by omega)]
    rfl
end
theorem tot_l0 {X : List Int} (hl : X.length ≤ 1000) : ∀ (L : List Int) (p : Nat) (s : Int), X.drop p = L → Ev (fun k => spileref33_total.l0 k X s (p : Int)) (sumW s L)
  | [], p, s, hd => by
    have := drop_endI hd
    refine Ev.succ (Ev.const _) (fun k => ?_)
    rw [spileref33_total.l0, if_neg (by omega)]
    rfl
  | c :: L, p, s, hd => by
    obtain ⟨hp, hx, hd2, _⟩ := drop_atI hd
    have ih := tot_l0 hl L (p + 1) (wrap64 (s + c)) hd2
    refine Ev.succ ih (fun k => ?_)
    rw [spileref33_total.l0, if_pos (by omega), if_pos (by omega), hx, wrap_up (by omega)]
theorem tot_ev {X : List Int} (hl : X.length ≤ 1000) : Ev (fun k => spileref33_total.f k X) (sumW 0 X) := tot_l0 hl X 0 0 rfl
end Go.Proofs.Ytbkoghmbacdiiaa.K
/- By hand: the binomial numbers, and that all choices of so many numbers are as many. -/
namespace Go.Proofs.Ytbkoghmbacdiiaa.K
open Go Go.RowKit Go.Proofs.YtbkoghmbacdiiaaW.PrintWords
set_option linter.unusedVariables false
set_option linter.unusedSimpArgs false
def bn : Nat → Nat → Nat
  | 0, 0 => 1
  | 0, _ + 1 => 0
  | _ + 1, 0 => 1
  | n + 1, k + 1 => bn n (k + 1) + bn n k
theorem bn_zero (n : Nat) : bn n 0 = 1 := by cases n <;> rfl
theorem bn_le : ∀ n k : Nat, bn n k ≤ 2 ^ n
  | 0, 0 => by decide
  | 0, k + 1 => by simp [bn]
  | n + 1, 0 => by rw [bn_zero]; exact Nat.one_le_two_pow
  | n + 1, k + 1 => by
    have h1 := bn_le n (k + 1)
    have h2 := bn_le n k
    rw [bn, Nat.pow_succ]
    omega
theorem chW_bn : ∀ n k : Nat, n ≤ 60 → chW n k = (bn n k : Int)
  | 0, 0, _ => rfl
  | 0, k + 1, _ => rfl
  | n + 1, 0, _ => by rw [chW_zero, bn_zero]; rfl
  | n + 1, k + 1, h => by
    have h1 := bn_le n (k + 1)
    have h2 := bn_le n k
    have h3 : 2 ^ n ≤ 2 ^ 60 := Nat.pow_le_pow_right (by omega) (by omega)
    have h4 : (2 : Nat) ^ 60 = 1152921504606846976 := by decide
    show wrap64 (chW n (k + 1) + chW n k) = _
    rw [chW_bn n (k + 1) (by omega), chW_bn n k (by omega), bn]
    push_cast
    generalize bn n (k + 1) = a at h1
    generalize bn n k = b at h2
    unfold wrap64
    omega
theorem sumR_zero (f : Int → Int) : ∀ n : Nat, (∀ t : Int, 0 ≤ t → t < n → f t = 0) → sumR f n = 0
  | 0, _ => rfl
  | n + 1, h => by
    rw [show sumR f (n + 1) = sumR f n + f n from rfl, sumR_zero f n (fun t h0 h1 => h t h0 (by omega)), h n (by omega) (by omega)]
    rfl
theorem sumR_sum (f g : Int → Int) : ∀ n : Nat, sumR (fun t => f t + g t) n = sumR f n + sumR g n
  | 0 => rfl
  | n + 1 => by
    have ih := sumR_sum f g n
    rw [show sumR (fun t => f t + g t) (n + 1) = sumR (fun t => f t + g t) n + (f n + g n) from rfl, show sumR f (n + 1) = sumR f n + f n from rfl, show sumR g (n + 1) = sumR g n + g n from rfl, ih]
    omega
theorem sumR_shift (f : Int → Int) (r : Nat) (h : ∀ t : Int, t < 0 → f t = 0) : ∀ M : Nat, sumR (fun t => f (t - r)) (r + M) = sumR f M
  | 0 => by
    rw [Nat.add_zero]
    exact sumR_zero _ r (fun t h0 h1 => h _ (by omega))
  | M + 1 => by
    have ih := sumR_shift f r h M
    rw [show sumR (fun t => f (t - r)) (r + (M + 1)) = sumR (fun t => f (t - r)) (r + M) + f (((r + M : Nat) : Int) - r) from rfl, ih, show ((r + M : Nat) : Int) - r = M by omega]
    rfl
theorem tot_step {n : Nat} {C : Nat → Int → Nat} (hB : CB n C) (hn : n ≤ 23) {r : Int} (h0 : 0 ≤ r) (h1 : r ≤ 100) (p : Nat) :
    wAll (p + 1) (stepC r C) = wAll (p + 1) C + wAll p C := by
  obtain ⟨q, rfl⟩ : ∃ q : Nat, r = (q : Int) := ⟨r.toNat, by omega⟩
  have hz : ∀ t : Int, t < 0 ∨ 2400 ≤ t → (C p t : Int) = 0 := fun t ht => by
    have := hB.pos p t
    omega
  have e1 : wAll (p + 1) (stepC (q : Int) C) = sumR (fun t => (C (p + 1) t : Int) + (C p (t - q) : Int)) 3000 := by
    unfold wAll
    exact sumR_congr 3000 (fun t _ _ => by unfold stepC; push_cast; rfl)
  have e2 := sumR_shift (fun t => (C p t : Int)) q (fun t ht => hz t (.inl ht)) (3000 - q)
  rw [show q + (3000 - q) = 3000 by omega] at e2
  have e3 := sumR_cut (fun t => (C p t : Int)) (3000 - q) 3000 (by omega) (fun t ht => hz t (.inr (by omega)))
  rw [e1, sumR_sum, e2, ← e3]
  rfl
theorem tot_zero {n : Nat} {C : Nat → Int → Nat} (r : Int) : wAll 0 (stepC r C) = wAll 0 C := by
  unfold wAll
  exact sumR_congr 3000 (fun t _ _ => by unfold stepC; simp)
theorem tot_C0 : ∀ p : Nat, wAll p C0 = (bn 0 p : Int)
  | 0 => by
    unfold wAll
    rw [sumR_cut _ 1 3000 (by omega) (fun t ht => by unfold C0; rw [if_neg (by omega)]; rfl)]
    rfl
  | p + 1 => by
    unfold wAll
    rw [sumR_zero _ 3000 (fun t _ _ => by unfold C0; rw [if_neg (by omega)]; rfl)]
    rfl
/-- All choices of p of the numbers R. -/
theorem tot_bn (R : List Int) (h : ∀ r ∈ R, 0 ≤ r ∧ r ≤ 100) (hR : R.length ≤ 24) : ∀ i : Nat, i ≤ R.length → ∀ p : Nat, wAll p (cntL (R.take i)) = (bn i p : Int)
  | 0, _, p => by rw [List.take_zero]; exact tot_C0 p
  | i + 1, hi, p => by
    have ih := tot_bn R h hR i (by omega)
    have hB := cntL_bd R h i (by omega)
    have hr := h R[i] (List.getElem_mem _)
    rw [← List.take_append_getElem (show i < R.length by omega), cntL_snoc]
    cases p with
    | zero => rw [tot_zero (n := i), ih 0, bn_zero, bn_zero]
    | succ p =>
      rw [tot_step hB (by omega) hr.1 hr.2, ih, ih, bn]
      push_cast
      rfl
end Go.Proofs.Ytbkoghmbacdiiaa.K
/- By hand: rank.Ways in plain words. -/
namespace Go.Proofs.Ytbkoghmbacdiiaa.K
open Go Go.RowKit Go.Proofs.YtbkoghmbacdiiaaW.PrintWords
set_option linter.unusedVariables false
set_option linter.unusedSimpArgs false
/-! ### Ways -/
section
variable {n r : Nat} {R : Int × Int}
theorem ways_l1 (i : Nat) (hi : i < n) (hn : n ≤ 60) (hN : ∀ Y : List Int, Y.length = n + 1 → (∀ t : Nat, t ≤ n → rd Y (t : Int) = chW (i + 1) t) → Ev (fun k => rank_Ways.l0 k (r : Int) Y (n : Int) ((i + 1 : Nat) : Int)) R) (j : Nat) :
    ∀ X : List Int, j ≤ i + 1 → X.length = n + 1 → (∀ t : Nat, t ≤ n → rd X (t : Int) = if t ≤ j then chW i t else chW (i + 1) t) → Ev (fun k => rank_Ways.l1 k (r : Int) X (j : Int) (n : Int) (i : Int)) R := by
  induction j with
  | zero =>
    intro X hj hX hv
    have h := hN X hX (fun t ht => by
      rw [hv t ht]
      by_cases c : t ≤ 0
      · have e : t = 0 := by omega
        rw [if_pos c, e, chW_zero, chW_zero]
      · rw [if_neg c])
    refine Ev.succ h (fun k => ?_)
    rw [rank_Ways.l1, if_neg (by omega), wrap_up (by omega)]
  | succ j ih =>
    intro X hj hX hv
    have hw : wrap64 (((j + 1 : Nat) : Int) - 1) = (j : Int) := by unfold wrap64; omega
    have e1 : rd X ((j + 1 : Nat) : Int) = chW i (j + 1) := by rw [hv (j + 1) (by omega), if_pos (Nat.le_refl _)]
    have e2 : rd X (j : Int) = chW i j := by rw [hv j (by omega), if_pos (by omega)]
    have h := ih (X.set (j + 1) (wrap64 (rd X ((j + 1 : Nat) : Int) + rd X (j : Int)))) (by omega) (by simpa using hX) (fun t ht => by
      rw [rd_set _ _ _ _ (by omega)]
      by_cases c : t = j + 1
      · rw [if_pos c, if_neg (by omega), c, e1, e2]
        rfl
      · rw [if_neg c, hv t ht]
        by_cases c2 : t ≤ j
        · rw [if_pos (by omega), if_pos c2]
        · rw [if_neg (by omega), if_neg c2])
    refine Ev.succ h (fun k => ?_)
    rw [rank_Ways.l1, if_pos (by omega), if_pos (by omega), if_pos (by omega), hw, if_pos (by omega), if_pos (by omega), Int.toNat_natCast]
theorem ways_l0 (hn : n ≤ 60) (hr : r ≤ n) (m : Nat) : ∀ (i : Nat) (X : List Int), i + m = n → X.length = n + 1 → (∀ t : Nat, t ≤ n → rd X (t : Int) = chW i t) → Ev (fun k => rank_Ways.l0 k (r : Int) X (n : Int) (i : Int)) (chW n r, 0) := by
  induction m with
  | zero =>
    intro i X hi hX hv
    have e : i = n := by omega
    refine Ev.succ (Ev.const _) (fun k => ?_)
    rw [rank_Ways.l0, if_neg (by omega), if_pos (by omega), if_pos (by omega), hv r hr, e]
  | succ m ih =>
    intro i X hi hX hv
    have h := ways_l1 (r := r) (R := (chW n r, 0)) i (by omega) hn (fun Y hY hv2 => ih (i + 1) Y (by omega) hY hv2) (i + 1) X (Nat.le_refl _) hX (fun t ht => by
      rw [hv t ht]
      by_cases c : t ≤ i + 1
      · rw [if_pos c]
      · rw [if_neg c, chW_gt i t (by omega), chW_gt (i + 1) t (by omega)])
    refine Ev.succ h (fun k => ?_)
    rw [rank_Ways.l0, if_pos (by omega), wrap_up (by omega)]
end
def wayE (n r : Int) : Int × Int := if 0 ≤ n ∧ n ≤ 60 ∧ 0 ≤ r ∧ r ≤ n then (chW n.toNat r.toNat, 0) else (0, 2)
theorem ways_ev (n r : Int) : Ev (fun k => rank_Ways.f k n r) (wayE n r) := by
  have bad : Ev (fun k => rank_Ways.j0 k n r true) (0, 2) := Ev.succ (Ev.const _) (fun k => by rw [rank_Ways.j0, if_pos rfl])
  by_cases h : 0 ≤ n ∧ n ≤ 60 ∧ 0 ≤ r ∧ r ≤ n
  · obtain ⟨a, rfl⟩ : ∃ a : Nat, n = (a : Int) := ⟨n.toNat, by omega⟩
    obtain ⟨b, rfl⟩ : ∃ b : Nat, r = (b : Int) := ⟨r.toNat, by omega⟩
    rw [show wayE (a : Int) (b : Int) = (chW a b, 0) by unfold wayE; rw [if_pos h]; rfl]
    unfold rank_Ways.f
    simp only [if_neg (show ¬ (a : Int) < 0 by omega), if_neg (show ¬ (a : Int) > 60 by omega), if_neg (show ¬ (b : Int) < 0 by omega), decide_eq_false (show ¬ (b : Int) > (a : Int) by omega)]
    have hl : (List.replicate (a + 1) (0 : Int)).length = a + 1 := List.length_replicate
    have h0 := ways_l0 (n := a) (r := b) (by omega) (by omega) a 0 ((List.replicate (a + 1) 0).set 0 1) (by omega) (by rw [List.length_set, hl]) (fun t ht => by
      rw [rd_set _ _ _ _ (by rw [hl]; omega)]
      by_cases c : t = 0
      · rw [if_pos c, c]
        rfl
      · rw [if_neg c, chW_gt 0 t (by omega)]
        unfold rd
        simp only [Int.toNat_natCast, List.getD_eq_getElem?_getD, List.getElem?_replicate]
        rw [if_pos (by omega)]
        rfl)
    have hw : wrap64 ((a : Int) + 1) = ((a + 1 : Nat) : Int) := wrap_up (by omega)
    refine Ev.succ h0 (fun k => ?_)
    rw [rank_Ways.j0, if_neg (by simp), hw, if_pos (by omega), Int.toNat_natCast, if_pos (by omega), Option.bind_some, if_pos (by rw [hl]; omega)]
    rfl
  · rw [show wayE n r = (0, 2) by unfold wayE; rw [if_neg h]]
    unfold rank_Ways.f
    by_cases h1 : n < 0
    · simp only [if_pos h1]; exact bad
    · simp only [if_neg h1]
      by_cases h2 : n > 60
      · simp only [if_pos h2]; exact bad
      · simp only [if_neg h2]
        by_cases h3 : r < 0
        · simp only [if_pos h3]; exact bad
        · simp only [if_neg h3]
          rw [decide_eq_true (show r > n by omega)]
          exact bad
end Go.Proofs.Ytbkoghmbacdiiaa.K
/- By hand: what is counted by choices: each choice once, whatever the order of the numbers; the statistic against them. -/
namespace Go.Proofs.Ytbkoghmbacdiiaa.K
open Go Go.RowKit Go.Proofs.YtbkoghmbacdiiaaW.PrintWords
set_option linter.unusedVariables false
set_option linter.unusedSimpArgs false
theorem stepC_comm (r q : Int) (C : Nat → Int → Nat) : stepC r (stepC q C) = stepC q (stepC r C) := by
  funext p t
  unfold stepC
  match p with
  | 0 => rfl
  | 1 => simp only; omega
  | p + 2 =>
    simp only
    rw [show t - r - q = t - q - r by omega]
    omega
theorem cntL_perm {R S : List Int} (h : R.Perm S) : cntL R = cntL S := by
  unfold cntL
  exact h.foldl_eq' (fun x _ y _ C => stepC_comm _ _ C) C0
theorem cntL_cons (x : Int) (R : List Int) : cntL (x :: R) = stepC x (cntL R) := by
  rw [cntL_perm (List.perm_append_singleton x R).symm, cntL_snoc]
theorem cnt_pos {S R : List Int} (h : S.Sublist R) : 0 < cntL R S.length (isum S) := by
  induction h with
  | slnil => decide
  | cons a h ih =>
    rw [cntL_cons]
    unfold stepC
    omega
  | cons_cons a h ih =>
    rw [cntL_cons, List.length_cons, isum_cons]
    unfold stepC
    simp only
    rw [show a + isum _ - a = isum _ from by rw [Int.add_comm, Int.add_sub_cancel]]
    omega
theorem cnt_sub : ∀ (R : List Int) (p : Nat) (t : Int), 0 < cntL R p t → ∃ S : List Int, S.Sublist R ∧ S.length = p ∧ isum S = t
  | [], p, t, h => by
    have h : 0 < C0 p t := h
    unfold C0 at h
    split at h
    · rename_i c
      exact ⟨[], .slnil, c.1.symm, c.2.symm⟩
    · omega
  | x :: R, p, t, h => by
    rw [cntL_cons] at h
    unfold stepC at h
    by_cases c : 0 < cntL R p t
    · obtain ⟨S, h1, h2, h3⟩ := cnt_sub R p t c
      exact ⟨S, h1.cons x, h2, h3⟩
    · cases p with
      | zero => simp only at h; omega
      | succ p =>
        obtain ⟨S, h1, h2, h3⟩ := cnt_sub R p (t - x) (by simp only at h; omega)
        exact ⟨x :: S, h1.cons_cons x, by rw [List.length_cons, h2], by rw [isum_cons, h3]; omega⟩
/-! ### sums over a range -/
theorem sumR_le {f g : Int → Int} : ∀ n : Nat, (∀ t : Int, 0 ≤ t → t < n → f t ≤ g t) → sumR f n ≤ sumR g n
  | 0, _ => Int.le_refl _
  | n + 1, h => by
    have h1 := sumR_le n (fun t h0 h1 => h t h0 (by omega))
    have h2 := h n (by omega) (by omega)
    show sumR f n + f n ≤ sumR g n + g n
    omega
theorem sumR_lt {f g : Int → Int} (u : Int) (hu : f u < g u) : ∀ n : Nat, 0 ≤ u → u < n → (∀ t : Int, 0 ≤ t → t < n → f t ≤ g t) → sumR f n < sumR g n
  | 0, h0, h1, _ => by omega
  | n + 1, h0, h1, h => by
    show sumR f n + f n < sumR g n + g n
    have h3 := h n (by omega) (by omega)
    by_cases c : u < (n : Int)
    · have := sumR_lt u hu n h0 c (fun t h0 h1 => h t h0 (by omega))
      omega
    · have e : u = (n : Int) := by omega
      have := sumR_le (f := f) (g := g) n (fun t h0 h1 => h t h0 (by omega))
      rw [e] at hu
      omega
section
variable {P : Nat} {C : Nat → Int → Nat} {s s' : Int}
theorem g_le_w : gAll P C s ≤ wAll P C := sumR_le 3000 (fun t _ _ => by split <;> omega)
theorem g_mono (h : s ≤ s') : gAll P C s' ≤ gAll P C s := sumR_le 3000 (fun t _ _ => by split <;> split <;> omega)
theorem g_pos (h0 : 0 ≤ s) (h1 : s < 3000) (h : 0 < C P s) : 1 ≤ gAll P C s := by
  have hz : sumR (fun _ => (0 : Int)) 3000 = 0 := by
    have := sumR_bd (fun _ => (0 : Int)) 0 3000 (fun _ _ _ => ⟨Int.le_refl _, Int.le_refl _⟩)
    omega
  have := sumR_lt (f := fun _ => (0 : Int)) (g := fun t => if t ≥ s then (C P t : Int) else 0) s (by rw [if_pos (Int.le_refl s)]; omega) 3000 h0 h1 (fun t _ _ => by split <;> omega)
  unfold gAll
  omega
theorem g_all (h : ∀ t : Int, t < s → C P t = 0) : gAll P C s = wAll P C := sumR_congr 3000 (fun t _ _ => by
  split
  · rfl
  · rw [h t (by omega)]; rfl)
theorem g_less {t : Int} (h0 : 0 ≤ t) (h1 : t < 3000) (h : 0 < C P t) (ht : t < s) : gAll P C s < wAll P C :=
  sumR_lt t (by rw [if_neg (by omega)]; omega) 3000 h0 h1 (fun t _ _ => by split <;> omega)
end
/-! ### ranks -/
theorem rkS_mono {x y : Int} (h : x ≤ y) (m : Int) : rkS x m ≤ rkS y m := by
  unfold rkS
  split <;> split <;> (try split) <;> (try split) <;> omega
theorem isum_mono (f g : Int → Int) : ∀ l : List Int, (∀ m ∈ l, f m ≤ g m) → isum (l.map f) ≤ isum (l.map g)
  | [], _ => Int.le_refl _
  | x :: l, h => by
    have h1 := h x (by simp)
    have h2 := isum_mono f g l (fun m hm => h m (List.mem_cons_of_mem _ hm))
    rw [List.map_cons, List.map_cons, isum_cons, isum_cons]
    omega
theorem rk_mono (l : List Int) {x y : Int} (h : x ≤ y) : rk l x ≤ rk l y := by
  have := isum_mono (rkS x) (rkS y) l (fun m _ => rkS_mono h m)
  unfold rk
  omega
theorem isum_perm {a b : List Int} (h : a.Perm b) : isum a = isum b := by
  induction h with
  | nil => rfl
  | cons x _ ih => rw [isum_cons, isum_cons, ih]
  | swap x y l => rw [isum_cons, isum_cons, isum_cons, isum_cons]; omega
  | trans _ _ ih1 ih2 => rw [ih1, ih2]
theorem rk_perm {a b : List Int} (h : a.Perm b) (x : Int) : rk a x = rk b x := by
  unfold rk
  rw [isum_perm (h.map (rkS x))]
theorem rk_lt {l : List Int} {x y : Int} (hx : x ∈ l) (h : x < y) : rk l x < rk l y := by
  have e1 := rk_perm (List.perm_cons_erase hx) x
  have e2 := rk_perm (List.perm_cons_erase hx) y
  have h3 := rk_mono (l.erase x) (Int.le_of_lt h)
  have h4 : rkS x x = 1 := by unfold rkS; rw [if_neg (Int.lt_irrefl x), if_pos rfl]
  have h5 : rkS y x = 2 := by unfold rkS; rw [if_pos h]
  have c : ∀ z, rk (x :: l.erase x) z = rkS z x + rk (l.erase x) z := fun z => by
    unfold rk
    rw [List.map_cons, isum_cons]
    omega
  rw [e1, e2, c, c]
  omega
/-- The ranks of n numbers that all differ, in order. -/
def canon : Nat → List Int
  | 0 => []
  | n + 1 => 2 :: (canon n).map (2 + ·)
theorem canon_asc : ∀ l : List Int, l.Pairwise (· < ·) → l.map (rk l) = canon l.length
  | [], _ => rfl
  | x :: l, h => by
    obtain ⟨h1, h2⟩ := List.pairwise_cons.1 h
    have ih := canon_asc l h2
    have e1 : rk (x :: l) x = 2 := by
      have hz : isum (l.map (rkS x)) = 0 := by
        have := isum_bd 0 (l.map (rkS x)) (fun y hy => by
          obtain ⟨m, hm, rfl⟩ := List.mem_map.1 hy
          have := h1 m hm
          unfold rkS
          rw [if_neg (by omega), if_neg (by omega)]
          omega)
        omega
      have h4 : rkS x x = 1 := by unfold rkS; rw [if_neg (Int.lt_irrefl x), if_pos rfl]
      unfold rk
      rw [List.map_cons, isum_cons, hz, h4]
      rfl
    have e2 : l.map (rk (x :: l)) = (l.map (rk l)).map (2 + ·) := by
      rw [List.map_map]
      refine List.map_congr_left (fun y hy => ?_)
      have h5 : rkS y x = 2 := by unfold rkS; rw [if_pos (h1 y hy)]
      show rk (x :: l) y = 2 + rk l y
      unfold rk
      rw [List.map_cons, isum_cons, h5]
      omega
    rw [List.map_cons, e1, e2, ih]
    rfl
/-- Numbers of which no two are equal: their ranks are 2, 4, .. up to order. -/
theorem ranks_perm {l s : List Int} (h : s.Perm l) (hs : s.Pairwise (· < ·)) : (l.map (rk l)).Perm (canon l.length) := by
  rw [← h.length_eq, ← canon_asc s hs]
  have e : s.map (rk s) = s.map (rk l) := List.map_congr_left (fun x _ => rk_perm h x)
  rw [e]
  exact (h.map (rk l)).symm
/-! ### the statistic grows with a number -/
def dbl2 (a b : List Int) : Int := isum (a.map (fun x => isum (b.map (rkS x))))
theorem rk_app (a b : List Int) (x : Int) : rk (a ++ b) x = rk a x + isum (b.map (rkS x)) := by
  unfold rk
  rw [List.map_append, isum_append]
  omega
theorem isum_add (f g : Int → Int) : ∀ l : List Int, isum (l.map (fun x => f x + g x)) = isum (l.map f) + isum (l.map g)
  | [] => rfl
  | x :: l => by
    have := isum_add f g l
    rw [List.map_cons, List.map_cons, List.map_cons, isum_cons, isum_cons, isum_cons, this]
    omega
theorem self_cons (x : Int) (t : List Int) : isum ((x :: t).map (rk (x :: t))) = isum (t.map (rk t)) + 2 + 2 * (t.length : Int) := by
  have h4 : rkS x x = 1 := by unfold rkS; rw [if_neg (Int.lt_irrefl x), if_pos rfl]
  have e1 : ∀ z, rk (x :: t) z = rk t z + rkS z x := fun z => by
    unfold rk
    rw [List.map_cons, isum_cons]
    omega
  have e2 : t.map (rk (x :: t)) = t.map (fun z => rk t z + rkS z x) := List.map_congr_left (fun z _ => e1 z)
  have e3 : ∀ u : List Int, isum (u.map (fun z => rkS z x)) + isum (u.map (rkS x)) = 2 * (u.length : Int) := fun u => by
    induction u with
    | nil => rfl
    | cons y u ih =>
      have h5 : rkS y x + rkS x y = 2 := by
        unfold rkS
        split <;> (try split) <;> (try split) <;> (try split) <;> omega
      rw [List.map_cons, List.map_cons, isum_cons, isum_cons, List.length_cons]
      push_cast
      omega
  have e4 := e3 t
  rw [List.map_cons, isum_cons, e1, h4, e2, isum_add]
  unfold rk at *
  omega
theorem self_eq : ∀ {a c : List Int}, a.length = c.length → isum (a.map (rk a)) = isum (c.map (rk c))
  | [], [], _ => rfl
  | x :: a, y :: c, h => by
    have h : a.length = c.length := by simpa using h
    rw [self_cons, self_cons, self_eq h, h]
  | [], _ :: _, h => by simp at h
  | _ :: _, [], h => by simp at h
theorem stat_split (a b : List Int) : statL a b = isum (a.map (rk a)) + isum (a.map (fun x => isum (b.map (rkS x)))) := by
  unfold statL
  rw [← isum_add]
  exact congrArg isum (List.map_congr_left (fun x _ => rk_app a b x))
theorem stat_grows (b : List Int) : ∀ (a : List Int) (i : Nat) (y : Int) (h : i < a.length), a[i] ≤ y → isum (a.map (fun x => isum (b.map (rkS x)))) ≤ isum ((a.set i y).map (fun x => isum (b.map (rkS x))))
  | [], i, y, h, _ => by simp at h
  | x :: a, 0, y, _, hy => by
    have := isum_mono (rkS x) (rkS y) b (fun m _ => rkS_mono hy m)
    rw [List.set_cons_zero, List.map_cons, List.map_cons, isum_cons, isum_cons]
    omega
  | x :: a, i + 1, y, h, hy => by
    have := stat_grows b a i y (by simpa using h) (by simpa using hy)
    rw [List.set_cons_succ, List.map_cons, List.map_cons, isum_cons, isum_cons]
    omega
theorem stat_mono (a b : List Int) (i : Nat) (y : Int) (h : i < a.length) (hy : a[i] ≤ y) : statL a b ≤ statL (a.set i y) b := by
  rw [stat_split, stat_split, self_eq (c := a.set i y) (by simp)]
  have := stat_grows b a i y h hy
  omega
/-! ### the least choice -/
theorem sub_sum (M : Int) {S L : List Int} (h : S.Sublist L) : (∀ x ∈ L, x ≤ M) → isum L + M * (S.length : Int) ≤ isum S + M * (L.length : Int) := by
  induction h with
  | slnil => intro _; exact Int.le_refl _
  | cons a h ih =>
    intro hM
    have h1 := hM a (by simp)
    have h2 := ih (fun x hx => hM x (List.mem_cons_of_mem _ hx))
    rw [isum_cons, List.length_cons]
    push_cast
    rw [Int.mul_add, Int.mul_one]
    omega
  | cons_cons a h ih =>
    intro hM
    have h2 := ih (fun x hx => hM x (List.mem_cons_of_mem _ hx))
    rw [isum_cons, isum_cons, List.length_cons, List.length_cons]
    push_cast
    rw [Int.mul_add, Int.mul_add, Int.mul_one]
    omega
theorem isum_ge (M : Int) : ∀ L : List Int, (∀ x ∈ L, M ≤ x) → M * (L.length : Int) ≤ isum L
  | [], _ => by rw [isum_nil]; simp
  | x :: L, h => by
    have h1 := h x (by simp)
    have h2 := isum_ge M L (fun y hy => h y (List.mem_cons_of_mem _ hy))
    rw [isum_cons, List.length_cons]
    push_cast
    rw [Int.mul_add, Int.mul_one]
    omega
theorem least_sum {A B S : List Int} (M : Int) (hA : ∀ x ∈ A, x ≤ M) (hB : ∀ x ∈ B, M ≤ x) (h : S.Sublist (A ++ B)) (hl : S.length = A.length) : isum A ≤ isum S := by
  obtain ⟨S1, S2, rfl, h1, h2⟩ := List.sublist_append_iff.1 h
  have a1 := sub_sum M h1 hA
  have a2 := isum_ge M S2 (fun x hx => hB x (h2.subset hx))
  have e : (A.length : Int) = (S1.length : Int) + (S2.length : Int) := by
    have : (S1 ++ S2).length = S1.length + S2.length := List.length_append
    omega
  rw [isum_append]
  rw [e, Int.mul_add] at a1
  omega
theorem less_choice {A B : List Int} (i : Nat) (hi : i < A.length) {y : Int} (hy : y ∈ B) (h : y < A[i]) : ∃ S : List Int, S.Sublist (A ++ B) ∧ S.length = A.length ∧ isum S < isum A := by
  refine ⟨A.eraseIdx i ++ [y], (List.eraseIdx_sublist A i).append (List.singleton_sublist.2 hy), ?_, ?_⟩
  · rw [List.length_append, List.length_eraseIdx_of_lt hi]
    simp
    omega
  · have e : isum A = A[i] + isum (A.eraseIdx i) := by
      rw [List.eraseIdx_eq_take_drop_succ, isum_append]
      have e1 : A = A.take i ++ A[i] :: A.drop (i + 1) := by rw [← List.drop_eq_getElem_cons hi, List.take_append_drop]
      have e2 := congrArg isum e1
      rw [isum_append, isum_cons] at e2
      omega
    rw [isum_append, isum_cons, isum_nil, e]
    omega
/-! ### no two equal -/
theorem asc_strict {s : List Int} (h : s.Pairwise (· ≤ ·)) (hc : ¬ (Lib.compact s).length < s.length) : s.Pairwise (· < ·) := by
  have hk : ((List.range s.length).filter (Lib.keeps s.toArray)).length = (List.range s.length).length := by
    have e : (Lib.compact s).length = ((List.range s.length).filter (Lib.keeps s.toArray)).length := by
      unfold Lib.compact Lib.compactUpTo
      rw [List.length_map]
    have := List.length_filter_le (Lib.keeps s.toArray) (List.range s.length)
    rw [List.length_range] at this ⊢
    omega
  have hall := List.length_filter_eq_length_iff.1 hk
  rw [List.pairwise_iff_getElem] at h ⊢
  intro i j hi hj hij
  have h1 := hall j (List.mem_range.2 hj)
  unfold Lib.keeps at h1
  have h2 := of_decide_eq_true h1
  rcases h2 with h2 | h2
  · omega
  · have h3 : s[j] ≠ s[j - 1] := by
      intro e
      apply h2
      simp only [List.getElem!_toArray]
      rw [getElem!_pos s j hj, getElem!_pos s (j - 1) (by omega), e]
    have h4 := h (j - 1) j (by omega) hj (by omega)
    by_cases c : i = j - 1
    · subst c
      omega
    · have h5 := h i (j - 1) hi (by omega) (by omega)
      omega
end Go.Proofs.Ytbkoghmbacdiiaa.K
/- By hand: the reference of package 33 in plain words: the error, the numbers in ascending order, the ranks. -/
namespace Go.Proofs.Ytbkoghmbacdiiaa.K
open Go Go.RowKit Go.Proofs.YtbkoghmbacdiiaaW.PrintWords
set_option linter.unusedVariables false
set_option linter.unusedSimpArgs false
theorem check_l0 (l : List Int) (hl : l.length ≤ 1000) : ∀ (suf : List Int) (i : Nat), l.drop i = suf → Ev (fun k => spileref33_Check.l0 k l (i : Int)) (if suf.any offS = true then 2 else 0)
  | [], i, h => by
    have hj := drop_endI h
    exact Ev.succ (Ev.const _) (fun k => by rw [spileref33_Check.l0, if_neg (by omega)]; rfl)
  | x :: suf, i, h => by
    obtain ⟨hi, hx, hd, _⟩ := drop_atI h
    have ih := check_l0 l hl suf (i + 1) hd
    rw [List.any_cons]
    by_cases c1 : x < -1099511627776
    · refine Ev.succ (Ev.const _) (fun k => ?_)
      rw [spileref33_Check.l0, if_pos (by omega), if_pos (by omega), hx, if_pos c1]
      simp [offS, c1]
    · by_cases c2 : x > 1099511627776
      · refine Ev.succ (Ev.const _) (fun k => ?_)
        rw [spileref33_Check.l0, if_pos (by omega), if_pos (by omega), hx, if_neg c1, if_pos c2]
        simp [offS, c2]
      · have e : offS x = false := by simp [offS]; omega
        rw [e, Bool.false_or]
        refine Ev.succ ih (fun k => ?_)
        rw [spileref33_Check.l0, if_pos (by omega), if_pos (by omega), hx, if_neg c1, if_neg c2, wrap_up (by omega)]
theorem check_ev (l : List Int) : Ev (fun k => spileref33_Check.f k l) (ftE l) := by
  unfold spileref33_Check.f ftE
  by_cases c0 : l.length = 0
  · simp only [if_pos (show (l.length : Int) = 0 by omega), if_pos c0]
    exact Ev.const _
  · simp only [if_neg (show ¬ (l.length : Int) = 0 by omega), if_neg c0]
    by_cases c1 : l.length > 64
    · simp only [if_pos (show (l.length : Int) > 64 by omega), if_pos c1]
      exact Ev.const _
    · simp only [if_neg (show ¬ (l.length : Int) > 64 by omega), if_neg c1]
      exact check_l0 l (by omega) l 0 rfl
/-! ### ascending order -/
theorem srt_perm' (l : List Int) : (srt l).Perm l := List.mergeSort_perm _ _
theorem srt_asc' (l : List Int) : (srt l).Pairwise (· ≤ ·) := by
  have h := List.pairwise_mergeSort (le := fun x y : Int => decide (x ≤ y)) (fun a b c h1 h2 => by simp at h1 h2 ⊢; omega) (fun a b => by simp; omega) l
  exact h.imp (fun h => by simpa using h)
theorem asc_one {a b : List Int} (h : a.Perm b) (ha : a.Pairwise (· ≤ ·)) (hb : b.Pairwise (· ≤ ·)) : a = b :=
  h.eq_of_pairwise (fun _ _ _ _ h1 h2 => Int.le_antisymm h1 h2) ha hb
theorem rd_mid (A : List Int) (y : Int) (B : List Int) : rd (A ++ y :: B) (A.length : Int) = y := by
  unfold rd
  simp [List.getD_eq_getElem?_getD]
theorem set_mid (A : List Int) (y z : Int) (B : List Int) : (A ++ y :: B).set A.length z = A ++ z :: B := by
  simp
/-- x goes down to its place: A is what it may still pass, B what it has passed. -/
theorem sorted_l1 (i : Nat) (hi : i ≤ 1000) (x : Int) (tl : List Int) (S R : List Int) (n : Nat) :
    ∀ (A B : List Int), A.length = n → n + B.length = i → (A ++ B).Pairwise (· ≤ ·) → (∀ y ∈ B, x < y) → (A ++ B).Perm S →
    (∀ Y : List Int, Y.length = i + 1 → Y.Pairwise (· ≤ ·) → Y.Perm (x :: S) → Ev (fun k => spileref33_sorted.l0 k (Y ++ tl) ((i + 1 : Nat) : Int)) R) →
    Ev (fun k => spileref33_sorted.l1 k (A ++ x :: B ++ tl) (i : Int) (n : Int)) R := by
  induction n with
  | zero =>
    intro A B hA hB hs hx hp hN
    obtain rfl := List.eq_nil_of_length_eq_zero hA
    have h := hN (x :: B) (by simp; omega) (List.pairwise_cons.2 ⟨fun y hy => by have := hx y hy; omega, by simpa using hs⟩) (by simpa using hp.cons x)
    refine Ev.succ h (fun k => ?_)
    rw [spileref33_sorted.l1, if_neg (by omega), wrap_up (by omega)]
    rfl
  | succ n ih =>
    intro A B hA hB hs hx hp hN
    obtain ⟨A', y, rfl⟩ : ∃ A' y, A = A' ++ [y] := ⟨A.dropLast, A.getLast (by intro e; simp [e] at hA), (List.dropLast_concat_getLast _).symm⟩
    have hA' : A'.length = n := by simpa using hA
    have e1 : A' ++ [y] ++ x :: B ++ tl = A' ++ y :: (x :: (B ++ tl)) := by simp
    have e2 : A' ++ [y] ++ x :: B ++ tl = (A' ++ [y]) ++ x :: (B ++ tl) := by simp
    have hw : wrap64 (((n + 1 : Nat) : Int) - 1) = (n : Int) := by unfold wrap64; omega
    have r1 : rd (A' ++ [y] ++ x :: B ++ tl) (n : Int) = y := by rw [e1, ← hA']; exact rd_mid _ _ _
    have r2 : rd (A' ++ [y] ++ x :: B ++ tl) ((n + 1 : Nat) : Int) = x := by
      rw [e2, show n + 1 = (A' ++ [y]).length by simp [hA']]
      exact rd_mid _ _ _
    have hlen : ((A' ++ [y] ++ x :: B ++ tl).length : Int) ≥ n + 2 := by simp; omega
    by_cases c : y > x
    · have h := ih A' (y :: B) hA' (by simp at hB ⊢; omega) (by simpa using hs) (fun z hz => by
        rcases List.mem_cons.1 hz with rfl | hz
        · exact c
        · exact hx z hz) (by simpa using hp) hN
      refine Ev.succ h (fun k => ?_)
      rw [spileref33_sorted.l1, if_pos (by omega), hw, if_pos (by omega), if_pos (by omega), if_pos (by omega), if_pos (by omega), r1, r2, if_pos c, Int.toNat_natCast, Int.toNat_natCast]
      congr 1
      rw [e1, ← hA', set_mid, show A' ++ x :: x :: (B ++ tl) = (A' ++ [x]) ++ x :: (B ++ tl) by simp, show A'.length + 1 = (A' ++ [x]).length by simp, set_mid]
      simp
    · have h := hN (A' ++ [y] ++ x :: B) (by simp at hB hA ⊢; omega) (by
        have hs' := hs
        rw [List.pairwise_append] at hs ⊢
        obtain ⟨h1, h2, h3⟩ := hs
        refine ⟨h1, List.pairwise_cons.2 ⟨fun z hz => by have := hx z hz; omega, h2⟩, fun a ha b hb => ?_⟩
        rcases List.mem_cons.1 hb with rfl | hb
        · rcases List.mem_append.1 ha with ha | ha
          · have hay : a ≤ y := (List.pairwise_append.1 h1).2.2 a ha y (by simp)
            omega
          · have : a = y := by simpa using ha
            omega
        · exact h3 a ha b hb) (List.perm_middle.trans (hp.cons x))
      refine Ev.succ h (fun k => ?_)
      rw [spileref33_sorted.l1, if_pos (by omega), hw, if_pos (by omega), if_pos (by omega), if_pos (by omega), if_pos (by omega), r1, r2, if_neg c, wrap_up (by omega)]
theorem sorted_l0 (l : List Int) (hl : l.length ≤ 1000) (m : Nat) : ∀ (Y tl : List Int), Y.length + m = l.length → tl.length = m → Y.Pairwise (· ≤ ·) → (Y ++ tl).Perm l → Ev (fun k => spileref33_sorted.l0 k (Y ++ tl) (Y.length : Int)) (srt l) := by
  induction m with
  | zero =>
    intro Y tl hm ht hs hp
    obtain rfl := List.eq_nil_of_length_eq_zero ht
    rw [List.append_nil] at hp ⊢
    refine Ev.succ (Ev.const _) (fun k => ?_)
    rw [spileref33_sorted.l0, if_neg (by omega), asc_one (hp.trans (srt_perm' l).symm) hs (srt_asc' l)]
  | succ m ih =>
    intro Y tl hm ht hs hp
    obtain ⟨x, tl, rfl⟩ : ∃ x t, tl = x :: t := by
      cases tl with
      | nil => simp at ht
      | cons x t => exact ⟨x, t, rfl⟩
    have ht' : tl.length = m := by simpa using ht
    have h := sorted_l1 (R := srt l) Y.length (by omega) x tl Y Y.length Y [] rfl (by simp) (by simpa using hs) (fun y hy => by simp at hy) (by simp) (fun Z hZ hs2 hp2 => by
      have h2 := ih Z tl (by omega) ht' hs2 (((hp2.append_right tl).trans (by simpa using List.perm_middle.symm)).trans hp)
      rw [hZ] at h2
      exact h2)
    have e : Y ++ x :: [] ++ tl = Y ++ x :: tl := by simp
    rw [e] at h
    refine Ev.succ h (fun k => ?_)
    rw [spileref33_sorted.l0, if_pos (by simp; omega)]
theorem sorted_ev (l : List Int) (hl : l.length ≤ 1000) : Ev (fun k => spileref33_sorted.f k l) (srt l) := by
  unfold spileref33_sorted.f
  refine Ev.bind (g := fun _ => some ([] : List Int)) (Ev.const _) ?_
  have h := sorted_l0 l hl l.length [] l (by simp) rfl List.Pairwise.nil (by simp)
  simp only [if_pos (show ([] : List Int).length + l.length < 17592186044416 by simp; omega)]
  exact h
end Go.Proofs.Ytbkoghmbacdiiaa.K
/- By hand: the plain law of RankRare. -/
namespace Go.Proofs.Ytbkoghmbacdiiaa.K
open Go Go.RowKit Go.Proofs.YtbkoghmbacdiiaaW.PrintWords
set_option linter.unusedVariables false
set_option linter.unusedSimpArgs false
theorem ft_mk {l : List Int} (h0 : 0 < l.length) (h1 : l.length ≤ 64) (h : ∀ x ∈ l, -1099511627776 ≤ x ∧ x ≤ 1099511627776) : ftE l = 0 := by
  unfold ftE
  rw [if_neg (by omega), if_neg (by omega), if_neg]
  intro c
  obtain ⟨x, hx, hc⟩ := List.any_eq_true.1 c
  have := h x hx
  unfold offS at hc
  simp only [Bool.or_eq_true, decide_eq_true_eq] at hc
  omega
theorem two_mk {a b : List Int} (h0 : ftE a = 0) (h1 : ftE b = 0) (h : a.length + b.length ≤ 24) : twoE a b = 0 := by
  unfold twoE
  rw [if_pos h0, if_pos h1, if_neg (by omega)]
theorem fold_mx (M : Int) : ∀ (t : List Int) (x : Int), t.foldl mx x ≤ M ↔ x ≤ M ∧ ∀ y ∈ t, y ≤ M
  | [], x => by simp
  | z :: t, x => by
    have h := fold_mx M t (mx x z)
    have e : mx x z ≤ M ↔ x ≤ M ∧ z ≤ M := by unfold mx; split <;> omega
    rw [List.foldl_cons, h, e]
    simp only [List.mem_cons, forall_eq_or_imp]
    exact and_assoc
theorem fold_mn (M : Int) : ∀ (t : List Int) (x : Int), M ≤ t.foldl mn x ↔ M ≤ x ∧ ∀ y ∈ t, M ≤ y
  | [], x => by simp
  | z :: t, x => by
    have h := fold_mn M t (mn x z)
    have e : M ≤ mn x z ↔ M ≤ x ∧ M ≤ z := by unfold mn; split <;> omega
    rw [List.foldl_cons, h, e]
    simp only [List.mem_cons, forall_eq_or_imp]
    exact and_assoc
section
variable {a b : List Int}
theorem RB (h : a.length + b.length ≤ 24) : ∀ r ∈ (a ++ b).map (rk (a ++ b)), 1 ≤ r ∧ r ≤ 100 := fun r hr => by
  obtain ⟨y, _, rfl⟩ := List.mem_map.1 hr
  have := rk_bd (a ++ b) y
  simp only [List.length_append] at this
  omega
theorem all_ways (h : a.length + b.length ≤ 24) : wAll a.length (cntL ((a ++ b).map (rk (a ++ b)))) = chW (a.length + b.length) a.length := by
  have hb := RB h
  have hl : ((a ++ b).map (rk (a ++ b))).length = a.length + b.length := by simp
  have h1 := tot_bn _ (fun r hr => by have := hb r hr; omega) (by omega) _ (Nat.le_refl _) a.length
  rw [List.take_length, hl] at h1
  rw [h1, chW_bn _ _ (by omega)]
theorem ssub : (a.map (rk (a ++ b))).Sublist ((a ++ b).map (rk (a ++ b))) := by
  rw [List.map_append]
  exact List.sublist_append_left _ _
theorem stat_bd (h : a.length + b.length ≤ 24) : 0 ≤ statL a b ∧ statL a b < 3000 := by
  have hb := RB h
  have := isum_bd 100 (a.map (rk (a ++ b))) (fun r hr => by have := hb r (ssub.subset hr); omega)
  rw [List.length_map] at this
  unfold statL
  omega
theorem one_le (h : a.length + b.length ≤ 24) : 1 ≤ gAll a.length (cntL ((a ++ b).map (rk (a ++ b)))) (statL a b) := by
  have hp := cnt_pos (ssub (a := a) (b := b))
  rw [List.length_map] at hp
  exact g_pos (stat_bd h).1 (stat_bd h).2 hp
theorem all_iff (h : a.length + b.length ≤ 24) {m : Int} (hm : ∀ M : Int, m ≤ M ↔ ∀ x ∈ a, x ≤ M) {n : Int} (hn : ∀ M : Int, M ≤ n ↔ ∀ y ∈ b, M ≤ y) :
    gAll a.length (cntL ((a ++ b).map (rk (a ++ b)))) (statL a b) = wAll a.length (cntL ((a ++ b).map (rk (a ++ b)))) ↔ m ≤ n := by
  have hb := RB h
  constructor
  · intro he
    by_cases c : m ≤ n
    · exact c
    · exfalso
      have c2 : ¬ ∀ x ∈ a, x ≤ n := fun hx => c ((hm n).2 hx)
      obtain ⟨x, hx, c3⟩ : ∃ x, x ∈ a ∧ ¬ x ≤ n := by
        by_cases c4 : ∃ x, x ∈ a ∧ ¬ x ≤ n
        · exact c4
        · exact absurd (fun x hx => by by_cases c5 : x ≤ n; exact c5; exact absurd ⟨x, hx, c5⟩ c4) c2
      have c4 : ¬ ∀ y ∈ b, x ≤ y := fun hy => c3 ((hn x).2 hy)
      obtain ⟨y, hy, c5⟩ : ∃ y, y ∈ b ∧ ¬ x ≤ y := by
        by_cases c6 : ∃ y, y ∈ b ∧ ¬ x ≤ y
        · exact c6
        · exact absurd (fun y hy => by by_cases c7 : x ≤ y; exact c7; exact absurd ⟨y, hy, c7⟩ c6) c4
      have hlt : rk (a ++ b) y < rk (a ++ b) x := rk_lt (List.mem_append_right a hy) (by omega)
      obtain ⟨i, hi, rfl⟩ := List.getElem_of_mem hx
      obtain ⟨S, h1, h2, h3⟩ := less_choice (A := a.map (rk (a ++ b))) (B := b.map (rk (a ++ b))) i (by simpa using hi) (List.mem_map.2 ⟨y, hy, rfl⟩) (by rw [List.getElem_map]; exact hlt)
      rw [← List.map_append] at h1
      have hp := cnt_pos h1
      rw [h2, List.length_map] at hp
      have hs := stat_bd h
      have h0 := isum_bd 100 S (fun r hr => by have := hb r (h1.subset hr); omega)
      have := g_less (P := a.length) (C := cntL ((a ++ b).map (rk (a ++ b)))) (s := statL a b) h0.1 (by unfold statL at hs; omega) hp h3
      omega
  · intro hmn
    refine g_all (fun t ht => ?_)
    by_cases c : 0 < cntL ((a ++ b).map (rk (a ++ b))) a.length t
    · exfalso
      obtain ⟨S, h1, h2, rfl⟩ := cnt_sub _ _ _ c
      rw [List.map_append] at h1
      have hx := (hm m).1 (Int.le_refl _)
      have hy := (hn m).1 hmn
      have := least_sum (A := a.map (rk (a ++ b))) (B := b.map (rk (a ++ b))) (rk (a ++ b) m)
        (fun r hr => by obtain ⟨x, h3, rfl⟩ := List.mem_map.1 hr; exact rk_mono _ (hx x h3))
        (fun r hr => by obtain ⟨y, h3, rfl⟩ := List.mem_map.1 hr; exact rk_mono _ (hy y h3)) h1 (by rw [h2, List.length_map])
      unfold statL at ht
      omega
    · omega
theorem never_more {c : List Int} (hl : c.length = a.length) (ha : ¬ (Lib.compact (srt (a ++ b))).length < a.length + b.length) (hc : ¬ (Lib.compact (srt (c ++ b))).length < c.length + b.length) (hs : statL a b ≤ statL c b) :
    gAll c.length (cntL ((c ++ b).map (rk (c ++ b)))) (statL c b) ≤ gAll a.length (cntL ((a ++ b).map (rk (a ++ b)))) (statL a b) := by
  have l1 : (srt (a ++ b)).length = a.length + b.length := by rw [(srt_perm' _).length_eq, List.length_append]
  have l2 : (srt (c ++ b)).length = c.length + b.length := by rw [(srt_perm' _).length_eq, List.length_append]
  have p1 := ranks_perm (srt_perm' (a ++ b)) (asc_strict (srt_asc' _) (by rw [l1]; exact ha))
  have p2 := ranks_perm (srt_perm' (c ++ b)) (asc_strict (srt_asc' _) (by rw [l2]; exact hc))
  rw [List.length_append] at p1 p2
  rw [hl] at p2
  rw [cntL_perm p1, cntL_perm p2, hl]
  exact g_mono hs
end
theorem ways_at {x y : Nat} (h : x + y ≤ 24) : Ev (fun k => rank_Ways.f k ((x + y : Nat) : Int) (x : Int)) (chW (x + y) x, 0) := by
  have hway := ways_ev ((x + y : Nat) : Int) (x : Int)
  have hc : 0 ≤ ((x + y : Nat) : Int) ∧ ((x + y : Nat) : Int) ≤ 60 ∧ 0 ≤ (x : Int) ∧ (x : Int) ≤ ((x + y : Nat) : Int) := by omega
  unfold wayE at hway
  rw [if_pos hc, Int.toNat_natCast, Int.toNat_natCast] at hway
  exact hway
theorem u8_bd {w : Int} (hw : (Lit.int .u8 w).wf = true) : 0 ≤ w ∧ w ≤ 255 := by
  simp [Lit.wf, IntKind.min, IntKind.max, IntKind.signed, IntKind.bits] at hw
  omega
theorem rare_j2 (a b : List Int) (w m : Int) (h2 : twoE a b = 0) (hw0 : 0 ≤ w) (hw1 : w ≤ 255) (hm0 : 0 ≤ m) (hm1 : m ≤ 255) :
    Ev (fun k => spilelaw33_RankRare.j2 k a b w m (gAll a.length (cntL ((a ++ b).map (rk (a ++ b)))) (statL a b)) (wAll a.length (cntL ((a ++ b).map (rk (a ++ b))))) false) true := by
  obtain ⟨f1, f2, h24⟩ := two_ok h2
  obtain ⟨a0, a1, a2⟩ := ft_ok f1
  obtain ⟨b0, b1, b2⟩ := ft_ok f2
  obtain ⟨x, t, ea⟩ := List.exists_cons_of_length_pos a0
  obtain ⟨y, u, eb⟩ := List.exists_cons_of_length_pos b0
  have hcl : ∀ l : List Int, l.length ≤ 64 → Ev (fun _ => clone14.f l) l := fun l h => ⟨0, fun _ _ => by unfold clone14.f; rw [if_pos (by omega)]⟩
  have hiff := all_iff h24 (m := t.foldl mx x) (fun M => by rw [fold_mx, ea]; simp) (n := u.foldl mn y) (fun M => by rw [fold_mn, eb]; simp)
  have hmore : ∀ c : List Int, c.length = a.length → statL a b ≤ statL c b →
      Ev (fun _ => ((equal36.f a b).bind fun t570 => (if t570 = true then (some true) else ((equal36.f c b).bind fun t571 => (if t571 = true then (some true) else (some (decide (gAll c.length (cntL ((c ++ b).map (rk (c ++ b)))) (statL c b) ≤ gAll a.length (cntL ((a ++ b).map (rk (a ++ b)))) (statL a b))))))))) true := fun c hl hs => by
    refine ⟨0, fun _ _ => ?_⟩
    unfold equal36.f
    rw [if_pos (by omega), if_pos (by omega)]
    simp only [Option.bind_some, decide_eq_true_eq]
    by_cases c1 : (Lib.compact (srt (a ++ b))).length < a.length + b.length
    · rw [if_pos c1]
    · rw [if_neg c1]
      by_cases c2 : (Lib.compact (srt (c ++ b))).length < c.length + b.length
      · rw [if_pos c2]
      · rw [if_neg c2, decide_eq_true (never_more hl c1 c2 hs)]
  generalize hn : gAll a.length (cntL ((a ++ b).map (rk (a ++ b)))) (statL a b) = n at hiff hmore ⊢
  generalize hal : wAll a.length (cntL ((a ++ b).map (rk (a ++ b)))) = al at hiff ⊢
  have hmx : Ev (fun _ => max34.f a) (t.foldl mx x) := ⟨0, fun _ _ => by rw [ea]; rfl⟩
  have hmn : Ev (fun _ => min35.f b) (u.foldl mn y) := ⟨0, fun _ _ => by rw [eb]; rfl⟩
  refine Ev.shift ?_
  simp only [spilelaw33_RankRare.j2, Bool.false_eq_true, if_false]
  refine Ev.bind hmx ?_
  refine Ev.bind hmn ?_
  have e1 : ((n == al) != decide (t.foldl mx x ≤ u.foldl mn y)) = false := by
    by_cases c : n = al
    · rw [decide_eq_true (hiff.1 c), beq_iff_eq.2 c]; rfl
    · rw [decide_eq_false (fun e => c (hiff.2 e)), beq_eq_false_iff_ne.2 c]; rfl
  rw [e1]
  simp only [Bool.false_eq_true, if_false]
  refine Ev.bind (hcl a a1) ?_
  have ew : wrap64 w = w := by unfold wrap64; omega
  have em : wrap64 m = m := by unfold wrap64; omega
  rw [ew, em]
  have t0 : 0 ≤ Int.tmod w (a.length : Int) := Int.tmod_nonneg _ hw0
  have t1 : Int.tmod w (a.length : Int) < (a.length : Int) := Int.tmod_lt_of_pos _ (by omega)
  generalize hi : Int.tmod w (a.length : Int) = i at t0 t1 ⊢
  obtain ⟨j, rfl⟩ : ∃ j : Nat, i = (j : Int) := ⟨i.toNat, by omega⟩
  have hj : j < a.length := by omega
  have hrd : rd a (j : Int) = a[j] := by unfold rd; simp [List.getD_eq_getElem?_getD, hj]
  rw [if_neg (by omega), if_pos t0, if_pos t1, hrd, Int.toNat_natCast]
  have hb := a2 a[j] (List.getElem_mem hj)
  have hz : a[j] ≤ mn (wrap64 (a[j] + m)) 1099511627776 ∧ mn (wrap64 (a[j] + m)) 1099511627776 ≤ 1099511627776 := by
    have e : wrap64 (a[j] + m) = a[j] + m := by unfold wrap64; omega
    rw [e]
    unfold mn
    split <;> omega
  generalize mn (wrap64 (a[j] + m)) 1099511627776 = z at hz ⊢
  have hcl2 : (a.set j z).length = a.length := List.length_set
  have f3 : ftE (a.set j z) = 0 := ft_mk (by omega) (by omega) (fun x hx => by
    rcases List.mem_or_eq_of_mem_set hx with h | h
    · exact a2 x h
    · subst h; omega)
  have h3 := two_mk f3 f2 (by omega)
  refine Ev.bind (g := fun _ => some (a.set j z)) (Ev.const _) ?_
  refine Ev.bind (hcl _ (by omega)) ?_
  refine Ev.bind (hcl b b1) ?_
  refine Ev.bind (g := fun _ => rank_AtLeast.f (a.set j z) b) (r := atlE (a.set j z) b) ⟨0, fun _ _ => rfl⟩ ?_
  unfold atlE
  simp only [if_pos h3, if_true]
  exact hmore (a.set j z) hcl2 (stat_mono a b j z hj hz.1)
theorem RankRarePure : spilelaw33_RankRare.Pure := by
  intro a b w m _ _ _ _ _ _ hw hm
  have hw' := u8_bd hw
  have hm' := u8_bd hm
  have bad : Ev (fun k => spilelaw33_RankRare.j0 k a b w m true) true := Ev.succ (Ev.const _) (fun k => by rw [spilelaw33_RankRare.j0, if_pos rfl])
  refine Ev.one ?_
  unfold spilelaw33_RankRare.f
  refine Ev.bind awake_ev ?_
  simp only [if_true]
  by_cases ca : (a.length : Int) > 12
  · simp only [if_pos ca]
    exact bad
  · simp only [if_neg ca]
    by_cases cb : (b.length : Int) > 12
    · rw [decide_eq_true cb]
      exact bad
    · rw [decide_eq_false cb]
      have hcl : ∀ l : List Int, l.length ≤ 64 → Ev (fun _ => clone14.f l) l := fun l h => ⟨0, fun _ _ => by unfold clone14.f; rw [if_pos (by omega)]⟩
      refine Ev.shift ?_
      simp only [spilelaw33_RankRare.j0, Bool.false_eq_true, if_false]
      refine Ev.bind (hcl a (by omega)) ?_
      refine Ev.bind (hcl b (by omega)) ?_
      refine Ev.bind (g := fun _ => rank_AtLeast.f a b) (r := atlE a b) ⟨0, fun _ _ => rfl⟩ ?_
      by_cases h2 : twoE a b = 0
      · obtain ⟨f1, f2, h24⟩ := two_ok h2
        have a0 := (ft_ok f1).1
        have b0 := (ft_ok f2).1
        have hne : ((b.length : Int) == 0) = false := beq_eq_false_iff_ne.2 (by omega)
        have g1 := one_le h24
        have g2 : gAll a.length (cntL ((a ++ b).map (rk (a ++ b)))) (statL a b) ≤ wAll a.length (cntL ((a ++ b).map (rk (a ++ b)))) := g_le_w
        have hj2 := rare_j2 a b w m h2 hw'.1 hw'.2 hm'.1 hm'.2
        have hwy := all_ways h24
        unfold atlE
        simp only [if_pos h2, if_true]
        generalize gAll a.length (cntL ((a ++ b).map (rk (a ++ b)))) (statL a b) = n at g1 g2 hj2 ⊢
        generalize wAll a.length (cntL ((a ++ b).map (rk (a ++ b)))) = al at g2 hj2 hwy ⊢
        simp only [if_neg (show ¬ (a.length : Int) = 0 by omega), hne]
        have ee : wrap64 ((a.length : Int) + (b.length : Int)) = ((a.length + b.length : Nat) : Int) := by unfold wrap64; omega
        refine Ev.shift ?_
        simp only [spilelaw33_RankRare.j1, Bool.false_eq_true, if_false, ee]
        have hway := ways_at h24
        rw [← hwy] at hway
        refine Ev.bind hway ?_
        simp only [if_true]
        simp only [if_neg (show ¬ n < 1 by omega), decide_eq_false (show ¬ n > al by omega)]
        exact hj2
      · unfold atlE
        simp only [if_neg h2, if_true]
        exact Ev.const true
end Go.Proofs.Ytbkoghmbacdiiaa.K
namespace Go.Proofs.Ytbkoghmbacdiiaa.Pure
theorem RankRare : K.spilelaw33_RankRare.Pure := K.RankRarePure
end Go.Proofs.Ytbkoghmbacdiiaa.Pure
