/- By hand: how many ways there are to choose, by the reference; the total of numbers. -/
import Derived.Test.YtbkoghmbacdiiaaPOrders
import Derived.Test.YtbkoghmbacdiiaaK15
import Derived.Test.YtbkoghmbacdiiaaK14
namespace Go.Proofs.Ytbkoghmbacdiiaa.K
open Go Go.RowKit Go.Proofs.YtbkoghmbacdiiaaW.PrintWords
set_option linter.unusedVariables false
set_option linter.unusedSimpArgs false
def chW : Nat → Nat → Int
  | 0, 0 => 1
  | 0, _ + 1 => 0
  | _ + 1, 0 => 1
  | n + 1, k + 1 => wrap64 (chW n (k + 1) + chW n k)
theorem chW_zero (n : Nat) : chW n 0 = 1 := by cases n <;> rfl
theorem chW_gt : ∀ (n t : Nat), n < t → chW n t = 0
  | 0, 0, h => by omega
  | 0, t + 1, _ => rfl
  | n + 1, 0, h => by omega
  | n + 1, t + 1, h => by
    show wrap64 (chW n (t + 1) + chW n t) = 0
    rw [chW_gt n (t + 1) (by omega), chW_gt n t (by omega)]
    unfold wrap64
    omega
theorem chW_self : ∀ n : Nat, chW n n = 1
  | 0 => rfl
  | n + 1 => by
    show wrap64 (chW n (n + 1) + chW n n) = 1
    rw [chW_gt n (n + 1) (by omega), chW_self n]
    unfold wrap64
    omega
theorem rd_set (X : List Int) (p t : Nat) (v : Int) (hp : p < X.length) : rd (X.set p v) (t : Int) = if t = p then v else rd X (t : Int) := by
  unfold rd
  simp only [Int.toNat_natCast, List.getD_eq_getElem?_getD, List.getElem?_set]
  by_cases h : t = p
  · subst h
    simp [hp]
  · rw [if_neg h, if_neg (fun e => h e.symm)]
theorem rd_range (f : Nat → Int) (m t : Nat) (h : t < m) : rd ((List.range m).map f) (t : Int) = f t := by
  unfold rd
  simp [List.getD_eq_getElem?_getD, h]
section
variable {n r : Nat} {R : Int}
theorem rw_l1 (i : Nat) (hi : 1 ≤ i) (hi2 : i ≤ 60) (hN : Ev (fun k => spileref33_ways.l0 k (n : Int) (r : Int) ((List.range (i + 1)).map (chW i)) ((i + 1 : Nat) : Int)) R) (m : Nat) :
    ∀ j : Nat, 1 ≤ j → j + m = i → Ev (fun k => spileref33_ways.l1 k (n : Int) (r : Int) ((List.range i).map (chW (i - 1))) (i : Int) ((List.range j).map (chW i)) (j : Int)) R := by
  induction m with
  | zero =>
    intro j hj hm
    have e : j = i := by omega
    subst e
    refine Ev.succ hN (fun k => ?_)
    rw [spileref33_ways.l1, if_neg (by omega), if_pos (by simp; omega), wrap_up (by omega), List.range_succ, List.map_append, List.map_cons, List.map_nil, chW_self]
  | succ m ih =>
    intro j hj hm
    have hw : wrap64 ((j : Int) - 1) = ((j - 1 : Nat) : Int) := by unfold wrap64; omega
    have hl : ((List.range i).map (chW (i - 1))).length = i := by simp
    have hv : wrap64 (rd ((List.range i).map (chW (i - 1))) ((j - 1 : Nat) : Int) + rd ((List.range i).map (chW (i - 1))) (j : Int)) = chW i j := by
      rw [rd_range _ _ _ (by omega), rd_range _ _ _ (by omega)]
      obtain ⟨a, rfl⟩ : ∃ a, i = a + 1 := ⟨i - 1, by omega⟩
      obtain ⟨b, rfl⟩ : ∃ b, j = b + 1 := ⟨j - 1, by omega⟩
      show wrap64 (chW a b + chW a (b + 1)) = wrap64 (chW a (b + 1) + chW a b)
      rw [Int.add_comm]
    refine Ev.succ (ih (j + 1) (by omega) (by omega)) (fun k => ?_)
    rw [spileref33_ways.l1, if_pos (by omega), hw, if_pos (by omega), if_pos (by omega), if_pos (by omega), if_pos (by omega), if_pos (by simp; omega), hv, wrap_up (by omega), List.range_succ, List.map_append, List.map_cons, List.map_nil]
theorem rw_l0 (hn : n ≤ 60) (hr : r ≤ n) (m : Nat) : ∀ i : Nat, i + m = n → Ev (fun k => spileref33_ways.l0 k (n : Int) (r : Int) ((List.range (i + 1)).map (chW i)) ((i + 1 : Nat) : Int)) (chW n r) := by
  induction m with
  | zero =>
    intro i hi
    have e : i = n := by omega
    subst e
    refine Ev.succ (Ev.const _) (fun k => ?_)
    rw [spileref33_ways.l0, if_neg (by omega), if_pos (by omega), if_pos (by simp; omega), rd_range _ _ _ (by omega)]
  | succ m ih =>
    intro i hi
    have h := rw_l1 (n := n) (r := r) (R := chW n r) (i + 1) (by omega) (by omega) (ih (i + 1) (by omega)) i 1 (Nat.le_refl _) (by omega)
    refine Ev.succ h (fun k => ?_)
    rw [spileref33_ways.l0, if_pos (by omega)]
    rfl
end
theorem tot_l0 {X : List Int} (hl : X.length ≤ 1000) : ∀ (L : List Int) (p : Nat) (s : Int), X.drop p = L → Ev (fun k => spileref33_total.l0 k X s (p : Int)) (sumW s L)
  | [], p, s, hd => by
    have := drop_endI hd
    refine Ev.succ (Ev.const _) (fun k => ?_)
    rw [spileref33_total.l0, if_neg (by omega)]
    rfl
  | c :: L, p, s, hd => by
    obtain ⟨hp, hx, hd2, _⟩ := drop_atI hd
    have ih := tot_l0 hl L (p + 1) (wrap64 (s + c)) hd2
    refine Ev.succ ih (fun k => ?_)
    rw [spileref33_total.l0, if_pos (by omega), if_pos (by omega), hx, wrap_up (by omega)]
theorem tot_ev {X : List Int} (hl : X.length ≤ 1000) : Ev (fun k => spileref33_total.f k X) (sumW 0 X) := tot_l0 hl X 0 0 rfl
end Go.Proofs.Ytbkoghmbacdiiaa.K
