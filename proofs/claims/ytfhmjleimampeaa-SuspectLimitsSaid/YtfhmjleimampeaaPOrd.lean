/- By hand: how many orders have so many rises: the program's loops in plain words. -/
import Derived.Test.YtfhmjleimampeaaPRank
import Derived.Test.YtfhmjleimampeaaK4
namespace Go.Proofs.Ytfhmjleimampeaa.K
open Go Go.RowKit Go.Proofs.YtfhmjleimampeaaW.PrintWords
set_option linter.unusedVariables false
set_option linter.unusedSimpArgs false
/-- c is added to m entries from place p on. -/
def addAt : List Int → Nat → Int → Nat → List Int
  | [], _, _, _ => []
  | x :: X, p + 1, c, m => x :: addAt X p c m
  | x :: X, 0, c, 0 => x :: X
  | x :: X, 0, c, m + 1 => wrap64 (x + c) :: addAt X 0 c m
theorem addAt_zero (c : Int) : ∀ (X : List Int) (p : Nat), addAt X p c 0 = X
  | [], _ => by simp [addAt]
  | x :: X, 0 => by simp [addAt]
  | x :: X, p + 1 => by simp [addAt, addAt_zero c X p]
theorem addAt_len (c : Int) : ∀ (X : List Int) (p m : Nat), (addAt X p c m).length = X.length
  | [], _, _ => by simp [addAt]
  | x :: X, 0, 0 => by simp [addAt]
  | x :: X, 0, m + 1 => by simp [addAt, addAt_len c X 0 m]
  | x :: X, p + 1, m => by simp [addAt, addAt_len c X p m]
theorem addAt_set (c : Int) : ∀ (X : List Int) (p m : Nat), p < X.length → addAt (X.set p (wrap64 (rd X (p : Int) + c))) (p + 1) c m = addAt X p c (m + 1)
  | [], p, m, h => by simp at h
  | x :: X, 0, m, _ => by
    show addAt (wrap64 (rd (x :: X) 0 + c) :: X) 1 c m = _
    rw [addAt, addAt]
    rfl
  | x :: X, p + 1, m, h => by
    have ih := addAt_set c X p m (by simpa using h)
    have e : rd (x :: X) ((p + 1 : Nat) : Int) = rd X (p : Int) := rfl
    rw [e, List.set_cons_succ, addAt, ih, addAt]
/-- All entries of L are added, each to m entries, from place p on. -/
def addAll : List Int → Nat → Nat → List Int → List Int
  | X, _, _, [] => X
  | X, p, m, c :: L => addAll (addAt X p c m) (p + 1) m L
theorem addAll_len (m : Nat) : ∀ (L X : List Int) (p : Nat), (addAll X p m L).length = X.length
  | [], _, _ => rfl
  | c :: L, X, p => by rw [addAll, addAll_len m L, addAt_len]
/-- How many orders of n + 1 things have each number of rises. -/
def tb : Nat → List Int
  | 0 => [1]
  | n + 1 => addAll (List.replicate ((tb n).length + (n + 1)) 0) 0 (n + 2) (tb n)
theorem tb_len : ∀ n, (tb n).length = n * (n + 1) / 2 + 1
  | 0 => rfl
  | n + 1 => by
    have ih := tb_len n
    rw [tb, addAll_len, List.length_replicate, ih]
    have e : (n + 1) * (n + 1 + 1) = n * (n + 1) + 2 * (n + 1) := by rw [← Nat.add_mul, Nat.mul_comm]
    rw [e]
    omega
def sumW (s : Int) (L : List Int) : Int := L.foldl (fun s c => wrap64 (s + c)) s
section
variable {n r : Int} {R : Int × Int}
theorem ord_l2 {x7 x9 x10 x46 x47 : Int} {x45 : List Int} (i p : Nat) (h7 : x7 = (i : Int)) (h9 : x9 = (p : Int)) (hi : i ≤ 1000) (hp : p ≤ 100000) :
    ∀ (m j : Nat) (X : List Int), j + m = i + 1 → p + i < X.length → Ev (fun k => rank_Orders.l1 k n r x7 (addAt X (p + j) x10 m) x45 x46 (wrap64 (x47 + 1))) R →
      Ev (fun k => rank_Orders.l2 k n r x7 X x9 x10 x45 x46 x47 (wrap64 (x7 + 1)) (j : Int)) R
  | 0, j, X, hj, hX, h => by
    have hw : wrap64 (x7 + 1) = ((i + 1 : Nat) : Int) := by rw [h7]; unfold wrap64; omega
    rw [addAt_zero] at h
    refine Ev.succ h (fun k => ?_)
    rw [rank_Orders.l2, hw, if_neg (by omega)]
  | m + 1, j, X, hj, hX, h => by
    have hw : wrap64 (x7 + 1) = ((i + 1 : Nat) : Int) := by rw [h7]; unfold wrap64; omega
    have hw2 : wrap64 (x9 + (j : Int)) = ((p + j : Nat) : Int) := by rw [h9]; unfold wrap64; omega
    have hw3 : wrap64 ((j : Int) + 1) = ((j + 1 : Nat) : Int) := by unfold wrap64; omega
    rw [← addAt_set _ X (p + j) m (by omega)] at h
    have ih := ord_l2 i p h7 h9 hi hp m (j + 1) (X.set (p + j) (wrap64 (rd X ((p + j : Nat) : Int) + x10))) (by omega) (by simpa using hX) h
    refine Ev.succ ih (fun k => ?_)
    rw [rank_Orders.l2, hw2, hw3]
    rw [if_pos (by rw [hw]; omega), if_pos (by omega), if_pos (by omega), Int.toNat_natCast]
theorem ord_l1 {x7 x8 : Int} {x45 : List Int} (i : Nat) (h7 : x7 = (i : Int)) (h8 : wrap64 (x7 + 1) = x8) (hi : i ≤ 1000) (hl : x45.length ≤ 1000) :
    ∀ (L : List Int) (p : Nat) (X : List Int), x45.drop p = L → X.length = x45.length + i → Ev (fun k => rank_Orders.l0 k n r (addAll X p (i + 1) L) x8) R →
      Ev (fun k => rank_Orders.l1 k n r x7 X x45 (x45.length : Int) (p : Int)) R
  | [], p, X, hd, hX, h => by
    have := drop_endI hd
    refine Ev.succ h (fun k => ?_)
    rw [rank_Orders.l1, if_neg (by omega), h8]
    rfl
  | c :: L, p, X, hd, hX, h => by
    obtain ⟨hp, hx, hd2, _⟩ := drop_atI hd
    have hw3 : wrap64 ((p : Int) + 1) = ((p + 1 : Nat) : Int) := wrap_up (by omega)
    rw [addAll] at h
    have ih := ord_l1 i h7 h8 hi hl L (p + 1) (addAt X p c (i + 1)) hd2 (by rw [addAt_len]; exact hX) h
    have h2 := ord_l2 (n := n) (r := r) (R := R) (x7 := x7) (x9 := (p : Int)) (x10 := c) (x45 := x45) (x46 := (x45.length : Int)) (x47 := (p : Int)) i p h7 rfl hi (by omega) (i + 1) 0 X (by omega) (by omega)
      (by rw [hw3]; exact ih)
    refine Ev.succ h2 (fun k => ?_)
    rw [rank_Orders.l1, if_pos (by omega), if_pos (by omega), if_pos (by omega), hx]
    rfl
theorem ord_l3 {X : List Int} (hl : X.length ≤ 1000) : ∀ (L : List Int) (p : Nat) (s : Int), X.drop p = L → Ev (fun k => rank_Orders.l3 k s X (X.length : Int) (p : Int)) (sumW s L, 0)
  | [], p, s, hd => by
    have := drop_endI hd
    refine Ev.succ (Ev.const _) (fun k => ?_)
    rw [rank_Orders.l3, if_neg (by omega)]
    rfl
  | c :: L, p, s, hd => by
    obtain ⟨hp, hx, hd2, _⟩ := drop_atI hd
    have hw3 : wrap64 ((p : Int) + 1) = ((p + 1 : Nat) : Int) := wrap_up (by omega)
    have ih := ord_l3 hl L (p + 1) (wrap64 (s + c)) hd2
    refine Ev.succ ih (fun k => ?_)
    rw [rank_Orders.l3, if_pos (by omega), if_pos (by omega), if_pos (by omega), hx, hw3]
end
theorem tri_bd {n : Nat} (h : n ≤ 20) : n * (n + 1) / 2 + 1 ≤ 211 := by
  have : n * (n + 1) ≤ 20 * 21 := Nat.mul_le_mul h (by omega)
  omega
theorem ord_step {n r : Nat} {R : Int × Int} {T U : List Int} (i : Nat) (hi : i + 1 < n) (hn : n ≤ 20) (hT : T.length ≤ 211) (hU : U = addAll (List.replicate (T.length + (i + 1)) 0) 0 (i + 1 + 1) T)
    (h : Ev (fun k => rank_Orders.l0 k (n : Int) (r : Int) U ((i + 1 + 1 : Nat) : Int)) R) : Ev (fun k => rank_Orders.l0 k (n : Int) (r : Int) T ((i + 1 : Nat) : Int)) R := by
  rw [hU] at h
  have hw2 : wrap64 (((i + 1 : Nat) : Int) + 1) = ((i + 1 + 1 : Nat) : Int) := wrap_up (by omega)
  have hw : wrap64 ((T.length : Int) + ((i + 1 : Nat) : Int)) = ((T.length + (i + 1) : Nat) : Int) := by unfold wrap64; omega
  have h1 := ord_l1 (n := (n : Int)) (r := (r : Int)) (x7 := ((i + 1 : Nat) : Int)) (x45 := T) (i + 1) rfl hw2 (by omega) (by omega) T 0 (List.replicate (T.length + (i + 1)) 0) List.drop_zero List.length_replicate h
  refine Ev.succ h1 (fun k => ?_)
  rw [rank_Orders.l0, if_pos (by omega), hw, if_pos (by omega), Int.toNat_natCast, if_pos (by omega)]
  rfl
theorem ord_last {n r : Nat} {T : List Int} (i : Nat) (hi : i + 1 = n) (hT : T.length ≤ 211) (hr : r ≤ T.length) : Ev (fun k => rank_Orders.l0 k (n : Int) (r : Int) T ((i + 1 : Nat) : Int)) (sumW 0 (T.drop r), 0) := by
  have h3 := ord_l3 (X := T.drop r) (by rw [List.length_drop]; omega) (T.drop r) 0 0 rfl
  refine Ev.succ h3 (fun k => ?_)
  rw [rank_Orders.l0, if_neg (by omega), if_pos (by omega), if_pos (by omega), Int.toNat_natCast, Option.bind_some]
  rfl
theorem tb_le {i : Nat} (h : i < 20) : (tb i).length ≤ 211 := by
  rw [tb_len]
  exact tri_bd (by omega)
theorem ord_l0 {n r : Nat} (hn : n ≤ 20) (hr : r ≤ (tb (n - 1)).length) (m : Nat) : ∀ i : Nat, i + 1 + m = n → Ev (fun k => rank_Orders.l0 k (n : Int) (r : Int) (tb i) ((i + 1 : Nat) : Int)) (sumW 0 ((tb (n - 1)).drop r), 0) := by
  induction m with
  | zero =>
    intro i hm
    have e : i = n - 1 := by omega
    rw [e]
    have h := ord_last (r := r) (T := tb (n - 1)) (n - 1) (show n - 1 + 1 = n by omega) (tb_le (by omega)) hr
    exact h
  | succ m ih =>
    intro i hm
    exact ord_step i (by omega) hn (tb_le (by omega)) (by rw [tb]) (ih (i + 1) (by omega))
/-- What rank.Orders tells. -/
def ordE (n r : Int) : Int × Int := if 1 ≤ n ∧ n ≤ 20 ∧ 0 ≤ r ∧ r ≤ (n - 1) * n / 2 then (sumW 0 ((tb (n.toNat - 1)).drop r.toNat), 0) else (0, 2)
theorem tri_w {n : Int} (h1 : 1 ≤ n) (h2 : n ≤ 20) : wrap64 (Int.tdiv (wrap64 (n * (wrap64 (n - 1)))) 2) = (n - 1) * n / 2 := by
  have h3 : 0 ≤ (n - 1) * n := Int.mul_nonneg (by omega) (by omega)
  have h4 : (n - 1) * n ≤ 19 * 20 := Int.mul_le_mul (by omega) h2 (by omega) (by omega)
  rw [show wrap64 (n - 1) = n - 1 by unfold wrap64; omega, Int.mul_comm n, show wrap64 ((n - 1) * n) = (n - 1) * n by unfold wrap64; omega, Int.tdiv_eq_ediv_of_nonneg h3]
  unfold wrap64
  omega
theorem ord_ev (n r : Int) : Ev (fun k => rank_Orders.f k n r) (ordE n r) := by
  have bad : Ev (fun k => rank_Orders.j0 k n r true) (0, 2) := Ev.succ (Ev.const _) (fun k => by rw [rank_Orders.j0, if_pos rfl])
  unfold rank_Orders.f
  by_cases h1 : n < 1
  · simp only [if_pos h1]
    rw [show ordE n r = (0, 2) by unfold ordE; rw [if_neg (by omega)]]
    exact bad
  · simp only [if_neg h1]
    by_cases h2 : n > 20
    · simp only [if_pos h2]
      rw [show ordE n r = (0, 2) by unfold ordE; rw [if_neg (by omega)]]
      exact bad
    · simp only [if_neg h2]
      by_cases h3 : r < 0
      · simp only [if_pos h3]
        rw [show ordE n r = (0, 2) by unfold ordE; rw [if_neg (by omega)]]
        exact bad
      · simp only [if_neg h3]
        rw [tri_w (by omega) (by omega)]
        by_cases h4 : r > (n - 1) * n / 2
        · rw [decide_eq_true h4, show ordE n r = (0, 2) by unfold ordE; rw [if_neg (by omega)]]
          exact bad
        · rw [decide_eq_false h4, show ordE n r = (sumW 0 ((tb (n.toNat - 1)).drop r.toNat), 0) by unfold ordE; rw [if_pos (by omega)]]
          obtain ⟨a, rfl⟩ : ∃ a : Nat, n = (a : Int) := ⟨n.toNat, by omega⟩
          obtain ⟨b, rfl⟩ : ∃ b : Nat, r = (b : Int) := ⟨r.toNat, by omega⟩
          simp only [Int.toNat_natCast]
          have e : (((a - 1) * a / 2 : Nat) : Int) = ((a : Int) - 1) * (a : Int) / 2 := by
            rw [Int.natCast_ediv, Int.natCast_mul, Int.ofNat_sub (by omega)]
            rfl
          have h0 := ord_l0 (n := a) (r := b) (by omega) (by rw [tb_len, show a - 1 + 1 = a by omega]; omega) (a - 1) 0 (by omega)
          exact Ev.succ h0 (fun k => by rw [rank_Orders.j0, if_neg (by simp)]; rfl)
end Go.Proofs.Ytfhmjleimampeaa.K
