/- By hand: the plain law of RankOrders. -/
import Derived.Test.YtbkoghmbacdiiaaPOrders
import Derived.Test.YtbkoghmbacdiiaaK18
namespace Go.Proofs.Ytbkoghmbacdiiaa.K
open Go Go.RowKit Go.Proofs.YtbkoghmbacdiiaaW.PrintWords
set_option linter.unusedVariables false
set_option linter.unusedSimpArgs false
/-! ### Ways -/
def chW : Nat → Nat → Int
  | 0, 0 => 1
  | 0, _ + 1 => 0
  | _ + 1, 0 => 1
  | n + 1, k + 1 => wrap64 (chW n (k + 1) + chW n k)
theorem chW_zero (n : Nat) : chW n 0 = 1 := by cases n <;> rfl
theorem chW_gt : ∀ (n t : Nat), n < t → chW n t = 0
  | 0, 0, h => by omega
  | 0, t + 1, _ => rfl
  | n + 1, 0, h => by omega
  | n + 1, t + 1, h => by
    show wrap64 (chW n (t + 1) + chW n t) = 0
    rw [chW_gt n (t + 1) (by omega), chW_gt n t (by omega)]
    unfold wrap64
    omega
theorem chW_self : ∀ n : Nat, chW n n = 1
  | 0 => rfl
  | n + 1 => by
    show wrap64 (chW n (n + 1) + chW n n) = 1
    rw [chW_gt n (n + 1) (by omega), chW_self n]
    unfold wrap64
    omega
theorem rd_set (X : List Int) (p t : Nat) (v : Int) (hp : p < X.length) : rd (X.set p v) (t : Int) = if t = p then v else rd X (t : Int) := by
  unfold rd
  simp only [Int.toNat_natCast, List.getD_eq_getElem?_getD, List.getElem?_set]
  by_cases h : t = p
  · subst h
    simp [hp]
  · rw [if_neg h, if_neg (fun e => h e.symm)]
theorem rd_range (f : Nat → Int) (m t : Nat) (h : t < m) : rd ((List.range m).map f) (t : Int) = f t := by
  unfold rd
  simp [List.getD_eq_getElem?_getD, h]
section
variable {n r : Nat} {R : Int × Int}
theorem ways_l1 (i : Nat) (hi : i < n) (hn : n ≤ 60) (hN : ∀ Y : List Int, Y.length = n + 1 → (∀ t : Nat, t ≤ n → rd Y (t : Int) = chW (i + 1) t) → Ev (fun k => rank_Ways.l0 k (r : Int) Y (n : Int) ((i + 1 : Nat) : Int)) R) (j : Nat) :
    ∀ X : List Int, j ≤ i + 1 → X.length = n + 1 → (∀ t : Nat, t ≤ n → rd X (t : Int) = if t ≤ j then chW i t else chW (i + 1) t) → Ev (fun k => rank_Ways.l1 k (r : Int) X (j : Int) (n : Int) (i : Int)) R := by
  induction j with
  | zero =>
    intro X hj hX hv
    have h := hN X hX (fun t ht => by
      rw [hv t ht]
      by_cases c : t ≤ 0
      · have e : t = 0 := by omega
        rw [if_pos c, e, chW_zero, chW_zero]
      · rw [if_neg c])
    refine Ev.succ h (fun k => ?_)
    rw [rank_Ways.l1, if_neg (by omega), wrap_up (by omega)]
  | succ j ih =>
    intro X hj hX hv
    have hw : wrap64 (((j + 1 : Nat) : Int) - 1) = (j : Int) := by unfold wrap64; omega
    have e1 : rd X ((j + 1 : Nat) : Int) = chW i (j + 1) := by rw [hv (j + 1) (by omega), if_pos (Nat.le_refl _)]
    have e2 : rd X (j : Int) = chW i j := by rw [hv j (by omega), if_pos (by omega)]
    have h := ih (X.set (j + 1) (wrap64 (rd X ((j + 1 : Nat) : Int) + rd X (j : Int)))) (by omega) (by simpa using hX) (fun t ht => by
      rw [rd_set _ _ _ _ (by omega)]
      by_cases c : t = j + 1
      · rw [if_pos c, if_neg (by omega), c, e1, e2]
        rfl
      · rw [if_neg c, hv t ht]
        by_cases c2 : t ≤ j
        · rw [if_pos (by omega), if_pos c2]
        · rw [if_neg (by omega), if_neg c2])
    refine Ev.succ h (fun k => ?_)
    rw [rank_Ways.l1, if_pos (by omega), if_pos (by omega), if_pos (by omega), hw, if_pos (by omega), if_pos (by omega), Int.toNat_natCast]
theorem ways_l0 (hn : n ≤ 60) (hr : r ≤ n) (m : Nat) : ∀ (i : Nat) (X : List Int), i + m = n → X.length = n + 1 → (∀ t : Nat, t ≤ n → rd X (t : Int) = chW i t) → Ev (fun k => rank_Ways.l0 k (r : Int) X (n : Int) (i : Int)) (chW n r, 0) := by
  induction m with
  | zero =>
    intro i X hi hX hv
    have e : i = n := by omega
    refine Ev.succ (Ev.const _) (fun k => ?_)
    rw [rank_Ways.l0, if_neg (by omega), if_pos (by omega), if_pos (by omega), hv r hr, e]
  | succ m ih =>
    intro i X hi hX hv
    have h := ways_l1 (r := r) (R := (chW n r, 0)) i (by omega) hn (fun Y hY hv2 => ih (i + 1) Y (by omega) hY hv2) (i + 1) X (Nat.le_refl _) hX (fun t ht => by
      rw [hv t ht]
      by_cases c : t ≤ i + 1
      · rw [if_pos c]
      · rw [if_neg c, chW_gt i t (by omega), chW_gt (i + 1) t (by omega)])
    refine Ev.succ h (fun k => ?_)
    rw [rank_Ways.l0, if_pos (by omega), wrap_up (by omega)]
end
def wayE (n r : Int) : Int × Int := if 0 ≤ n ∧ n ≤ 60 ∧ 0 ≤ r ∧ r ≤ n then (chW n.toNat r.toNat, 0) else (0, 2)
theorem ways_ev (n r : Int) : Ev (fun k => rank_Ways.f k n r) (wayE n r) := by
  have bad : Ev (fun k => rank_Ways.j0 k n r true) (0, 2) := Ev.succ (Ev.const _) (fun k => by rw [rank_Ways.j0, if_pos rfl])
  by_cases h : 0 ≤ n ∧ n ≤ 60 ∧ 0 ≤ r ∧ r ≤ n
  · obtain ⟨a, rfl⟩ : ∃ a : Nat, n = (a : Int) := ⟨n.toNat, by omega⟩
    obtain ⟨b, rfl⟩ : ∃ b : Nat, r = (b : Int) := ⟨r.toNat, by omega⟩
    rw [show wayE (a : Int) (b : Int) = (chW a b, 0) by unfold wayE; rw [if_pos h]; rfl]
    unfold rank_Ways.f
    simp only [if_neg (show ¬ (a : Int) < 0 by omega), if_neg (show ¬ (a : Int) > 60 by omega), if_neg (show ¬ (b : Int) < 0 by omega), decide_eq_false (show ¬ (b : Int) > (a : Int) by omega)]
    have hl : (List.replicate (a + 1) (0 : Int)).length = a + 1 := List.length_replicate
    have h0 := ways_l0 (n := a) (r := b) (by omega) (by omega) a 0 ((List.replicate (a + 1) 0).set 0 1) (by omega) (by rw [List.length_set, hl]) (fun t ht => by
      rw [rd_set _ _ _ _ (by rw [hl]; omega)]
      by_cases c : t = 0
      · rw [if_pos c, c]
        rfl
      · rw [if_neg c, chW_gt 0 t (by omega)]
        unfold rd
        simp only [Int.toNat_natCast, List.getD_eq_getElem?_getD, List.getElem?_replicate]
        rw [if_pos (by omega)]
        rfl)
    have hw : wrap64 ((a : Int) + 1) = ((a + 1 : Nat) : Int) := wrap_up (by omega)
    refine Ev.succ h0 (fun k => ?_)
    rw [rank_Ways.j0, if_neg (by simp), hw, if_pos (by omega), Int.toNat_natCast, if_pos (by omega), Option.bind_some, if_pos (by rw [hl]; omega)]
    rfl
  · rw [show wayE n r = (0, 2) by unfold wayE; rw [if_neg h]]
    unfold rank_Ways.f
    by_cases h1 : n < 0
    · simp only [if_pos h1]; exact bad
    · simp only [if_neg h1]
      by_cases h2 : n > 60
      · simp only [if_pos h2]; exact bad
      · simp only [if_neg h2]
        by_cases h3 : r < 0
        · simp only [if_pos h3]; exact bad
        · simp only [if_neg h3]
          rw [decide_eq_true (show r > n by omega)]
          exact bad
section
variable {n r : Nat} {R : Int}
theorem rw_l1 (i : Nat) (hi : 1 ≤ i) (hi2 : i ≤ 60) (hN : Ev (fun k => spileref33_ways.l0 k (n : Int) (r : Int) ((List.range (i + 1)).map (chW i)) ((i + 1 : Nat) : Int)) R) (m : Nat) :
    ∀ j : Nat, 1 ≤ j → j + m = i → Ev (fun k => spileref33_ways.l1 k (n : Int) (r : Int) ((List.range i).map (chW (i - 1))) (i : Int) ((List.range j).map (chW i)) (j : Int)) R := by
  induction m with
  | zero =>
    intro j hj hm
    have e : j = i := by omega
    subst e
    refine Ev.succ hN (fun k => ?_)
    rw [spileref33_ways.l1, if_neg (by omega), if_pos (by simp; omega), wrap_up (by omega), List.range_succ, List.map_append, List.map_cons, List.map_nil, chW_self]
  | succ m ih =>
    intro j hj hm
    have hw : wrap64 ((j : Int) - 1) = ((j - 1 : Nat) : Int) := by unfold wrap64; omega
    have hl : ((List.range i).map (chW (i - 1))).length = i := by simp
    have hv : wrap64 (rd ((List.range i).map (chW (i - 1))) ((j - 1 : Nat) : Int) + rd ((List.range i).map (chW (i - 1))) (j : Int)) = chW i j := by
      rw [rd_range _ _ _ (by omega), rd_range _ _ _ (by omega)]
      obtain ⟨a, rfl⟩ : ∃ a, i = a + 1 := ⟨i - 1, by omega⟩
      obtain ⟨b, rfl⟩ : ∃ b, j = b + 1 := ⟨j - 1, by omega⟩
      show wrap64 (chW a b + chW a (b + 1)) = wrap64 (chW a (b + 1) + chW a b)
      rw [Int.add_comm]
    refine Ev.succ (ih (j + 1) (by omega) (by omega)) (fun k => ?_)
    rw [spileref33_ways.l1, if_pos (by omega), hw, if_pos (by omega), if_pos (by omega), if_pos (by omega), if_pos (by omega), if_pos (by simp; omega), hv, wrap_up (by omega), List.range_succ, List.map_append, List.map_cons, List.map_nil]
theorem rw_l0 (hn : n ≤ 60) (hr : r ≤ n) (m : Nat) : ∀ i : Nat, i + m = n → Ev (fun k => spileref33_ways.l0 k (n : Int) (r : Int) ((List.range (i + 1)).map (chW i)) ((i + 1 : Nat) : Int)) (chW n r) := by
  induction m with
  | zero =>
    intro i hi
    have e : i = n := by omega
    subst e
    refine Ev.succ (Ev.const _) (fun k => ?_)
    rw [spileref33_ways.l0, if_neg (by omega), if_pos (by omega), if_pos (by simp; omega), rd_range _ _ _ (by omega)]
  | succ m ih =>
    intro i hi
    have h := rw_l1 (n := n) (r := r) (R := chW n r) (i + 1) (by omega) (by omega) (ih (i + 1) (by omega)) i 1 (Nat.le_refl _) (by omega)
    refine Ev.succ h (fun k => ?_)
    rw [spileref33_ways.l0, if_pos (by omega)]
    rfl
end
theorem rways_ev (n r : Int) : Ev (fun k => spileref33_Ways.f k n r) (wayE n r) := by
  have bad : Ev (fun k => spileref33_Ways.j0 k n r true) (0, 2) := Ev.succ (Ev.const _) (fun k => by rw [spileref33_Ways.j0, if_pos rfl])
  by_cases h : 0 ≤ n ∧ n ≤ 60 ∧ 0 ≤ r ∧ r ≤ n
  · obtain ⟨a, rfl⟩ : ∃ a : Nat, n = (a : Int) := ⟨n.toNat, by omega⟩
    obtain ⟨b, rfl⟩ : ∃ b : Nat, r = (b : Int) := ⟨r.toNat, by omega⟩
    rw [show wayE (a : Int) (b : Int) = (chW a b, 0) by unfold wayE; rw [if_pos h]; rfl]
    unfold spileref33_Ways.f
    simp only [if_neg (show ¬ (a : Int) < 0 by omega), if_neg (show ¬ (a : Int) > 60 by omega), if_neg (show ¬ (b : Int) < 0 by omega), decide_eq_false (show ¬ (b : Int) > (a : Int) by omega)]
    refine Ev.shift ?_
    simp only [spileref33_Ways.j0, Bool.false_eq_true, if_false]
    exact Ev.bind (rw_l0 (n := a) (r := b) (by omega) (by omega) a 0 (by omega)) (Ev.const _)
  · rw [show wayE n r = (0, 2) by unfold wayE; rw [if_neg h]]
    unfold spileref33_Ways.f
    by_cases h1 : n < 0
    · simp only [if_pos h1]; exact bad
    · simp only [if_neg h1]
      by_cases h2 : n > 60
      · simp only [if_pos h2]; exact bad
      · simp only [if_neg h2]
        by_cases h3 : r < 0
        · simp only [if_pos h3]; exact bad
        · simp only [if_neg h3]
          rw [decide_eq_true (show r > n by omega)]
          exact bad
/-! ### Orders, the reference -/
section
variable {n r : Int} {R : Int × Int}
theorem ro_l2 {x6 : List Int} (i p : Nat) (c : Int) (hi : i ≤ 1000) (hp : p < x6.length) (hl : x6.length ≤ 1000) (hc : rd x6 (p : Int) = c) (m : Nat) :
    ∀ (j : Nat) (X : List Int), j + m = i → p + i ≤ X.length → Ev (fun k => spileref33_Orders.l1 k n r x6 (i : Int) (addAt X (p + j) c m) ((p + 1 : Nat) : Int)) R →
      Ev (fun k => spileref33_Orders.l2 k n r x6 (i : Int) X (p : Int) (j : Int)) R := by
  induction m with
  | zero =>
    intro j X hj hX h
    rw [addAt_zero] at h
    refine Ev.succ h (fun k => ?_)
    rw [spileref33_Orders.l2, if_neg (by omega), wrap_up (by omega)]
  | succ m ih =>
    intro j X hj hX h
    have hw2 : wrap64 ((p : Int) + (j : Int)) = ((p + j : Nat) : Int) := by unfold wrap64; omega
    rw [← addAt_set _ X (p + j) m (by omega)] at h
    have ih := ih (j + 1) (X.set (p + j) (wrap64 (rd X ((p + j : Nat) : Int) + c))) (by omega) (by simpa using hX) h
    refine Ev.succ ih (fun k => ?_)
    rw [spileref33_Orders.l2, hw2, if_pos (by omega), if_pos (by omega), if_pos (by omega), if_pos (by omega), if_pos (by omega), Int.toNat_natCast, hc, wrap_up (by omega)]
theorem ro_l1 {x6 : List Int} (i : Nat) (h1 : 1 ≤ i) (hi : i ≤ 1000) (hl : x6.length ≤ 1000) :
    ∀ (L : List Int) (p : Nat) (X : List Int), x6.drop p = L → X.length + 1 = x6.length + i → Ev (fun k => spileref33_Orders.l0 k n r (addAll X p i L) ((i + 1 : Nat) : Int)) R →
      Ev (fun k => spileref33_Orders.l1 k n r x6 (i : Int) X (p : Int)) R
  | [], p, X, hd, hX, h => by
    have := drop_endI hd
    refine Ev.succ h (fun k => ?_)
    rw [spileref33_Orders.l1, if_neg (by omega), wrap_up (by omega)]
    rfl
  | c :: L, p, X, hd, hX, h => by
    obtain ⟨hp, hx, hd2, _⟩ := drop_atI hd
    rw [addAll] at h
    have ih := ro_l1 i h1 hi hl L (p + 1) (addAt X p c i) hd2 (by rw [addAt_len]; exact hX) h
    have h2 := ro_l2 (n := n) (r := r) (R := R) (x6 := x6) i p c hi hp hl hx i 0 X (by omega) (by omega) ih
    refine Ev.succ h2 (fun k => ?_)
    rw [spileref33_Orders.l1, if_pos (by omega)]
    rfl
end
theorem tot_l0 {X : List Int} (hl : X.length ≤ 1000) : ∀ (L : List Int) (p : Nat) (s : Int), X.drop p = L → Ev (fun k => spileref33_total.l0 k X s (p : Int)) (sumW s L)
  | [], p, s, hd => by
    have := drop_endI hd
    refine Ev.succ (Ev.const _) (fun k => ?_)
    rw [spileref33_total.l0, if_neg (by omega)]
    rfl
  | c :: L, p, s, hd => by
    obtain ⟨hp, hx, hd2, _⟩ := drop_atI hd
    have ih := tot_l0 hl L (p + 1) (wrap64 (s + c)) hd2
    refine Ev.succ ih (fun k => ?_)
    rw [spileref33_total.l0, if_pos (by omega), if_pos (by omega), hx, wrap_up (by omega)]
theorem tot_ev {X : List Int} (hl : X.length ≤ 1000) : Ev (fun k => spileref33_total.f k X) (sumW 0 X) := tot_l0 hl X 0 0 rfl
theorem ro_step {n r : Nat} {R : Int × Int} {T U : List Int} (i : Nat) (hi : i + 1 < n) (hn : n ≤ 20) (hT : T.length ≤ 211) (hU : U = addAll (List.replicate (T.length + (i + 1)) 0) 0 (i + 1 + 1) T)
    (h : Ev (fun k => spileref33_Orders.l0 k (n : Int) (r : Int) U ((i + 1 + 2 : Nat) : Int)) R) : Ev (fun k => spileref33_Orders.l0 k (n : Int) (r : Int) T ((i + 2 : Nat) : Int)) R := by
  rw [hU] at h
  have hw : wrap64 (wrap64 ((T.length : Int) + ((i + 2 : Nat) : Int)) - 1) = ((T.length + (i + 1) : Nat) : Int) := by unfold wrap64; omega
  have h1 := ro_l1 (n := (n : Int)) (r := (r : Int)) (x6 := T) (i + 2) (by omega) (by omega) (by omega) T 0 (List.replicate (T.length + (i + 1)) 0) List.drop_zero (by rw [List.length_replicate]; omega) h
  refine Ev.succ h1 (fun k => ?_)
  rw [spileref33_Orders.l0, if_pos (by omega), hw, if_pos (by omega), Int.toNat_natCast, if_pos (by omega)]
  rfl
theorem ro_last {n r : Nat} {T : List Int} (i : Nat) (hi : i + 1 = n) (hT : T.length ≤ 211) (hr : r ≤ T.length) : Ev (fun k => spileref33_Orders.l0 k (n : Int) (r : Int) T ((i + 2 : Nat) : Int)) (sumW 0 (T.drop r), 0) := by
  have h3 := tot_ev (X := T.drop r) (by rw [List.length_drop]; omega)
  refine Ev.shift ?_
  simp only [spileref33_Orders.l0, if_neg (show ¬ ((i + 2 : Nat) : Int) ≤ (n : Int) by omega), if_pos (show (0 : Int) ≤ (r : Int) by omega), if_pos (show (r : Int) ≤ (T.length : Int) by omega), Int.toNat_natCast]
  exact Ev.bind h3 (Ev.const _)
theorem ro_l0 {n r : Nat} (hn : n ≤ 20) (hr : r ≤ (tb (n - 1)).length) (m : Nat) : ∀ i : Nat, i + 1 + m = n → Ev (fun k => spileref33_Orders.l0 k (n : Int) (r : Int) (tb i) ((i + 2 : Nat) : Int)) (sumW 0 ((tb (n - 1)).drop r), 0) := by
  induction m with
  | zero =>
    intro i hm
    have e : i = n - 1 := by omega
    rw [e]
    exact ro_last (r := r) (T := tb (n - 1)) (n - 1) (show n - 1 + 1 = n by omega) (tb_le (by omega)) hr
  | succ m ih =>
    intro i hm
    exact ro_step i (by omega) hn (tb_le (by omega)) (by rw [tb]) (ih (i + 1) (by omega))
theorem ro_ev (n r : Int) : Ev (fun k => spileref33_Orders.f k n r) (ordE n r) := by
  have bad : Ev (fun k => spileref33_Orders.j0 k n r true) (0, 2) := Ev.succ (Ev.const _) (fun k => by rw [spileref33_Orders.j0, if_pos rfl])
  unfold spileref33_Orders.f
  by_cases h1 : n < 1
  · simp only [if_pos h1]
    rw [show ordE n r = (0, 2) by unfold ordE; rw [if_neg (by omega)]]
    exact bad
  · simp only [if_neg h1]
    by_cases h2 : n > 20
    · simp only [if_pos h2]
      rw [show ordE n r = (0, 2) by unfold ordE; rw [if_neg (by omega)]]
      exact bad
    · simp only [if_neg h2]
      by_cases h3 : r < 0
      · simp only [if_pos h3]
        rw [show ordE n r = (0, 2) by unfold ordE; rw [if_neg (by omega)]]
        exact bad
      · simp only [if_neg h3]
        rw [tri_w (by omega) (by omega)]
        by_cases h4 : r > (n - 1) * n / 2
        · rw [decide_eq_true h4, show ordE n r = (0, 2) by unfold ordE; rw [if_neg (by omega)]]
          exact bad
        · rw [decide_eq_false h4, show ordE n r = (sumW 0 ((tb (n.toNat - 1)).drop r.toNat), 0) by unfold ordE; rw [if_pos (by omega)]]
          obtain ⟨a, rfl⟩ : ∃ a : Nat, n = (a : Int) := ⟨n.toNat, by omega⟩
          obtain ⟨b, rfl⟩ : ∃ b : Nat, r = (b : Int) := ⟨r.toNat, by omega⟩
          simp only [Int.toNat_natCast]
          have e : (((a - 1) * a / 2 : Nat) : Int) = ((a : Int) - 1) * (a : Int) / 2 := by
            rw [Int.natCast_ediv, Int.natCast_mul, Int.ofNat_sub (by omega)]
            rfl
          have h0 := ro_l0 (n := a) (r := b) (by omega) (by rw [tb_len, show a - 1 + 1 = a by omega]; omega) (a - 1) 0 (by omega)
          exact Ev.succ h0 (fun k => by rw [spileref33_Orders.j0, if_neg (by simp)]; rfl)
theorem RankOrdersPure : spilelaw33_RankOrders.Pure := by
  intro a0 a1 _ _
  refine Ev.one ?_
  unfold spilelaw33_RankOrders.f
  refine Ev.bind awake_ev ?_
  simp only [if_true]
  refine Ev.bind (ways_ev a0 a1) ?_
  refine Ev.bind (rways_ev a0 a1) ?_
  refine Ev.bind (ord_ev a0 a1) ?_
  refine Ev.bind (ro_ev a0 a1) ?_
  simp only [if_true]
  exact Ev.congr (Ev.const true) (fun k => by simp)
end Go.Proofs.Ytbkoghmbacdiiaa.K
namespace Go.Proofs.Ytbkoghmbacdiiaa.Pure
theorem RankOrders : K.spilelaw33_RankOrders.Pure := K.RankOrdersPure
end Go.Proofs.Ytbkoghmbacdiiaa.Pure
