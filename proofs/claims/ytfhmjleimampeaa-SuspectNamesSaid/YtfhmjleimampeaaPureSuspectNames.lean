import Derived.Test.YtfhmjleimampeaaPAwake
import Derived.Test.YtfhmjleimampeaaPOrd
import Derived.Test.YtfhmjleimampeaaPRis
import Derived.Test.YtfhmjleimampeaaPCount
import Derived.Test.YtfhmjleimampeaaK15a
import Derived.Test.YtfhmjleimampeaaK17
import Derived.Test.YtfhmjleimampeaaK18
import Derived.Test.YtfhmjleimampeaaK19a
import Derived.Test.YtfhmjleimampeaaPChk
import Derived.Test.YtfhmjleimampeaaGWithout
import Derived.Test.YtfhmjleimampeaaK13
import Derived.Test.YtfhmjleimampeaaK14
import Derived.Test.YtfhmjleimampeaaK20
import Derived.Test.YtfhmjleimampeaaK21
import Derived.Test.YtfhmjleimampeaaSaySuspectNames
/- By hand: the reference's AtLeast, Rises and Orders in plain words. -/
namespace Go.Proofs.Ytfhmjleimampeaa.K
open Go Go.RowKit Go.Proofs.YtfhmjleimampeaaW.PrintWords
set_option linter.unusedVariables false
set_option linter.unusedSimpArgs false
theorem check_l0 (l : List Int) (hl : l.length ≤ 1000) : ∀ (suf : List Int) (i : Nat), l.drop i = suf → Ev (fun k => spileref33_Check.l0 k l (i : Int)) (if suf.any offS = true then 2 else 0)
  | [], i, h => by
    have hj := drop_endI h
    exact Ev.succ (Ev.const _) (fun k => by rw [spileref33_Check.l0, if_neg (by omega)]; rfl)
  | x :: suf, i, h => by
    obtain ⟨hi, hx, hd, _⟩ := drop_atI h
    have ih := check_l0 l hl suf (i + 1) hd
    rw [List.any_cons]
    by_cases c1 : x < -1099511627776
    · refine Ev.succ (Ev.const _) (fun k => ?_)
      rw [spileref33_Check.l0, if_pos (by omega), if_pos (by omega), hx, if_pos c1]
      simp [offS, c1]
    · by_cases c2 : x > 1099511627776
      · refine Ev.succ (Ev.const _) (fun k => ?_)
        rw [spileref33_Check.l0, if_pos (by omega), if_pos (by omega), hx, if_neg c1, if_pos c2]
        simp [offS, c2]
      · have e : offS x = false := by simp [offS]; omega
        rw [e, Bool.false_or]
        refine Ev.succ ih (fun k => ?_)
        rw [spileref33_Check.l0, if_pos (by omega), if_pos (by omega), hx, if_neg c1, if_neg c2, wrap_up (by omega)]
theorem check_ev (l : List Int) : Ev (fun k => spileref33_Check.f k l) (ftE l) := by
  unfold spileref33_Check.f ftE
  by_cases c0 : l.length = 0
  · simp only [if_pos (show (l.length : Int) = 0 by omega), if_pos c0]
    exact Ev.const _
  · simp only [if_neg (show ¬ (l.length : Int) = 0 by omega), if_neg c0]
    by_cases c1 : l.length > 64
    · simp only [if_pos (show (l.length : Int) > 64 by omega), if_pos c1]
      exact Ev.const _
    · simp only [if_neg (show ¬ (l.length : Int) > 64 by omega), if_neg c1]
      exact check_l0 l (by omega) l 0 rfl
/-! ### ascending order -/
/-! ### the reference's ranks -/
theorem rrank_l0 (all : List Int) (hA : all.length ≤ 1000) (n : Int) : ∀ (suf : List Int) (j : Nat) (r : Int), all.drop j = suf → r = 1 + isum ((all.take j).map (rkS n)) → Ev (fun k => spileref33_rank.l0 k all n r (j : Int)) (rk all n)
  | [], j, r, h, hr => by
    have hj := drop_endI h
    rw [List.take_of_length_le hj] at hr
    refine Ev.succ (Ev.const _) (fun k => ?_)
    rw [spileref33_rank.l0, if_neg (by omega), hr]
    rfl
  | m :: suf, j, r, h, hr => by
    obtain ⟨hj, hx, hd, ht⟩ := drop_atI h
    have p1 : (0 : Int) ≤ (j : Int) := by omega
    have p2 : (j : Int) < (all.length : Int) := by omega
    have hb := isum_bd 2 ((all.take j).map (rkS n)) (fun x hx => by obtain ⟨m, _, rfl⟩ := List.mem_map.1 hx; exact rkS_bd n m)
    have hl : ((all.take j).map (rkS n)).length ≤ 1000 := by simp; omega
    have hn : 1 + isum ((all.take (j + 1)).map (rkS n)) = r + rkS n m := by
      rw [ht, List.map_append, isum_append, hr]
      simp [isum_cons, isum_nil]
      omega
    have hrb : 0 ≤ r ∧ r ≤ 3000 := by
      rw [hr]
      have : (2 : Int) * (((all.take j).map (rkS n)).length : Int) ≤ 2 * 1000 := by omega
      omega
    have ih := rrank_l0 all hA n suf (j + 1) (r + rkS n m) hd hn.symm
    by_cases c1 : m < n
    · have e : rkS n m = 2 := by unfold rkS; rw [if_pos c1]
      rw [e] at ih
      refine Ev.succ (Ev.succ ih (g := fun k => spileref33_rank.j1 k all n (r + 2) (j : Int)) (fun k => ?_)) (fun k => ?_)
      · rw [spileref33_rank.j1, if_pos p1, if_pos p2, hx, if_neg (by omega), wrap_up (by omega)]
      · rw [spileref33_rank.l0, if_pos p2, if_pos p1, hx, if_pos c1, show wrap64 (r + 2) = r + 2 by unfold wrap64; omega]
    · by_cases c2 : m = n
      · have e : rkS n m = 1 := by unfold rkS; rw [if_neg c1, if_pos c2]
        rw [e] at ih
        refine Ev.succ (Ev.succ ih (g := fun k => spileref33_rank.j1 k all n r (j : Int)) (fun k => ?_)) (fun k => ?_)
        · rw [spileref33_rank.j1, if_pos p1, if_pos p2, hx, if_pos c2, wrap_up (by omega), show wrap64 (r + 1) = r + 1 by unfold wrap64; omega]
        · rw [spileref33_rank.l0, if_pos p2, if_pos p1, hx, if_neg c1]
      · have e : rkS n m = 0 := by unfold rkS; rw [if_neg c1, if_neg c2]
        rw [e, Int.add_zero] at ih
        refine Ev.succ (Ev.succ ih (g := fun k => spileref33_rank.j1 k all n r (j : Int)) (fun k => ?_)) (fun k => ?_)
        · rw [spileref33_rank.j1, if_pos p1, if_pos p2, hx, if_neg c2, wrap_up (by omega)]
        · rw [spileref33_rank.l0, if_pos p2, if_pos p1, hx, if_neg c1]
theorem rrank_ev (all : List Int) (hA : all.length ≤ 1000) (n : Int) : Ev (fun k => spileref33_rank.f k all n) (rk all n) := rrank_l0 all hA n all 0 1 rfl (by simp [isum_nil])
theorem rranks_l0 (l : List Int) (hl : l.length ≤ 1000) : ∀ (suf : List Int) (i : Nat) (out : List Int), l.drop i = suf → out.length = i → Ev (fun k => spileref33_ranks.l0 k l out (i : Int)) (out ++ suf.map (rk l))
  | [], i, out, h, ho => by
    have hj := drop_endI h
    refine Ev.succ (Ev.const _) (fun k => ?_)
    rw [spileref33_ranks.l0, if_neg (by omega)]
    simp
  | n :: suf, i, out, h, ho => by
    obtain ⟨hi, hx, hd, _⟩ := drop_atI h
    have ih := rranks_l0 l hl suf (i + 1) (out ++ [rk l n]) hd (by simp [ho])
    refine Ev.shift ?_
    simp only [spileref33_ranks.l0, if_pos (show (i : Int) < (l.length : Int) by omega), if_pos (show (0 : Int) ≤ (i : Int) by omega), hx]
    refine Ev.bind (rrank_ev l hl n) ?_
    simp only [if_pos (show out.length < 17592186044416 by omega), wrap_up (show i ≤ 1000000 by omega)]
    simpa using ih
theorem rranks_ev (l : List Int) (hl : l.length ≤ 1000) : Ev (fun k => spileref33_ranks.f k l) (l.map (rk l)) := by
  have := rranks_l0 l hl l 0 [] rfl rfl
  simpa [spileref33_ranks.f] using this
def chW : Nat → Nat → Int
  | 0, 0 => 1
  | 0, _ + 1 => 0
  | _ + 1, 0 => 1
  | n + 1, k + 1 => wrap64 (chW n (k + 1) + chW n k)
theorem chW_zero (n : Nat) : chW n 0 = 1 := by cases n <;> rfl
theorem chW_gt : ∀ (n t : Nat), n < t → chW n t = 0
  | 0, 0, h => by omega
  | 0, t + 1, _ => rfl
  | n + 1, 0, h => by omega
  | n + 1, t + 1, h => by
    show wrap64 (chW n (t + 1) + chW n t) = 0
    rw [chW_gt n (t + 1) (by omega), chW_gt n t (by omega)]
    unfold wrap64
    omega
theorem chW_self : ∀ n : Nat, chW n n = 1
  | 0 => rfl
  | n + 1 => by
    show wrap64 (chW n (n + 1) + chW n n) = 1
    rw [chW_gt n (n + 1) (by omega), chW_self n]
    unfold wrap64
    omega
theorem rd_set (X : List Int) (p t : Nat) (v : Int) (hp : p < X.length) : rd (X.set p v) (t : Int) = if t = p then v else rd X (t : Int) := by
  unfold rd
  simp only [Int.toNat_natCast, List.getD_eq_getElem?_getD, List.getElem?_set]
  by_cases h : t = p
  · subst h
    simp [hp]
  · rw [if_neg h, if_neg (fun e => h e.symm)]
theorem rd_range (f : Nat → Int) (m t : Nat) (h : t < m) : rd ((List.range m).map f) (t : Int) = f t := by
  unfold rd
  simp [List.getD_eq_getElem?_getD, h]
section
variable {n r : Nat} {R : Int}
theorem rw_l1 (i : Nat) (hi : 1 ≤ i) (hi2 : i ≤ 60) (hN : Ev (fun k => spileref33_ways.l0 k (n : Int) (r : Int) ((List.range (i + 1)).map (chW i)) ((i + 1 : Nat) : Int)) R) (m : Nat) :
    ∀ j : Nat, 1 ≤ j → j + m = i → Ev (fun k => spileref33_ways.l1 k (n : Int) (r : Int) ((List.range i).map (chW (i - 1))) (i : Int) ((List.range j).map (chW i)) (j : Int)) R := by
  induction m with
  | zero =>
    intro j hj hm
    have e : j = i := by omega
    subst e
    refine Ev.succ hN (fun k => ?_)
    rw [spileref33_ways.l1, if_neg (by omega), if_pos (by simp; omega), wrap_up (by omega), List.range_succ, List.map_append, List.map_cons, List.map_nil, chW_self]
  | succ m ih =>
    intro j hj hm
    have hw : wrap64 ((j : Int) - 1) = ((j - 1 : Nat) : Int) := by unfold wrap64; omega
    have hl : ((List.range i).map (chW (i - 1))).length = i := by simp
    have hv : wrap64 (rd ((List.range i).map (chW (i - 1))) ((j - 1 : Nat) : Int) + rd ((List.range i).map (chW (i - 1))) (j : Int)) = chW i j := by
      rw [rd_range _ _ _ (by omega), rd_range _ _ _ (by omega)]
      obtain ⟨a, rfl⟩ : ∃ a, i = a + 1 := ⟨i - 1, by omega⟩
      obtain ⟨b, rfl⟩ : ∃ b, j = b + 1 := ⟨j - 1, by omega⟩
      show wrap64 (chW a b + chW a (b + 1)) = wrap64 (chW a (b + 1) + chW a b)
      rw [Int.add_comm]
    refine Ev.succ (ih (j + 1) (by omega) (by omega)) (fun k => ?_)
    rw [spileref33_ways.l1, if_pos (by omega), hw, if_pos (by omega), if_pos (by omega), if_pos (by omega), if_pos (by omega), if_pos (by simp; omega), hv, wrap_up (by omega), List.range_succ, List.map_append, List.map_cons, List.map_nil]
theorem rw_l0 (hn : n ≤ 60) (hr : r ≤ n) (m : Nat) : ∀ i : Nat, i + m = n → Ev (fun k => spileref33_ways.l0 k (n : Int) (r : Int) ((List.range (i + 1)).map (chW i)) ((i + 1 : Nat) : Int)) (chW n r) := by
  induction m with
  | zero =>
    intro i hi
    have e : i = n := by omega
    subst e
    refine Ev.succ (Ev.const _) (fun k => ?_)
    rw [spileref33_ways.l0, if_neg (by omega), if_pos (by omega), if_pos (by simp; omega), rd_range _ _ _ (by omega)]
  | succ m ih =>
    intro i hi
    have h := rw_l1 (n := n) (r := r) (R := chW n r) (i + 1) (by omega) (by omega) (ih (i + 1) (by omega)) i 1 (Nat.le_refl _) (by omega)
    refine Ev.succ h (fun k => ?_)
    rw [spileref33_ways.l0, if_pos (by omega)]
    rfl
end
theorem tot_l0 {X : List Int} (hl : X.length ≤ 1000) : ∀ (L : List Int) (p : Nat) (s : Int), X.drop p = L → Ev (fun k => spileref33_total.l0 k X s (p : Int)) (sumW s L)
  | [], p, s, hd => by
    have := drop_endI hd
    refine Ev.succ (Ev.const _) (fun k => ?_)
    rw [spileref33_total.l0, if_neg (by omega)]
    rfl
  | c :: L, p, s, hd => by
    obtain ⟨hp, hx, hd2, _⟩ := drop_atI hd
    have ih := tot_l0 hl L (p + 1) (wrap64 (s + c)) hd2
    refine Ev.succ ih (fun k => ?_)
    rw [spileref33_total.l0, if_pos (by omega), if_pos (by omega), hx, wrap_up (by omega)]
theorem tot_ev {X : List Int} (hl : X.length ≤ 1000) : Ev (fun k => spileref33_total.f k X) (sumW 0 X) := tot_l0 hl X 0 0 rfl
def bn : Nat → Nat → Nat
  | 0, 0 => 1
  | 0, _ + 1 => 0
  | _ + 1, 0 => 1
  | n + 1, k + 1 => bn n (k + 1) + bn n k
theorem bn_zero (n : Nat) : bn n 0 = 1 := by cases n <;> rfl
theorem bn_le : ∀ n k : Nat, bn n k ≤ 2 ^ n
  | 0, 0 => by decide
  | 0, k + 1 => by simp [bn]
  | n + 1, 0 => by rw [bn_zero]; exact Nat.one_le_two_pow
  | n + 1, k + 1 => by
    have h1 := bn_le n (k + 1)
    have h2 := bn_le n k
    rw [bn, Nat.pow_succ]
    omega
theorem chW_bn : ∀ n k : Nat, n ≤ 60 → chW n k = (bn n k : Int)
  | 0, 0, _ => rfl
  | 0, k + 1, _ => rfl
  | n + 1, 0, _ => by rw [chW_zero, bn_zero]; rfl
  | n + 1, k + 1, h => by
    have h1 := bn_le n (k + 1)
    have h2 := bn_le n k
    have h3 : 2 ^ n ≤ 2 ^ 60 := Nat.pow_le_pow_right (by omega) (by omega)
    have h4 : (2 : Nat) ^ 60 = 1152921504606846976 := by decide
    show wrap64 (chW n (k + 1) + chW n k) = _
    rw [chW_bn n (k + 1) (by omega), chW_bn n k (by omega), bn]
    push_cast
    generalize bn n (k + 1) = a at h1
    generalize bn n k = b at h2
    unfold wrap64
    omega
theorem sumR_zero (f : Int → Int) : ∀ n : Nat, (∀ t : Int, 0 ≤ t → t < n → f t = 0) → sumR f n = 0
  | 0, _ => rfl
  | n + 1, h => by
    rw [show sumR f (n + 1) = sumR f n + f n from rfl, sumR_zero f n (fun t h0 h1 => h t h0 (by omega)), h n (by omega) (by omega)]
    rfl
theorem sumR_sum (f g : Int → Int) : ∀ n : Nat, sumR (fun t => f t + g t) n = sumR f n + sumR g n
  | 0 => rfl
  | n + 1 => by
    have ih := sumR_sum f g n
    rw [show sumR (fun t => f t + g t) (n + 1) = sumR (fun t => f t + g t) n + (f n + g n) from rfl, show sumR f (n + 1) = sumR f n + f n from rfl, show sumR g (n + 1) = sumR g n + g n from rfl, ih]
    omega
theorem sumR_shift (f : Int → Int) (r : Nat) (h : ∀ t : Int, t < 0 → f t = 0) : ∀ M : Nat, sumR (fun t => f (t - r)) (r + M) = sumR f M
  | 0 => by
    rw [Nat.add_zero]
    exact sumR_zero _ r (fun t h0 h1 => h _ (by omega))
  | M + 1 => by
    have ih := sumR_shift f r h M
    rw [show sumR (fun t => f (t - r)) (r + (M + 1)) = sumR (fun t => f (t - r)) (r + M) + f (((r + M : Nat) : Int) - r) from rfl, ih, show ((r + M : Nat) : Int) - r = M by omega]
    rfl
theorem tot_step {n : Nat} {C : Nat → Int → Nat} (hB : CB n C) (hn : n ≤ 23) {r : Int} (h0 : 0 ≤ r) (h1 : r ≤ 100) (p : Nat) :
    wAll (p + 1) (stepC r C) = wAll (p + 1) C + wAll p C := by
  obtain ⟨q, rfl⟩ : ∃ q : Nat, r = (q : Int) := ⟨r.toNat, by omega⟩
  have hz : ∀ t : Int, t < 0 ∨ 2400 ≤ t → (C p t : Int) = 0 := fun t ht => by
    have := hB.pos p t
    omega
  have e1 : wAll (p + 1) (stepC (q : Int) C) = sumR (fun t => (C (p + 1) t : Int) + (C p (t - q) : Int)) 3000 := by
    unfold wAll
    exact sumR_congr 3000 (fun t _ _ => by unfold stepC; push_cast; rfl)
  have e2 := sumR_shift (fun t => (C p t : Int)) q (fun t ht => hz t (.inl ht)) (3000 - q)
  rw [show q + (3000 - q) = 3000 by omega] at e2
  have e3 := sumR_cut (fun t => (C p t : Int)) (3000 - q) 3000 (by omega) (fun t ht => hz t (.inr (by omega)))
  rw [e1, sumR_sum, e2, ← e3]
  rfl
theorem tot_zero {n : Nat} {C : Nat → Int → Nat} (r : Int) : wAll 0 (stepC r C) = wAll 0 C := by
  unfold wAll
  exact sumR_congr 3000 (fun t _ _ => by unfold stepC; simp)
theorem tot_C0 : ∀ p : Nat, wAll p C0 = (bn 0 p : Int)
  | 0 => by
    unfold wAll
    rw [sumR_cut _ 1 3000 (by omega) (fun t ht => by unfold C0; rw [if_neg (by omega)]; rfl)]
    rfl
  | p + 1 => by
    unfold wAll
    rw [sumR_zero _ 3000 (fun t _ _ => by unfold C0; rw [if_neg (by omega)]; rfl)]
    rfl
/-- All choices of p of the numbers R. -/
theorem tot_bn (R : List Int) (h : ∀ r ∈ R, 0 ≤ r ∧ r ≤ 100) (hR : R.length ≤ 24) : ∀ i : Nat, i ≤ R.length → ∀ p : Nat, wAll p (cntL (R.take i)) = (bn i p : Int)
  | 0, _, p => by rw [List.take_zero]; exact tot_C0 p
  | i + 1, hi, p => by
    have ih := tot_bn R h hR i (by omega)
    have hB := cntL_bd R h i (by omega)
    have hr := h R[i] (List.getElem_mem _)
    rw [← List.take_append_getElem (show i < R.length by omega), cntL_snoc]
    cases p with
    | zero => rw [tot_zero (n := i), ih 0, bn_zero, bn_zero]
    | succ p =>
      rw [tot_step hB (by omega) hr.1 hr.2, ih, ih, bn]
      push_cast
      rfl
theorem isum_pos : ∀ {L : List Int}, (∀ x ∈ L, 0 < x) → 0 ≤ isum L
  | [], _ => Int.le_refl _
  | x :: L, h => by
    have := h x (by simp)
    have := isum_pos (L := L) (fun y hy => h y (List.mem_cons_of_mem _ hy))
    rw [isum_cons]
    omega
theorem sumW_eq : ∀ (L : List Int) (s : Int), (∀ x ∈ L, 0 < x) → 0 ≤ s → s + isum L ≤ 4611686018427387904 → sumW s L = s + isum L
  | [], s, _, _, _ => by simp [sumW, isum_nil]
  | x :: L, s, h, h0, h1 => by
    have hx := h x (by simp)
    have hp := isum_pos (L := L) (fun y hy => h y (List.mem_cons_of_mem _ hy))
    rw [isum_cons] at h1 ⊢
    have e : wrap64 (s + x) = s + x := by unfold wrap64; omega
    have ih := sumW_eq L (s + x) (fun y hy => h y (List.mem_cons_of_mem _ hy)) (by omega) (by omega)
    show sumW (wrap64 (s + x)) L = _
    rw [e, ih]
    omega
theorem isum_split (L : List Int) (r : Nat) : isum L = isum (L.take r) + isum (L.drop r) := by rw [← isum_append, List.take_append_drop]
theorem drop_ge {L : List Int} (h : ∀ x ∈ L, 0 < x) {r : Nat} (hr : r < L.length) : isum (L.drop r) = L[r] + isum (L.drop (r + 1)) ∧ 0 < L[r] ∧ 0 ≤ isum (L.drop (r + 1)) := by
  refine ⟨by rw [List.drop_eq_getElem_cons hr, isum_cons], h _ (List.getElem_mem _), isum_pos (fun x hx => h x (List.mem_of_mem_drop hx))⟩
/-- What cntL tells lies in no place behind the numbers' sum. -/
theorem cntL_top (R : List Int) (h : ∀ r ∈ R, 0 ≤ r) : ∀ i : Nat, i ≤ R.length → ∀ (p : Nat) (t : Int), isum (R.take i) < t → cntL (R.take i) p t = 0
  | 0, _, p, t, ht => by
    rw [List.take_zero] at ht ⊢
    show C0 p t = 0
    unfold C0
    rw [if_neg]
    rintro ⟨_, rfl⟩
    simp [isum_nil] at ht
  | i + 1, hi, p, t, ht => by
    have ih := cntL_top R h i (by omega)
    have hr := h R[i] (List.getElem_mem _)
    rw [← List.take_append_getElem (show i < R.length by omega)] at ht ⊢
    rw [isum_append, isum_cons, isum_nil] at ht
    rw [cntL_snoc]
    unfold stepC
    cases p with
    | zero => simp only [Nat.add_zero]; exact ih 0 t (by omega)
    | succ p => simp only; rw [ih (p + 1) t (by omega), ih p (t - R[i]) (by omega)]
/-- X is a table of P + 1 rows of A + 1 numbers, row k at t told by F. -/
structure TI (X : List (List Int)) (P A : Nat) (F : Nat → Nat → Int) : Prop where
  len : X.length = P + 1
  row : ∀ k : Nat, k ≤ P → (rd_L3 X (k : Int)).length = A + 1
  val : ∀ k : Nat, k ≤ P → ∀ t : Nat, t ≤ A → rd (rd_L3 X (k : Int)) (t : Int) = F k t
theorem rdL_set (X : List (List Int)) (p t : Nat) (v : List Int) (hp : p < X.length) : rd_L3 (X.set p v) (t : Int) = if t = p then v else rd_L3 X (t : Int) := by
  unfold rd_L3
  simp only [Int.toNat_natCast, List.getD_eq_getElem?_getD, List.getElem?_set]
  by_cases h : t = p
  · subst h
    simp [hp]
  · rw [if_neg h, if_neg (fun e => h e.symm)]
theorem TI.congr {X : List (List Int)} {P A : Nat} {F G : Nat → Nat → Int} (h : TI X P A F) (e : ∀ k, k ≤ P → ∀ t, t ≤ A → F k t = G k t) : TI X P A G := ⟨h.len, h.row, fun k hk t ht => (h.val k hk t ht).trans (e k hk t ht)⟩
theorem TI.put {X : List (List Int)} {P A : Nat} {F : Nat → Nat → Int} (h : TI X P A F) {k s : Nat} (hk : k ≤ P) (hs : s ≤ A) (v : Int) :
    TI (X.set k ((rd_L3 X (k : Int)).set s v)) P A (fun k' t => if k' = k ∧ t = s then v else F k' t) := by
  have hl := h.len
  refine ⟨by rw [List.length_set]; exact hl, fun j hj => ?_, fun j hj t ht => ?_⟩
  · rw [rdL_set _ _ _ _ (by omega)]
    by_cases c : j = k
    · rw [if_pos c, List.length_set]; exact h.row k hk
    · rw [if_neg c]; exact h.row j hj
  · rw [rdL_set _ _ _ _ (by omega)]
    by_cases c : j = k
    · subst c
      rw [if_pos rfl, rd_set _ _ _ _ (by rw [h.row j hj]; omega)]
      by_cases c2 : t = s
      · rw [if_pos c2, if_pos ⟨rfl, c2⟩]
      · rw [if_neg c2, if_neg (fun e => c2 e.2)]
        exact h.val j hj t ht
    · rw [if_neg c, if_neg (fun e => c e.1)]
      exact h.val j hj t ht
section
variable {a : List Int} {R : List Int} {S : Int} {A : Nat} {res : Int × Int × Int}
/-- The state within a rank's work: rows above k are new, row k from place b on. -/
def mid (C C' : Nat → Int → Nat) (k b : Nat) : Nat → Nat → Int := fun k' t => if k < k' ∨ (k' = k ∧ b ≤ t) then (C' k' t : Int) else (C k' t : Int)
theorem tab_l3 (hA : A ≤ 2400) {n : Nat} {C : Nat → Int → Nat} (hB : CB n C) (hn : n ≤ 24) (i q k : Nat) (hi : i < R.length) (hR : R.length ≤ 24) (hq : rd R (i : Int) = (q : Int)) (hk : k + 1 ≤ a.length) (ha : a.length ≤ 24)
    (hN : ∀ X, TI X a.length A (mid C (stepC q C) k (A + 1)) → Ev (fun z => spileref33_AtLeast.l2 z a R S (A : Int) X (i : Int) (k : Int)) res) (m : Nat) :
    ∀ X, q + m ≤ A + 1 → TI X a.length A (mid C (stepC q C) (k + 1) (q + m)) → Ev (fun z => spileref33_AtLeast.l3 z a R S (A : Int) X (i : Int) ((k + 1 : Nat) : Int) (((q + m : Nat) : Int) - 1)) res := by
  have hwk : wrap64 (((k + 1 : Nat) : Int) - 1) = (k : Int) := by unfold wrap64; omega
  induction m with
  | zero =>
    intro X hm hX
    have h := hN X (hX.congr (fun k' hk' t ht => by
      unfold mid
      by_cases c : k < k'
      · rw [if_pos (show k < k' ∨ (k' = k ∧ A + 1 ≤ t) from .inl c)]
        by_cases c2 : k + 1 < k' ∨ (k' = k + 1 ∧ q + 0 ≤ t)
        · rw [if_pos c2]
        · rw [if_neg c2]
          have e : k' = k + 1 := by omega
          subst e
          unfold stepC
          have := hB.pos k ((t : Int) - (q : Int))
          have e0 : C k ((t : Int) - (q : Int)) = 0 := by omega
          simp only [e0, Nat.add_zero]
      · rw [if_neg (by omega), if_neg (by omega)]))
    refine Ev.succ h (fun z => ?_)
    rw [spileref33_AtLeast.l3, if_pos (by omega), if_pos (by omega), hq, if_neg (by omega), hwk]
  | succ m ih =>
    intro X hm hX
    have hs : (((q + (m + 1) : Nat) : Int) - 1) = ((q + m : Nat) : Int) := by omega
    have e1 : rd (rd_L3 X ((k + 1 : Nat) : Int)) ((q + m : Nat) : Int) = (C (k + 1) ((q + m : Nat) : Int) : Int) := by
      rw [hX.val (k + 1) hk (q + m) (by omega)]
      unfold mid
      rw [if_neg (by omega)]
    have e2 : rd (rd_L3 X (k : Int)) (m : Int) = (C k (m : Int) : Int) := by
      rw [hX.val k (by omega) m (by omega)]
      unfold mid
      rw [if_neg (by omega)]
    have b1 := hB.le (k + 1) ((q + m : Nat) : Int)
    have b2 := hB.le k (m : Int)
    have b3 : 2 ^ n ≤ 2 ^ 24 := Nat.pow_le_pow_right (by omega) hn
    have b4 : (2 : Nat) ^ 24 = 16777216 := by decide
    have hv : wrap64 ((C (k + 1) ((q + m : Nat) : Int) : Int) + (C k (m : Int) : Int)) = (stepC (q : Int) C (k + 1) ((q + m : Nat) : Int) : Int) := by
      have e : stepC (q : Int) C (k + 1) ((q + m : Nat) : Int) = C (k + 1) ((q + m : Nat) : Int) + C k (m : Int) := by
        unfold stepC
        simp only
        rw [show ((q + m : Nat) : Int) - (q : Int) = (m : Int) by omega]
      rw [e]
      generalize C (k + 1) ((q + m : Nat) : Int) = x at b1
      generalize C k (m : Int) = y at b2
      unfold wrap64
      push_cast
      omega
    have h := ih _ (by omega) ((hX.put hk (show q + m ≤ A by omega) (stepC (q : Int) C (k + 1) ((q + m : Nat) : Int) : Int)).congr (fun k' hk' t ht => by
      unfold mid
      by_cases c : k' = k + 1 ∧ t = q + m
      · rw [if_pos c, if_pos (by omega), c.1, c.2]
      · rw [if_neg c]
        by_cases c2 : k + 1 < k' ∨ (k' = k + 1 ∧ q + (m + 1) ≤ t)
        · rw [if_pos c2, if_pos (by omega)]
        · rw [if_neg c2, if_neg (by omega)]))
    have hws : wrap64 (((q + m : Nat) : Int) - (q : Int)) = (m : Int) := by unfold wrap64; omega
    have hw1 : wrap64 (((q + m : Nat) : Int) - 1) = ((q + m : Nat) : Int) - 1 := by unfold wrap64; omega
    have l1 := hX.row (k + 1) hk
    have l2 := hX.row k (by omega)
    have l3 := hX.len
    refine Ev.succ h (fun z => ?_)
    rw [hs, spileref33_AtLeast.l3, if_pos (by omega), if_pos (by omega), hq, if_pos (by omega), if_pos (by omega), if_pos (by omega), if_pos (by omega), if_pos (by omega), hwk, if_pos (by omega), if_pos (by omega), hws, if_pos (by omega), if_pos (by omega), e1, e2, hv, hw1, Int.toNat_natCast, Int.toNat_natCast]
theorem tab_l2 (hA : A ≤ 2400) {n : Nat} {C : Nat → Int → Nat} (hB : CB n C) (hn : n ≤ 24) (i q : Nat) (hi : i < R.length) (hR : R.length ≤ 24) (hq : rd R (i : Int) = (q : Int)) (hqA : q ≤ A) (ha : a.length ≤ 24)
    (hN : ∀ X, TI X a.length A (fun k t => (stepC q C k t : Int)) → Ev (fun z => spileref33_AtLeast.l1 z a R S (A : Int) X ((i + 1 : Nat) : Int)) res) (k : Nat) :
    ∀ X, k ≤ a.length → TI X a.length A (mid C (stepC q C) k (A + 1)) → Ev (fun z => spileref33_AtLeast.l2 z a R S (A : Int) X (i : Int) (k : Int)) res := by
  induction k with
  | zero =>
    intro X hk hX
    have h := hN X (hX.congr (fun k' hk' t ht => by
      unfold mid
      by_cases c : 0 < k'
      · rw [if_pos (.inl c)]
      · rw [if_neg (by omega)]
        have e : k' = 0 := by omega
        subst e
        unfold stepC
        simp))
    refine Ev.succ h (fun z => ?_)
    rw [spileref33_AtLeast.l2, if_neg (by omega), wrap_up (by omega)]
  | succ k ih =>
    intro X hk hX
    have h := tab_l3 (S := S) (res := res) hA hB hn i q k hi hR hq hk ha (fun X hX => ih X (by omega) hX) (A + 1 - q) X (by omega) (by
      rw [show q + (A + 1 - q) = A + 1 by omega]
      exact hX)
    rw [show ((q + (A + 1 - q) : Nat) : Int) - 1 = (A : Int) by omega] at h
    refine Ev.succ h (fun z => ?_)
    rw [spileref33_AtLeast.l2, if_pos (by omega)]
/-- The sum of f from lo on, up to A. -/
def sumFrom (f : Nat → Int) : Nat → Nat → Int
  | _, 0 => 0
  | lo, m + 1 => f lo + sumFrom f (lo + 1) m
theorem tab_l4 (hA : A ≤ 2400) {n : Nat} {C : Nat → Int → Nat} (hB : CB n C) (hn : n ≤ 24) {X : List (List Int)} (hX : TI X a.length A (fun k t => (C k t : Int))) (hR : R.length ≤ 24) (ha : a.length ≤ R.length) (m : Nat) :
    ∀ (lo : Nat) (s : Int), lo + m = A + 1 → 0 ≤ s → s ≤ 16777216 * (lo : Int) → Ev (fun z => spileref33_AtLeast.l4 z a R (A : Int) X s (lo : Int)) (s + sumFrom (fun t => (C a.length t : Int)) lo m, chW R.length a.length, 0) := by
  have l1 := hX.row a.length (Nat.le_refl _)
  have l2 := hX.len
  induction m with
  | zero =>
    intro lo s hm h0 h1
    have hw := rw_l0 (n := R.length) (r := a.length) (by omega) ha R.length 0 (by omega)
    refine Ev.shift ?_
    simp only [spileref33_AtLeast.l4, if_neg (show ¬ (lo : Int) ≤ (A : Int) by omega)]
    refine Ev.bind (g := fun z => spileref33_ways.f z (R.length : Int) (a.length : Int)) hw ?_
    rw [show sumFrom (fun t => (C a.length t : Int)) lo 0 = 0 from rfl, Int.add_zero]
    exact Ev.const _
  | succ m ih =>
    intro lo s hm h0 h1
    have e1 : rd (rd_L3 X (a.length : Int)) (lo : Int) = (C a.length (lo : Int) : Int) := hX.val _ (Nat.le_refl _) lo (by omega)
    have b2 := hB.le a.length (lo : Int)
    have b3 : 2 ^ n ≤ 2 ^ 24 := Nat.pow_le_pow_right (by omega) hn
    have b4 : (2 : Nat) ^ 24 = 16777216 := by decide
    have hw : wrap64 (s + (C a.length (lo : Int) : Int)) = s + (C a.length (lo : Int) : Int) := by
      generalize C a.length (lo : Int) = x at b2
      unfold wrap64
      omega
    have h := ih (lo + 1) (s + (C a.length (lo : Int) : Int)) (by omega) (by omega) (by push_cast; omega)
    rw [show sumFrom (fun t => (C a.length t : Int)) lo (m + 1) = (C a.length (lo : Int) : Int) + sumFrom (fun t => (C a.length t : Int)) (lo + 1) m from rfl, ← Int.add_assoc]
    refine Ev.succ h (fun z => ?_)
    rw [spileref33_AtLeast.l4, if_pos (by omega), if_pos (by omega), if_pos (by omega), if_pos (by omega), if_pos (by omega), e1, hw, wrap_up (by omega)]
theorem tab_l1 (hA : A ≤ 2400) (hr : ∀ r ∈ R, 0 ≤ r ∧ r ≤ 100) (hrA : ∀ r ∈ R, r ≤ (A : Int)) (hR : R.length ≤ 24) (ha : a.length ≤ R.length) (lo : Nat) (hlo : lo ≤ A + 1) (hS : S = (lo : Int)) (m : Nat) :
    ∀ (i : Nat) (X : List (List Int)), i + m = R.length → TI X a.length A (fun k t => (cntL (R.take i) k t : Int)) →
      Ev (fun z => spileref33_AtLeast.l1 z a R S (A : Int) X (i : Int)) (sumFrom (fun t => (cntL R a.length t : Int)) lo (A + 1 - lo), chW R.length a.length, 0) := by
  induction m with
  | zero =>
    intro i X hm hX
    have hB := cntL_bd R hr R.length (Nat.le_refl _)
    rw [List.take_length] at hB
    rw [List.take_of_length_le (by omega)] at hX
    have h := tab_l4 hA hB hR hX hR ha (A + 1 - lo) lo 0 (by omega) (Int.le_refl _) (by omega)
    rw [Int.zero_add] at h
    refine Ev.succ h (fun z => ?_)
    rw [spileref33_AtLeast.l1, if_neg (by omega), hS]
  | succ m ih =>
    intro i X hm hX
    have hi : i < R.length := by omega
    have h1 := hr R[i] (List.getElem_mem _)
    have h2 := hrA R[i] (List.getElem_mem _)
    obtain ⟨q, hq⟩ : ∃ q : Nat, R[i] = (q : Int) := ⟨R[i].toNat, by omega⟩
    have hrd : rd R (i : Int) = (q : Int) := by rw [← hq]; unfold rd; simp [List.getD_eq_getElem?_getD, hi]
    have hB := cntL_bd R hr i (by omega)
    have hst : cntL (R.take (i + 1)) = stepC (q : Int) (cntL (R.take i)) := by rw [← List.take_append_getElem hi, cntL_snoc, hq]
    have h := tab_l2 (a := a) (R := R) (S := S) (res := (sumFrom (fun t => (cntL R a.length t : Int)) lo (A + 1 - lo), chW R.length a.length, 0)) hA hB (by omega) i q hi hR hrd (by omega) (by omega)
      (fun X hX => ih (i + 1) X (by omega) (by rw [hst]; exact hX)) a.length X (Nat.le_refl _) (hX.congr (fun k hk t ht => by unfold mid; rw [if_neg (by omega)]))
    refine Ev.succ h (fun z => ?_)
    rw [spileref33_AtLeast.l1, if_pos (by omega)]
end
theorem rdL_rep (P : Nat) (row : List Int) (k : Nat) (h : k ≤ P) : rd_L3 (List.replicate (P + 1) row) (k : Int) = row := by
  unfold rd_L3
  simp only [Int.toNat_natCast, List.getD_eq_getElem?_getD, List.getElem?_replicate]
  rw [if_pos (by omega)]
  rfl
theorem rd_rep (A : Nat) (k : Nat) (h : k ≤ A) : rd (List.replicate (A + 1) (0 : Int)) (k : Int) = 0 := by
  unfold rd
  simp only [Int.toNat_natCast, List.getD_eq_getElem?_getD, List.getElem?_replicate]
  rw [if_pos (by omega)]
  rfl
theorem TI.zero (P A : Nat) : TI (List.replicate (P + 1) (List.replicate (A + 1) (0 : Int))) P A (fun _ _ => 0) := by
  refine ⟨List.length_replicate, fun k hk => ?_, fun k hk t ht => ?_⟩
  · rw [rdL_rep P _ k hk, List.length_replicate]
  · rw [rdL_rep P _ k hk, rd_rep A t ht]
theorem tab_l0 {a R : List Int} {S : Int} {A : Nat} {res : Int × Int × Int} (hA : A ≤ 2400) (ha : a.length ≤ 24) (hN : ∀ X, TI X a.length A (fun k t => (C0 k t : Int)) → Ev (fun z => spileref33_AtLeast.l1 z a R S (A : Int) X 0) res) (m : Nat) :
    ∀ j : Nat, j + m = a.length + 1 → Ev (fun z => spileref33_AtLeast.l0 z a R S (A : Int) (List.replicate j (List.replicate (A + 1) 0)) (j : Int)) res := by
  have hw : wrap64 ((A : Int) + 1) = ((A + 1 : Nat) : Int) := wrap_up (by omega)
  induction m with
  | zero =>
    intro j hj
    have e : j = a.length + 1 := by omega
    subst e
    have hz := TI.zero a.length A
    have h := hN _ ((hz.put (Nat.zero_le _) (Nat.zero_le _) 1).congr (fun k hk t ht => by
      unfold C0
      by_cases c : k = 0 ∧ t = 0
      · rw [if_pos c, if_pos (by omega)]; rfl
      · rw [if_neg c, if_neg (by omega)]; rfl))
    have l1 := hz.len
    have l2 := hz.row 0 (Nat.zero_le _)
    refine Ev.succ h (fun z => ?_)
    rw [spileref33_AtLeast.l0, if_neg (by omega), if_pos (by omega), if_pos (by
      have : ((rd_L3 (List.replicate (a.length + 1) (List.replicate (A + 1) (0 : Int))) 0).length : Int) = A + 1 := by
        have h3 : (rd_L3 (List.replicate (a.length + 1) (List.replicate (A + 1) (0 : Int))) 0).length = A + 1 := l2
        rw [h3]; push_cast; rfl
      omega)]
    rfl
  | succ m ih =>
    intro j hj
    have h := ih (j + 1) (by omega)
    rw [List.replicate_succ'] at h
    refine Ev.succ h (fun z => ?_)
    rw [spileref33_AtLeast.l0, if_pos (by omega), hw, if_pos (by omega), Int.toNat_natCast, if_pos (by omega), if_pos (by rw [List.length_replicate]; omega), wrap_up (by omega)]
theorem sumFrom_snoc (f : Nat → Int) : ∀ (m lo : Nat), sumFrom f lo (m + 1) = sumFrom f lo m + f (lo + m)
  | 0, lo => by simp [sumFrom]
  | m + 1, lo => by
    have ih := sumFrom_snoc f m (lo + 1)
    rw [show sumFrom f lo (m + 1 + 1) = f lo + sumFrom f (lo + 1) (m + 1) from rfl, ih, show sumFrom f lo (m + 1) = f lo + sumFrom f (lo + 1) m from rfl, show lo + 1 + m = lo + (m + 1) by omega]
    omega
theorem sumR_from (g : Int → Int) (lo : Nat) : ∀ m : Nat, sumR (fun t => if t ≥ (lo : Int) then g t else 0) (lo + m) = sumFrom (fun t => g t) lo m
  | 0 => sumR_zero _ lo (fun t h0 h1 => by rw [if_neg (by omega)])
  | m + 1 => by
    rw [sumFrom_snoc, ← sumR_from g lo m]
    show _ + (if ((lo + m : Nat) : Int) ≥ (lo : Int) then g ((lo + m : Nat) : Int) else 0) = _
    rw [if_pos (by omega)]
    rfl
/-! ### the start -/
def startR (a b : List Int) : List Int × Int := if twoE a b = 0 then ((a ++ b).map (rk (a ++ b)), 0) else ([], twoE a b)
theorem start_ev (a b : List Int) : Ev (fun k => spileref33_start.f k a b) (startR a b) := by
  unfold spileref33_start.f startR twoE
  refine Ev.bind (check_ev a) ?_
  by_cases c0 : ftE a = 0
  · simp only [if_pos c0]
    refine Ev.bind (check_ev b) ?_
    by_cases c1 : ftE b = 0
    · simp only [if_pos c1]
      have h1 := (ft_ok c0).2.1
      have h2 := (ft_ok c1).2.1
      have hw : wrap64 ((a.length : Int) + (b.length : Int)) = ((a.length + b.length : Nat) : Int) := by unfold wrap64; omega
      simp only [hw]
      by_cases c2 : a.length + b.length > 24
      · simp only [if_pos (show ((a.length + b.length : Nat) : Int) > 24 by omega), if_pos c2]
        exact Ev.const _
      · simp only [if_neg (show ¬ ((a.length + b.length : Nat) : Int) > 24 by omega), if_neg c2, if_true]
        refine Ev.bind (g := fun _ => some ([] : List Int)) (Ev.const _) ?_
        simp only [if_pos (show ([] : List Int).length + a.length < 17592186044416 by simp; omega), List.nil_append]
        refine Ev.bind (g := fun _ => some a) (Ev.const _) ?_
        simp only [if_pos (show a.length + b.length < 17592186044416 by omega)]
        exact Ev.bind (rranks_ev (a ++ b) (by simp; omega)) (Ev.const _)
    · simp only [if_neg c1]
      exact Ev.const _
  · simp only [if_neg c0]
    exact Ev.const _
section
variable {a b : List Int}
theorem R_bd (h : a.length + b.length ≤ 24) : ∀ r ∈ (a ++ b).map (rk (a ++ b)), 1 ≤ r ∧ r ≤ 100 := fun r hr => by
  obtain ⟨y, _, rfl⟩ := List.mem_map.1 hr
  have := rk_bd (a ++ b) y
  simp only [List.length_append] at this
  omega
theorem tot_eq {L : List Int} (h : ∀ r ∈ L, 1 ≤ r ∧ r ≤ 100) (hl : L.length ≤ 24) : Ev (fun k => spileref33_total.f k L) (isum L) := by
  have hb := isum_bd 100 L (fun r hr => by have := h r hr; omega)
  have e : sumW 0 L = isum L := by
    rw [sumW_eq L 0 (fun r hr => by have := h r hr; omega) (Int.le_refl _) (by omega), Int.zero_add]
  rw [← e]
  exact tot_ev (by omega)
theorem take_stat : isum (((a ++ b).map (rk (a ++ b))).take a.length) = statL a b := by
  rw [List.map_append, List.take_left' (List.length_map _)]
  rfl
end
theorem ratl_ev (a b : List Int) : Ev (fun k => spileref33_AtLeast.f k a b) (atlE a b) := by
  unfold spileref33_AtLeast.f atlE
  refine Ev.bind (start_ev a b) ?_
  unfold startR
  by_cases c : twoE a b = 0
  · have h24 := (two_ok c).2.2
    have hb := R_bd h24
    have hlen : ((a ++ b).map (rk (a ++ b))).length = a.length + b.length := by simp
    have hs := take_stat (a := a) (b := b)
    simp only [if_pos c, if_true, Int.toNat_natCast]
    generalize (a ++ b).map (rk (a ++ b)) = R at hb hlen hs ⊢
    simp only [if_pos (show (0 : Int) ≤ (a.length : Int) by omega), if_pos (show (a.length : Int) ≤ (R.length : Int) by omega)]
    have ht := tot_eq (L := R.take a.length) (fun r hr => hb r (List.mem_of_mem_take hr)) (by rw [List.length_take]; omega)
    have ht2 := tot_eq (L := R) hb (by omega)
    refine Ev.bind ht ?_
    refine Ev.bind ht2 ?_
    have hb1 := isum_bd 100 R (fun r hr => by have := hb r hr; omega)
    have hb2 := isum_bd 100 (R.take a.length) (fun r hr => by have := hb r (List.mem_of_mem_take hr); omega)
    have hb3 := isum_bd 100 (R.drop a.length) (fun r hr => by have := hb r (List.mem_of_mem_drop hr); omega)
    have hsp := isum_split R a.length
    obtain ⟨A, hA⟩ : ∃ A : Nat, isum R = (A : Int) := ⟨(isum R).toNat, by omega⟩
    obtain ⟨lo, hlo⟩ : ∃ lo : Nat, isum (R.take a.length) = (lo : Int) := ⟨(isum (R.take a.length)).toNat, by omega⟩
    have hr : ∀ r ∈ R, 0 ≤ r ∧ r ≤ 100 := fun r hr => by have := hb r hr; omega
    have hrA : ∀ r ∈ R, r ≤ (A : Int) := fun r hm => by
      obtain ⟨j, hj, rfl⟩ := List.getElem_of_mem hm
      have h1 := isum_split R j
      have h2 := isum_pos (L := R.take j) (fun x hx => by have := hb x (List.mem_of_mem_take hx); omega)
      have h3 := drop_ge (L := R) (fun x hx => by have := hb x hx; omega) hj
      omega
    rw [hA, hlo]
    have h := tab_l0 (a := a) (R := R) (S := (lo : Int)) (A := A) (by omega) (by omega) (fun X hX => tab_l1 (a := a) (R := R) (S := (lo : Int)) (A := A) (by omega) hr hrA (by omega) (by omega) lo (by omega) rfl R.length 0 X (by omega) (by rw [List.take_zero]; exact hX)) (a.length + 1) 0 (by omega)
    have hg : gAll a.length (cntL R) (statL a b) = sumFrom (fun t => (cntL R a.length t : Int)) lo (A + 1 - lo) := by
      have htop := cntL_top R (fun r hm => (hr r hm).1) R.length (Nat.le_refl _)
      rw [List.take_length] at htop
      unfold gAll
      rw [← hs, hlo, sumR_cut _ (A + 1) 3000 (by omega) (fun t ht => by rw [htop a.length t (by omega)]; split <;> rfl)]
      have h := sumR_from (fun t => (cntL R a.length t : Int)) lo (A + 1 - lo)
      rw [show lo + (A + 1 - lo) = A + 1 by omega] at h
      exact h
    have hw : wAll a.length (cntL R) = chW R.length a.length := by
      have h := tot_bn R hr (by omega) R.length (Nat.le_refl _) a.length
      rw [List.take_length] at h
      rw [h, chW_bn _ _ (by omega)]
    rw [hg, hw]
    exact h
  · simp only [if_neg c]
    exact Ev.const _
/-! ### Orders, the reference -/
section
variable {n r : Int} {R : Int × Int}
theorem ro_l2 {x6 : List Int} (i p : Nat) (c : Int) (hi : i ≤ 1000) (hp : p < x6.length) (hl : x6.length ≤ 1000) (hc : rd x6 (p : Int) = c) (m : Nat) :
    ∀ (j : Nat) (X : List Int), j + m = i → p + i ≤ X.length → Ev (fun k => spileref33_Orders.l1 k n r x6 (i : Int) (addAt X (p + j) c m) ((p + 1 : Nat) : Int)) R →
      Ev (fun k => spileref33_Orders.l2 k n r x6 (i : Int) X (p : Int) (j : Int)) R := by
  induction m with
  | zero =>
    intro j X hj hX h
    rw [addAt_zero] at h
    refine Ev.succ h (fun k => ?_)
    rw [spileref33_Orders.l2, if_neg (by omega), wrap_up (by omega)]
  | succ m ih =>
    intro j X hj hX h
    have hw2 : wrap64 ((p : Int) + (j : Int)) = ((p + j : Nat) : Int) := by unfold wrap64; omega
    rw [← addAt_set _ X (p + j) m (by omega)] at h
    have ih := ih (j + 1) (X.set (p + j) (wrap64 (rd X ((p + j : Nat) : Int) + c))) (by omega) (by simpa using hX) h
    refine Ev.succ ih (fun k => ?_)
    rw [spileref33_Orders.l2, hw2, if_pos (by omega), if_pos (by omega), if_pos (by omega), if_pos (by omega), if_pos (by omega), Int.toNat_natCast, hc, wrap_up (by omega)]
theorem ro_l1 {x6 : List Int} (i : Nat) (h1 : 1 ≤ i) (hi : i ≤ 1000) (hl : x6.length ≤ 1000) :
    ∀ (L : List Int) (p : Nat) (X : List Int), x6.drop p = L → X.length + 1 = x6.length + i → Ev (fun k => spileref33_Orders.l0 k n r (addAll X p i L) ((i + 1 : Nat) : Int)) R →
      Ev (fun k => spileref33_Orders.l1 k n r x6 (i : Int) X (p : Int)) R
  | [], p, X, hd, hX, h => by
    have := drop_endI hd
    refine Ev.succ h (fun k => ?_)
    rw [spileref33_Orders.l1, if_neg (by omega), wrap_up (by omega)]
    rfl
  | c :: L, p, X, hd, hX, h => by
    obtain ⟨hp, hx, hd2, _⟩ := drop_atI hd
    rw [addAll] at h
    have ih := ro_l1 i h1 hi hl L (p + 1) (addAt X p c i) hd2 (by rw [addAt_len]; exact hX) h
    have h2 := ro_l2 (n := n) (r := r) (R := R) (x6 := x6) i p c hi hp hl hx i 0 X (by omega) (by omega) ih
    refine Ev.succ h2 (fun k => ?_)
    rw [spileref33_Orders.l1, if_pos (by omega)]
    rfl
end
theorem ro_step {n r : Nat} {R : Int × Int} {T U : List Int} (i : Nat) (hi : i + 1 < n) (hn : n ≤ 20) (hT : T.length ≤ 211) (hU : U = addAll (List.replicate (T.length + (i + 1)) 0) 0 (i + 1 + 1) T)
    (h : Ev (fun k => spileref33_Orders.l0 k (n : Int) (r : Int) U ((i + 1 + 2 : Nat) : Int)) R) : Ev (fun k => spileref33_Orders.l0 k (n : Int) (r : Int) T ((i + 2 : Nat) : Int)) R := by
  rw [hU] at h
  have hw : wrap64 (wrap64 ((T.length : Int) + ((i + 2 : Nat) : Int)) - 1) = ((T.length + (i + 1) : Nat) : Int) := by unfold wrap64; omega
  have h1 := ro_l1 (n := (n : Int)) (r := (r : Int)) (x6 := T) (i + 2) (by omega) (by omega) (by omega) T 0 (List.replicate (T.length + (i + 1)) 0) List.drop_zero (by rw [List.length_replicate]; omega) h
  refine Ev.succ h1 (fun k => ?_)
  rw [spileref33_Orders.l0, if_pos (by omega), hw, if_pos (by omega), Int.toNat_natCast, if_pos (by omega)]
  rfl
theorem ro_last {n r : Nat} {T : List Int} (i : Nat) (hi : i + 1 = n) (hT : T.length ≤ 211) (hr : r ≤ T.length) : Ev (fun k => spileref33_Orders.l0 k (n : Int) (r : Int) T ((i + 2 : Nat) : Int)) (sumW 0 (T.drop r), 0) := by
  have h3 := tot_ev (X := T.drop r) (by rw [List.length_drop]; omega)
  refine Ev.shift ?_
  simp only [spileref33_Orders.l0, if_neg (show ¬ ((i + 2 : Nat) : Int) ≤ (n : Int) by omega), if_pos (show (0 : Int) ≤ (r : Int) by omega), if_pos (show (r : Int) ≤ (T.length : Int) by omega), Int.toNat_natCast]
  exact Ev.bind h3 (Ev.const _)
theorem ro_l0 {n r : Nat} (hn : n ≤ 20) (hr : r ≤ (tb (n - 1)).length) (m : Nat) : ∀ i : Nat, i + 1 + m = n → Ev (fun k => spileref33_Orders.l0 k (n : Int) (r : Int) (tb i) ((i + 2 : Nat) : Int)) (sumW 0 ((tb (n - 1)).drop r), 0) := by
  induction m with
  | zero =>
    intro i hm
    have e : i = n - 1 := by omega
    rw [e]
    exact ro_last (r := r) (T := tb (n - 1)) (n - 1) (show n - 1 + 1 = n by omega) (tb_le (by omega)) hr
  | succ m ih =>
    intro i hm
    exact ro_step i (by omega) hn (tb_le (by omega)) (by rw [tb]) (ih (i + 1) (by omega))
theorem ro_ev (n r : Int) : Ev (fun k => spileref33_Orders.f k n r) (ordE n r) := by
  have bad : Ev (fun k => spileref33_Orders.j0 k n r true) (0, 2) := Ev.succ (Ev.const _) (fun k => by rw [spileref33_Orders.j0, if_pos rfl])
  unfold spileref33_Orders.f
  by_cases h1 : n < 1
  · simp only [if_pos h1]
    rw [show ordE n r = (0, 2) by unfold ordE; rw [if_neg (by omega)]]
    exact bad
  · simp only [if_neg h1]
    by_cases h2 : n > 20
    · simp only [if_pos h2]
      rw [show ordE n r = (0, 2) by unfold ordE; rw [if_neg (by omega)]]
      exact bad
    · simp only [if_neg h2]
      by_cases h3 : r < 0
      · simp only [if_pos h3]
        rw [show ordE n r = (0, 2) by unfold ordE; rw [if_neg (by omega)]]
        exact bad
      · simp only [if_neg h3]
        rw [tri_w (by omega) (by omega)]
        by_cases h4 : r > (n - 1) * n / 2
        · rw [decide_eq_true h4, show ordE n r = (0, 2) by unfold ordE; rw [if_neg (by omega)]]
          exact bad
        · rw [decide_eq_false h4, show ordE n r = (sumW 0 ((tb (n.toNat - 1)).drop r.toNat), 0) by unfold ordE; rw [if_pos (by omega)]]
          obtain ⟨a, rfl⟩ : ∃ a : Nat, n = (a : Int) := ⟨n.toNat, by omega⟩
          obtain ⟨b, rfl⟩ : ∃ b : Nat, r = (b : Int) := ⟨r.toNat, by omega⟩
          simp only [Int.toNat_natCast]
          have e : (((a - 1) * a / 2 : Nat) : Int) = ((a : Int) - 1) * (a : Int) / 2 := by
            rw [Int.natCast_ediv, Int.natCast_mul, Int.ofNat_sub (by omega)]
            rfl
          have h0 := ro_l0 (n := a) (r := b) (by omega) (by rw [tb_len, show a - 1 + 1 = a by omega]; omega) (a - 1) 0 (by omega)
          exact Ev.succ h0 (fun k => by rw [spileref33_Orders.j0, if_neg (by simp)]; rfl)
section
variable {R : Int × Int}
theorem rrise_l1 (l : List Int) (hl : l.length ≤ 1000) (i : Nat) (x : Int) (hi : i < l.length) (hx : rd l (i : Int) = x) (m : Nat) : ∀ (j : Nat) (c : Int), j + m = i → Ev (fun k => spileref33_Rises.l0 k l (upW x c ((l.take i).drop j)) ((i + 1 : Nat) : Int)) R → Ev (fun k => spileref33_Rises.l1 k l c (i : Int) (j : Int)) R := by
  induction m with
  | zero =>
    intro j c hj h
    rw [List.drop_eq_nil_of_le (by rw [List.length_take]; omega)] at h
    refine Ev.succ h (fun k => ?_)
    rw [spileref33_Rises.l1, if_neg (by omega), wrap_up (by omega)]
    rfl
  | succ m ih =>
    intro j c hj h
    have hjl : j < (l.take i).length := by rw [List.length_take]; omega
    rw [List.drop_eq_getElem_cons hjl, List.getElem_take] at h
    have hy : rd l (j : Int) = l[j] := by unfold rd; simp [List.getD_eq_getElem?_getD, show j < l.length by omega]
    by_cases c1 : l[j] < x
    · have h2 := ih (j + 1) (wrap64 (c + 1)) (by omega) (by
        unfold upW at h ⊢
        rw [List.foldl_cons, if_pos c1] at h
        exact h)
      refine Ev.succ h2 (fun k => ?_)
      rw [spileref33_Rises.l1, if_pos (by omega), if_pos (by omega), if_pos (by omega), if_pos (by omega), if_pos (by omega), hy, hx, if_pos c1, wrap_up (by omega)]
    · have h2 := ih (j + 1) c (by omega) (by
        unfold upW at h ⊢
        rw [List.foldl_cons, if_neg c1] at h
        exact h)
      refine Ev.succ h2 (fun k => ?_)
      rw [spileref33_Rises.l1, if_pos (by omega), if_pos (by omega), if_pos (by omega), if_pos (by omega), if_pos (by omega), hy, hx, if_neg c1, wrap_up (by omega)]
theorem rrise_l0 (l : List Int) (hl : l.length ≤ 1000) : ∀ (suf : List Int) (i : Nat) (c : Int), l.drop i = suf → Ev (fun k => spileref33_Rises.l0 k l c (i : Int)) (upsW (l.take i) suf c, 0)
  | [], i, c, h => by
    have hj := drop_endI h
    exact Ev.succ (Ev.const _) (fun k => by rw [spileref33_Rises.l0, if_neg (by omega)]; rfl)
  | x :: suf, i, c, h => by
    obtain ⟨hi, hx, hd, ht⟩ := drop_atI h
    have ih := rrise_l0 l hl suf (i + 1) (upW x c (l.take i)) hd
    rw [ht] at ih
    refine Ev.succ (rrise_l1 l hl i x hi hx i 0 c (by omega) ih) (fun k => ?_)
    rw [spileref33_Rises.l0, if_pos (by omega)]
    rfl
end
theorem rrises_ev (l : List Int) : Ev (fun k => spileref33_Rises.f k l) (risesE l) := by
  unfold spileref33_Rises.f risesE
  refine Ev.bind (check_ev l) ?_
  by_cases hf : ftE l = 0
  · simp only [if_pos hf]
    exact rrise_l0 l (by have := (ft_ok hf).2.1; omega) l 0 0 rfl
  · simp only [if_neg hf]
    exact Ev.const _
end Go.Proofs.Ytfhmjleimampeaa.K
/- By hand: the reference's Check, Of and Without in plain words. -/
namespace Go.Proofs.Ytfhmjleimampeaa.K
open Go Go.RowKit Go.Proofs.YtfhmjleimampeaaW.PrintWords
set_option linter.unusedVariables false
set_option linter.unusedSimpArgs false
theorem rid_eq (a : Int) : spileref34_id.f a = some (decide (a ≥ 1) && decide (a ≤ 1073741824)) := by
  unfold spileref34_id.f
  by_cases c : a ≥ 1
  · rw [if_pos c, decide_eq_true c, Bool.true_and]
  · rw [if_neg c, decide_eq_false c, Bool.false_and]
theorem rchk_l0 (l : List S30) (hl : l.length ≤ 1000) : ∀ (suf : List S30) (i : Nat), l.drop i = suf → Ev (fun k => spileref34_Check.l0 k l (i : Int)) (chkGo (ahead l i) (i : Int) suf)
  | [], i, h => by
    have := drop_endF h
    exact Ev.succ (Ev.const _) (fun k => by rw [spileref34_Check.l0, if_neg (by omega)]; rfl)
  | x :: suf, i, h => by
    obtain ⟨hi, hx, hd⟩ := drop_atF h
    have ih := rchk_l0 l hl suf (i + 1) hd
    rw [ahead_succ hx] at ih
    have j2f : Ev (fun k => spileref34_Check.j2 k l (i : Int) false) (chkGo (some x) ((i : Int) + 1) suf) := by
      refine Ev.succ ih (fun k => ?_)
      rw [spileref34_Check.j2, if_neg (by simp), wrap_up (by omega)]
    have j2t : Ev (fun k => spileref34_Check.j2 k l (i : Int) true) ((i : Int), 5) := Ev.succ (Ev.const _) (fun k => by rw [spileref34_Check.j2, if_pos rfl])
    have bad : Ev (fun k => spileref34_Check.j1 k l (i : Int) true x.f0 x.f1 x.f2 x.f3) ((i : Int), 2) := Ev.succ (Ev.const _) (fun k => by rw [spileref34_Check.j1, if_pos rfl])
    have good : Ev (fun k => spileref34_Check.j1 k l (i : Int) false x.f0 x.f1 x.f2 x.f3) (if ordO (ahead l i) x = true then ((i : Int), 5) else chkGo (some x) ((i : Int) + 1) suf) := by
      refine Ev.shift ?_
      simp only [spileref34_Check.j1, Bool.false_eq_true, if_false]
      by_cases c0 : i = 0
      · subst c0
        exact j2f
      · have hw : wrap64 ((i : Int) - 1) = (i : Int) - 1 := by unfold wrap64; omega
        have ha : ahead l i = some (rd_T30 l ((i : Int) - 1)) := by unfold ahead; rw [if_neg c0]
        simp only [if_pos (show (i : Int) > 0 by omega), hw, if_pos (show 0 ≤ (i : Int) - 1 by omega), if_pos (show (i : Int) - 1 < (l.length : Int) by omega), ha, ordO, ordB, gt_iff_lt, ge_iff_le]
        by_cases c1 : x.f0 < (rd_T30 l ((i : Int) - 1)).f0
        · simp only [c1, if_true, decide_true, Bool.true_or]
          exact j2t
        · simp only [c1, if_false, decide_false, Bool.false_or]
          by_cases c2 : x.f0 = (rd_T30 l ((i : Int) - 1)).f0
          · simp only [← c2, if_true, decide_true, Bool.true_and]
            by_cases c3 : x.f1 ≤ (rd_T30 l ((i : Int) - 1)).f1
            · simp only [c3, decide_true, if_true]
              exact j2t
            · simp only [c3, decide_false, Bool.false_eq_true, if_false]
              exact j2f
          · simp only [if_neg (show ¬ (rd_T30 l ((i : Int) - 1)).f0 = x.f0 from fun e => c2 e.symm), decide_eq_false c2, Bool.false_and, Bool.false_eq_true, if_false]
            exact j2f
    refine Ev.shift ?_
    simp only [spileref34_Check.l0, if_pos (show (i : Int) < (l.length : Int) by omega), if_pos (show 0 ≤ (i : Int) by omega), hx, rid_eq, Option.bind_some]
    rw [chkGo]
    unfold rangeB
    by_cases c0 : x.f0 < 0
    · simp only [c0, if_true, decide_true, Bool.true_or]; exact bad
    simp only [c0, if_false, decide_false, Bool.false_or]
    by_cases c1 : x.f0 > 100000
    · simp only [c1, if_true, decide_true, Bool.true_or]; exact bad
    simp only [c1, if_false, decide_false, Bool.false_or]
    by_cases c2 : x.f1 < 1
    · simp only [c2, if_true, decide_true, Bool.true_or, show ¬ x.f1 ≥ 1 by omega, decide_false, Bool.false_and, Bool.false_eq_true, if_false]; exact bad
    simp only [c2, if_false, decide_false, Bool.false_or, show x.f1 ≥ 1 by omega, decide_true, Bool.true_and]
    by_cases c3 : x.f1 > 1073741824
    · simp only [c3, if_true, decide_true, Bool.true_or, show ¬ x.f1 ≤ 1073741824 by omega, decide_false, Bool.false_eq_true, if_false]; exact bad
    simp only [c3, if_false, decide_false, Bool.false_or, show x.f1 ≤ 1073741824 by omega, decide_true, if_true]
    by_cases c4 : x.f2 < 1
    · simp only [c4, if_true, decide_true, Bool.true_or, show ¬ x.f2 ≥ 1 by omega, decide_false, Bool.false_and, Bool.false_eq_true, if_false]; exact bad
    simp only [c4, if_false, decide_false, Bool.false_or, show x.f2 ≥ 1 by omega, decide_true, Bool.true_and]
    by_cases c5 : x.f2 > 1073741824
    · simp only [c5, if_true, decide_true, Bool.true_or, show ¬ x.f2 ≤ 1073741824 by omega, decide_false, Bool.false_eq_true, if_false]; exact bad
    simp only [c5, if_false, decide_false, Bool.false_or, show x.f2 ≤ 1073741824 by omega, decide_true, if_true]
    by_cases c6 : x.f3 < 0
    · simp only [c6, if_true, decide_true, Bool.true_or]; exact bad
    simp only [c6, if_false, decide_false, Bool.false_or]
    by_cases c7 : x.f3 > 1099511627776
    · simp only [c7, decide_true, if_true]; exact bad
    · simp only [c7, decide_false, Bool.false_eq_true, if_false]; exact good
theorem rchk_ev (l : List S30) : Ev (fun k => spileref34_Check.f k l) (chkE l) := by
  unfold spileref34_Check.f chkE
  by_cases c : l.length > 24
  · simp only [if_pos c, if_pos (show (l.length : Int) > 24 by omega)]
    exact Ev.const _
  · simp only [if_neg c, if_neg (show ¬ (l.length : Int) > 24 by omega)]
    exact rchk_l0 l (by omega) l 0 rfl
def startE (l : List S30) (b : Int) : Int := if (chkE l).2 = 0 then (if b = 1 then 0 else if b = 2 then 0 else 2) else 1
theorem rstart_ev (l : List S30) (b : Int) : Ev (fun k => spileref34_start.f k l b) (startE l b) := by
  unfold spileref34_start.f startE
  refine Ev.bind (rchk_ev l) ?_
  exact Ev.congr (Ev.const _) (fun k => by
    by_cases c0 : (chkE l).2 = 0
    · rw [if_pos c0, if_pos c0]
      by_cases c1 : b = 1
      · rw [if_pos c1, if_pos c1]
      · rw [if_neg c1, if_neg c1]
        by_cases c2 : b = 2
        · rw [if_pos c2, if_pos c2]
        · rw [if_neg c2, if_neg c2]
    · rw [if_neg c0, if_neg c0])
theorem rhas_eq (x : S30) (b : Int) : spileref34_has.f x.f0 x.f1 x.f2 x.f3 b = some (kfE b x) := by
  unfold spileref34_has.f kfE
  by_cases c : b = 1
  · rw [if_pos c, if_pos c]
  · rw [if_neg c, if_neg c]
theorem grp_cons (kf : S30 → Int) (x : S30) (l : List S30) (id : Int) : grp kf (x :: l) id = if kf x = id then x.f3 :: grp kf l id else grp kf l id := by
  unfold grp
  by_cases c : kf x = id
  · simp [c]
  · simp [c]
theorem oth_cons (kf : S30 → Int) (x : S30) (l : List S30) (id : Int) : oth kf (x :: l) id = if kf x = id then oth kf l id else x.f3 :: oth kf l id := by
  unfold oth
  by_cases c : kf x = id
  · simp [c]
  · simp [c]
theorem rsplit_l0 (l : List S30) (hl : l.length ≤ 1000) (b id : Int) : ∀ (suf : List S30) (i : Nat) (a o : List Int), l.drop i = suf → a.length ≤ i → o.length ≤ i → Ev (fun k => spileref34_split.l0 k l b id a o (i : Int)) (a ++ grp (kfE b) suf id, o ++ oth (kfE b) suf id)
  | [], i, a, o, h, _, _ => by
    have := drop_endF h
    exact Ev.succ (Ev.const _) (fun k => by rw [spileref34_split.l0, if_neg (by omega)]; simp [grp, oth])
  | x :: suf, i, a, o, h, ha, ho => by
    obtain ⟨hi, hx, hd⟩ := drop_atF h
    refine Ev.shift ?_
    simp only [spileref34_split.l0, if_pos (show (i : Int) < (l.length : Int) by omega), if_pos (show 0 ≤ (i : Int) by omega), hx, rhas_eq, Option.bind_some, wrap_up (show i ≤ 1000000 by omega)]
    rw [grp_cons, oth_cons]
    by_cases c : kfE b x = id
    · simp only [if_pos c, if_pos (show a.length < 17592186044416 by omega)]
      have ih := rsplit_l0 l hl b id suf (i + 1) (a ++ [x.f3]) o hd (by simp; omega) (by omega)
      simpa [List.append_assoc] using ih
    · simp only [if_neg c, if_pos (show o.length < 17592186044416 by omega)]
      have ih := rsplit_l0 l hl b id suf (i + 1) a (o ++ [x.f3]) hd (by omega) (by simp; omega)
      simpa [List.append_assoc] using ih
theorem rof_ev (l : List S30) (b id : Int) : Ev (fun k => spileref34_Of.f k l b id) (ofE l b id) := by
  unfold spileref34_Of.f
  refine Ev.bind (rstart_ev l b) ?_
  unfold ofE
  by_cases c0 : (chkE l).2 = 0
  · rw [if_neg (show ¬ (chkE l).2 ≠ 0 from fun e => e c0)]
    have hl := (chk_ok c0).1
    have hs := rsplit_l0 l (by omega) b id l 0 [] [] rfl (Nat.le_refl _) (Nat.le_refl _)
    by_cases c1 : b = 1 ∨ b = 2
    · have e : startE l b = 0 := by
        unfold startE
        rw [if_pos c0]
        rcases c1 with rfl | rfl <;> rfl
      rw [if_neg (show ¬ ¬ (b = 1 ∨ b = 2) from fun e => e c1)]
      simp only [e, if_true]
      refine Ev.bind (g := fun k => spileref34_split.f k l b id) hs ?_
      simp only [List.nil_append]
      by_cases c2 : grp (kfE b) l id = []
      · rw [if_pos c2]
        simp only [c2, List.length_nil]
        exact Ev.const _
      · rw [if_neg c2]
        have : ¬ ((grp (kfE b) l id).length : Int) = 0 := fun e => c2 (List.eq_nil_of_length_eq_zero (by omega))
        simp only [if_neg this]
        exact Ev.const _
    · have e : startE l b = 2 := by
        unfold startE
        rw [if_pos c0, if_neg (fun e => c1 (.inl e)), if_neg (fun e => c1 (.inr e))]
      rw [if_pos c1]
      simp only [e]
      exact Ev.const _
  · have e : startE l b = 1 := by
      unfold startE
      rw [if_neg c0]
    rw [if_pos c0]
    simp only [e]
    exact Ev.const _
theorem rwith_l0 (l : List S30) (hl : l.length ≤ 1000) (b id : Int) : ∀ (suf : List S30) (i : Nat) (o : List S30), l.drop i = suf → o.length ≤ i → Ev (fun k => spileref34_Without.l0 k l b id o (i : Int)) (o ++ suf.filter (fun x => !(kfE b x == id)), 0)
  | [], i, o, h, _ => by
    have := drop_endF h
    exact Ev.succ (Ev.const _) (fun k => by rw [spileref34_Without.l0, if_neg (by omega)]; simp)
  | x :: suf, i, o, h, ho => by
    obtain ⟨hi, hx, hd⟩ := drop_atF h
    refine Ev.shift ?_
    simp only [spileref34_Without.l0, if_pos (show (i : Int) < (l.length : Int) by omega), if_pos (show 0 ≤ (i : Int) by omega), hx, rhas_eq, Option.bind_some, wrap_up (show i ≤ 1000000 by omega)]
    by_cases c : kfE b x = id
    · simp only [if_pos c]
      have ih := rwith_l0 l hl b id suf (i + 1) o hd (by omega)
      rw [List.filter_cons, if_neg (by simp [c])]
      exact ih
    · simp only [if_neg c, if_pos (show o.length < 4398046511104 by omega)]
      have ih := rwith_l0 l hl b id suf (i + 1) (o ++ [x]) hd (by simp; omega)
      rw [List.filter_cons, if_pos (by simp [c])]
      simpa [List.append_assoc] using ih
theorem rwith_ev (l : List S30) (b id : Int) : Ev (fun k => spileref34_Without.f k l b id) (withoutE l b id) := by
  unfold spileref34_Without.f withoutE
  refine Ev.bind (rof_ev l b id) ?_
  by_cases c : (ofE l b id).2.2 = 0
  · simp only [if_pos c]
    have hl := (chk_ok (of_zero c).1).1
    exact rwith_l0 l (by omega) b id l 0 [] rfl (Nat.le_refl _)
  · simp only [if_neg c]
    exact Ev.const _
theorem drop_atN {l suf : List Int} {x : Int} {i : Nat} (h : l.drop i = x :: suf) : i < l.length ∧ l.drop (i + 1) = suf := ⟨(drop_atI h).1, (drop_atI h).2.2.1⟩
theorem same_l0 (l : List Int) (hl : l.length ≤ 1000) : ∀ (suf : List Int) (i : Nat), l.drop i = suf → Ev (fun k => spileref33_Same.l0 k l l (i : Int)) true
  | [], i, h => by
    have := drop_endI h
    exact Ev.succ (Ev.const _) (fun k => by rw [spileref33_Same.l0, if_neg (by omega)])
  | x :: suf, i, h => by
    obtain ⟨hi, hx, hd, _⟩ := drop_atI h
    refine Ev.succ (same_l0 l hl suf (i + 1) hd) (fun k => ?_)
    rw [spileref33_Same.l0, if_pos (by omega), if_pos (by omega), if_pos (by omega), if_pos rfl, wrap_up (by omega)]
theorem same_ev (l : List Int) (hl : l.length ≤ 1000) : Ev (fun k => spileref33_Same.f k l l) true := by
  unfold spileref33_Same.f
  simp only [if_true]
  exact same_l0 l hl l 0 rfl
theorem sameF_l0 (l : List S30) (hl : l.length ≤ 1000) : ∀ (suf : List S30) (i : Nat), l.drop i = suf → Ev (fun k => spileref34_Same.l0 k l l (i : Int)) true
  | [], i, h => by
    have := drop_endF h
    exact Ev.succ (Ev.const _) (fun k => by rw [spileref34_Same.l0, if_neg (by omega)])
  | x :: suf, i, h => by
    obtain ⟨hi, hx, hd⟩ := drop_atF h
    refine Ev.succ (sameF_l0 l hl suf (i + 1) hd) (fun k => ?_)
    rw [spileref34_Same.l0, if_pos (by omega), if_pos (by omega), if_pos (by omega), if_neg (by simp), wrap_up (by omega)]
theorem sameF_ev (l : List S30) (hl : l.length ≤ 1000) : Ev (fun k => spileref34_Same.f k l l) true := by
  unfold spileref34_Same.f
  simp only [if_true]
  exact sameF_l0 l hl l 0 rfl
theorem clone_ev (l : List S30) (h : l.length ≤ 1000) : Ev (fun _ => clone13.f l) l := ⟨0, fun _ _ => by unfold clone13.f; rw [if_pos (by omega)]⟩
theorem fewF_cases (l : List S30) : (spileref34_Few.f l = some true ∧ (l.length ≤ 14 ∨ l.length = 25)) ∨ spileref34_Few.f l = some false := by
  unfold spileref34_Few.f
  by_cases c : (l.length : Int) ≤ 14
  · rw [if_pos c]
    exact .inl ⟨rfl, .inl (by omega)⟩
  · rw [if_neg c]
    by_cases c2 : (l.length : Int) = 25
    · exact .inl ⟨by rw [c2]; rfl, .inr (by omega)⟩
    · exact .inr (by rw [beq_eq_false_iff_ne.2 c2])
end Go.Proofs.Ytfhmjleimampeaa.K
/- By hand: the reference's Test and Trend in plain words. -/
namespace Go.Proofs.Ytfhmjleimampeaa.K
open Go Go.RowKit Go.Proofs.YtfhmjleimampeaaW.PrintWords
set_option linter.unusedVariables false
set_option linter.unusedSimpArgs false
theorem rtest_ev (l : List S30) (b id : Int) : Ev (fun k => spileref34_Test.f k l b id) (testE l b id) := by
  unfold spileref34_Test.f testE
  refine Ev.bind (rof_ev l b id) ?_
  generalize ofE l b id = z
  by_cases c : z.2.2 = 0
  · simp only [if_pos c]
    by_cases c2 : z.2.1.length = 0
    · simp only [if_pos c2, if_pos (show (z.2.1.length : Int) = 0 by omega)]
      exact Ev.const _
    · simp only [if_neg c2, if_neg (show ¬ (z.2.1.length : Int) = 0 by omega)]
      exact Ev.bind (ratl_ev z.1 z.2.1) (Ev.const _)
  · simp only [if_neg c]
    exact Ev.const _
theorem rtrend_ev (l : List S30) (c : Int) : Ev (fun k => spileref34_Trend.f k l c) (trendE l c) := by
  unfold spileref34_Trend.f trendE
  refine Ev.bind (rof_ev l 1 c) ?_
  unfold ofE
  by_cases c0 : (chkE l).2 ≠ 0
  · rw [if_pos c0, if_pos c0]
    exact Ev.const _
  · rw [if_neg c0, if_neg c0, if_neg (show ¬ ¬ ((1 : Int) = 1 ∨ (1 : Int) = 2) by omega)]
    generalize grp (kfE 1) l c = own
    by_cases c1 : own = []
    · rw [if_pos c1, if_pos (by rw [c1]; rfl)]
      exact Ev.const _
    · have c1' : ¬ own.length = 0 := fun e => c1 (List.eq_nil_of_length_eq_zero e)
      rw [if_neg c1, if_neg c1']
      simp only [if_true]
      by_cases c2 : own.length > 20
      · simp only [if_pos c2, if_pos (show (own.length : Int) > 20 by omega)]
        exact Ev.const _
      · simp only [if_neg c2, if_neg (show ¬ (own.length : Int) > 20 by omega)]
        refine Ev.bind (rrises_ev own) ?_
        refine Ev.bind (ro_ev _ _) ?_
        refine Ev.bind (ro_ev _ _) ?_
        exact Ev.const _
end Go.Proofs.Ytfhmjleimampeaa.K
/- By hand: the reference's Sorted in plain words. -/
namespace Go.Proofs.Ytfhmjleimampeaa.K
open Go Go.RowKit Go.Proofs.YtfhmjleimampeaaW.PrintWords
set_option linter.unusedVariables false
set_option linter.unusedSimpArgs false
/-- The numbers of a list in ascending order. -/
def srt (xs : List Int) : List Int := xs.mergeSort (fun x y => decide (x ≤ y))
theorem srt_perm' (l : List Int) : (srt l).Perm l := List.mergeSort_perm _ _
theorem srt_asc' (l : List Int) : (srt l).Pairwise (· ≤ ·) := by
  have h := List.pairwise_mergeSort (le := fun x y : Int => decide (x ≤ y)) (fun a b c h1 h2 => by simp at h1 h2 ⊢; omega) (fun a b => by simp; omega) l
  exact h.imp (fun h => by simpa using h)
theorem asc_one {a b : List Int} (h : a.Perm b) (ha : a.Pairwise (· ≤ ·)) (hb : b.Pairwise (· ≤ ·)) : a = b :=
  h.eq_of_pairwise (fun _ _ _ _ h1 h2 => Int.le_antisymm h1 h2) ha hb
theorem rd_mid (A : List Int) (y : Int) (B : List Int) : rd (A ++ y :: B) (A.length : Int) = y := by
  unfold rd
  simp [List.getD_eq_getElem?_getD]
theorem set_mid (A : List Int) (y z : Int) (B : List Int) : (A ++ y :: B).set A.length z = A ++ z :: B := by
  simp
/-- x goes down to its place: A is what it may still pass, B what it has passed. -/
theorem sorted_l1 (i : Nat) (hi : i ≤ 1000) (x : Int) (tl : List Int) (S R : List Int) (n : Nat) :
    ∀ (A B : List Int), A.length = n → n + B.length = i → (A ++ B).Pairwise (· ≤ ·) → (∀ y ∈ B, x < y) → (A ++ B).Perm S →
    (∀ Y : List Int, Y.length = i + 1 → Y.Pairwise (· ≤ ·) → Y.Perm (x :: S) → Ev (fun k => spileref33_sorted.l0 k (Y ++ tl) ((i + 1 : Nat) : Int)) R) →
    Ev (fun k => spileref33_sorted.l1 k (A ++ x :: B ++ tl) (i : Int) (n : Int)) R := by
  induction n with
  | zero =>
    intro A B hA hB hs hx hp hN
    obtain rfl := List.eq_nil_of_length_eq_zero hA
    have h := hN (x :: B) (by simp; omega) (List.pairwise_cons.2 ⟨fun y hy => by have := hx y hy; omega, by simpa using hs⟩) (by simpa using hp.cons x)
    refine Ev.succ h (fun k => ?_)
    rw [spileref33_sorted.l1, if_neg (by omega), wrap_up (by omega)]
    rfl
  | succ n ih =>
    intro A B hA hB hs hx hp hN
    obtain ⟨A', y, rfl⟩ : ∃ A' y, A = A' ++ [y] := ⟨A.dropLast, A.getLast (by intro e; simp [e] at hA), (List.dropLast_concat_getLast _).symm⟩
    have hA' : A'.length = n := by simpa using hA
    have e1 : A' ++ [y] ++ x :: B ++ tl = A' ++ y :: (x :: (B ++ tl)) := by simp
    have e2 : A' ++ [y] ++ x :: B ++ tl = (A' ++ [y]) ++ x :: (B ++ tl) := by simp
    have hw : wrap64 (((n + 1 : Nat) : Int) - 1) = (n : Int) := by unfold wrap64; omega
    have r1 : rd (A' ++ [y] ++ x :: B ++ tl) (n : Int) = y := by rw [e1, ← hA']; exact rd_mid _ _ _
    have r2 : rd (A' ++ [y] ++ x :: B ++ tl) ((n + 1 : Nat) : Int) = x := by
      rw [e2, show n + 1 = (A' ++ [y]).length by simp [hA']]
      exact rd_mid _ _ _
    have hlen : ((A' ++ [y] ++ x :: B ++ tl).length : Int) ≥ n + 2 := by simp; omega
    by_cases c : y > x
    · have h := ih A' (y :: B) hA' (by simp at hB ⊢; omega) (by simpa using hs) (fun z hz => by
        rcases List.mem_cons.1 hz with rfl | hz
        · exact c
        · exact hx z hz) (by simpa using hp) hN
      refine Ev.succ h (fun k => ?_)
      rw [spileref33_sorted.l1, if_pos (by omega), hw, if_pos (by omega), if_pos (by omega), if_pos (by omega), if_pos (by omega), r1, r2, if_pos c, Int.toNat_natCast, Int.toNat_natCast]
      congr 1
      rw [e1, ← hA', set_mid, show A' ++ x :: x :: (B ++ tl) = (A' ++ [x]) ++ x :: (B ++ tl) by simp, show A'.length + 1 = (A' ++ [x]).length by simp, set_mid]
      simp
    · have h := hN (A' ++ [y] ++ x :: B) (by simp at hB hA ⊢; omega) (by
        have hs' := hs
        rw [List.pairwise_append] at hs ⊢
        obtain ⟨h1, h2, h3⟩ := hs
        refine ⟨h1, List.pairwise_cons.2 ⟨fun z hz => by have := hx z hz; omega, h2⟩, fun a ha b hb => ?_⟩
        rcases List.mem_cons.1 hb with rfl | hb
        · rcases List.mem_append.1 ha with ha | ha
          · have hay : a ≤ y := (List.pairwise_append.1 h1).2.2 a ha y (by simp)
            omega
          · have : a = y := by simpa using ha
            omega
        · exact h3 a ha b hb) (List.perm_middle.trans (hp.cons x))
      refine Ev.succ h (fun k => ?_)
      rw [spileref33_sorted.l1, if_pos (by omega), hw, if_pos (by omega), if_pos (by omega), if_pos (by omega), if_pos (by omega), r1, r2, if_neg c, wrap_up (by omega)]
theorem sorted_l0 (l : List Int) (hl : l.length ≤ 1000) (m : Nat) : ∀ (Y tl : List Int), Y.length + m = l.length → tl.length = m → Y.Pairwise (· ≤ ·) → (Y ++ tl).Perm l → Ev (fun k => spileref33_sorted.l0 k (Y ++ tl) (Y.length : Int)) (srt l) := by
  induction m with
  | zero =>
    intro Y tl hm ht hs hp
    obtain rfl := List.eq_nil_of_length_eq_zero ht
    rw [List.append_nil] at hp ⊢
    refine Ev.succ (Ev.const _) (fun k => ?_)
    rw [spileref33_sorted.l0, if_neg (by omega), asc_one (hp.trans (srt_perm' l).symm) hs (srt_asc' l)]
  | succ m ih =>
    intro Y tl hm ht hs hp
    obtain ⟨x, tl, rfl⟩ : ∃ x t, tl = x :: t := by
      cases tl with
      | nil => simp at ht
      | cons x t => exact ⟨x, t, rfl⟩
    have ht' : tl.length = m := by simpa using ht
    have h := sorted_l1 (R := srt l) Y.length (by omega) x tl Y Y.length Y [] rfl (by simp) (by simpa using hs) (fun y hy => by simp at hy) (by simp) (fun Z hZ hs2 hp2 => by
      have h2 := ih Z tl (by omega) ht' hs2 (((hp2.append_right tl).trans (by simpa using List.perm_middle.symm)).trans hp)
      rw [hZ] at h2
      exact h2)
    have e : Y ++ x :: [] ++ tl = Y ++ x :: tl := by simp
    rw [e] at h
    refine Ev.succ h (fun k => ?_)
    rw [spileref33_sorted.l0, if_pos (by simp; omega)]
theorem sorted_ev (l : List Int) (hl : l.length ≤ 1000) : Ev (fun k => spileref33_sorted.f k l) (srt l) := by
  unfold spileref33_sorted.f
  refine Ev.bind (g := fun _ => some ([] : List Int)) (Ev.const _) ?_
  have h := sorted_l0 l hl l.length [] l (by simp) rfl List.Pairwise.nil (by simp)
  simp only [if_pos (show ([] : List Int).length + l.length < 17592186044416 by simp; omega)]
  exact h
def sortE (l : List Int) : List Int × Int := if ftE l = 0 then (srt l, 0) else ([], ftE l)
theorem rsort_ev (l : List Int) : Ev (fun k => spileref33_Sorted.f k l) (sortE l) := by
  unfold spileref33_Sorted.f sortE
  refine Ev.bind (check_ev l) ?_
  by_cases hf : ftE l = 0
  · simp only [if_pos hf]
    exact Ev.bind (sorted_ev l (by have := (ft_ok hf).2.1; omega)) (Ev.const _)
  · simp only [if_neg hf]
    exact Ev.const _
end Go.Proofs.Ytfhmjleimampeaa.K
/- By hand: the reference's Suspects in plain words. -/
namespace Go.Proofs.Ytfhmjleimampeaa.K
open Go Go.RowKit Go.Proofs.YtfhmjleimampeaaW.PrintWords
set_option linter.unusedVariables false
set_option linter.unusedSimpArgs false
/-- Who is told first behind pre, of those that P holds of. -/
def goR (kf : S30 → Int) (P : Int → Bool) : List S30 → List S30 → List Int
  | _, [] => []
  | pre, x :: t => if pre.any (fun y => kf y == kf x) = true then goR kf P (pre ++ [x]) t else if P (kf x) = true then kf x :: goR kf P (pre ++ [x]) t else goR kf P (pre ++ [x]) t
theorem mem_goR (kf : S30 → Int) (P : Int → Bool) (z : Int) : ∀ (t pre : List S30), z ∈ goR kf P pre t ↔ P z = true ∧ (∃ y, y ∈ t ∧ kf y = z) ∧ ¬ ∃ y, y ∈ pre ∧ kf y = z
  | [], pre => by simp [goR]
  | x :: t, pre => by
    have ih := mem_goR kf P z t (pre ++ [x])
    have hany : pre.any (fun y => kf y == kf x) = true ↔ ∃ y, y ∈ pre ∧ kf y = kf x := by simp
    have hpre : (∃ y, y ∈ pre ++ [x] ∧ kf y = z) ↔ (∃ y, y ∈ pre ∧ kf y = z) ∨ kf x = z := by
      constructor
      · rintro ⟨y, h1, h2⟩
        rcases List.mem_append.1 h1 with h | h
        · exact .inl ⟨y, h, h2⟩
        · have : y = x := by simpa using h
          subst this
          exact .inr h2
      · rintro (⟨y, h1, h2⟩ | h)
        · exact ⟨y, List.mem_append_left _ h1, h2⟩
        · exact ⟨x, by simp, h⟩
    have hsuf : (∃ y, y ∈ x :: t ∧ kf y = z) ↔ kf x = z ∨ ∃ y, y ∈ t ∧ kf y = z := by
      constructor
      · rintro ⟨y, h1, h2⟩
        rcases List.mem_cons.1 h1 with rfl | h
        · exact .inl h2
        · exact .inr ⟨y, h, h2⟩
      · rintro (h | ⟨y, h1, h2⟩)
        · exact ⟨x, by simp, h⟩
        · exact ⟨y, List.mem_cons_of_mem _ h1, h2⟩
    rw [hpre] at ih
    rw [goR, hsuf]
    by_cases c : pre.any (fun y => kf y == kf x) = true
    · rw [if_pos c, ih]
      have h3 := hany.1 c
      constructor
      · rintro ⟨p1, p2, p3⟩
        exact ⟨p1, .inr p2, fun h => p3 (.inl h)⟩
      · rintro ⟨p1, p2, p3⟩
        have hx : kf x ≠ z := fun e => p3 (e ▸ h3)
        refine ⟨p1, ?_, ?_⟩
        · rcases p2 with h | h
          · exact absurd h hx
          · exact h
        · rintro (h | h)
          · exact p3 h
          · exact hx h
    · rw [if_neg c]
      have h3 : ¬ ∃ y, y ∈ pre ∧ kf y = kf x := fun h => c (hany.2 h)
      by_cases c2 : P (kf x) = true
      · rw [if_pos c2, List.mem_cons, ih]
        constructor
        · rintro (h | ⟨p1, p2, p3⟩)
          · subst h
            exact ⟨c2, .inl rfl, h3⟩
          · exact ⟨p1, .inr p2, fun h => p3 (.inl h)⟩
        · rintro ⟨p1, p2, p3⟩
          by_cases e : kf x = z
          · exact .inl e.symm
          · refine .inr ⟨p1, ?_, ?_⟩
            · rcases p2 with h | h
              · exact absurd h e
              · exact h
            · rintro (h | h)
              · exact p3 h
              · exact e h
      · rw [if_neg c2, ih]
        constructor
        · rintro ⟨p1, p2, p3⟩
          exact ⟨p1, .inr p2, fun h => p3 (.inl h)⟩
        · rintro ⟨p1, p2, p3⟩
          have e : kf x ≠ z := fun e => c2 (e ▸ p1)
          refine ⟨p1, ?_, ?_⟩
          · rcases p2 with h | h
            · exact absurd h e
            · exact h
          · rintro (h | h)
            · exact p3 h
            · exact e h
theorem nodup_goR (kf : S30 → Int) (P : Int → Bool) : ∀ (t pre : List S30), (goR kf P pre t).Pairwise (· ≠ ·)
  | [], pre => by simp [goR]
  | x :: t, pre => by
    have ih := nodup_goR kf P t (pre ++ [x])
    rw [goR]
    split
    · exact ih
    · split
      · refine List.pairwise_cons.2 ⟨fun z hz e => ?_, ih⟩
        subst e
        exact ((mem_goR kf P (kf x) t (pre ++ [x])).1 hz).2.2 ⟨x, by simp, rfl⟩
      · exact ih
theorem srt_goR (kf : S30 → Int) (P : Int → Bool) (l : List S30) : srt (goR kf P [] l) = (keysOf kf l).filter P := by
  refine asc_ext _ _ ?_ ((asc_keysOf kf l).sublist List.filter_sublist) (fun z => ?_)
  · have h1 := srt_asc' (goR kf P [] l)
    have h2 : (srt (goR kf P [] l)).Pairwise (· ≠ ·) := (srt_perm' _).symm.pairwise (nodup_goR kf P l []) (fun h => Ne.symm h)
    exact (h1.and h2).imp (fun h => by omega)
  · rw [(srt_perm' _).mem_iff, mem_goR, List.mem_filter, mem_keysOf]
    constructor
    · rintro ⟨h1, h2, _⟩
      exact ⟨h2, h1⟩
    · rintro ⟨h1, h2⟩
      exact ⟨h2, h1, fun ⟨y, hy, _⟩ => by cases hy⟩
def suspP (l : List S30) (b num den : Int) : Int → Bool := fun id => (testE l b id).2.2 == 0 && decide (wrap64 ((testE l b id).1 * den) ≤ wrap64 ((testE l b id).2.1 * num))
def finR (L : List Int) : List Int × Int := if L.length = 0 then ([], 0) else sortE L
section
variable {l : List S30} {b num den : Int} {R : List Int × Int} {O : List Int}
theorem rs_l1t (i : Nat) (hi : i ≤ 1000) (who : Int) (hN : Ev (fun k => spileref34_Suspects.l0 k l b num den O ((i + 1 : Nat) : Int)) R) (m : Nat) : ∀ j : Nat, j + m = i → Ev (fun k => spileref34_Suspects.l1 k l b num den O (i : Int) who true (j : Int)) R := by
  induction m with
  | zero =>
    intro j hj
    refine Ev.succ hN (fun k => ?_)
    rw [spileref34_Suspects.l1, if_neg (by omega), if_pos rfl, wrap_up (by omega)]
  | succ m ih =>
    intro j hj
    refine Ev.succ (ih (j + 1) (by omega)) (fun k => ?_)
    rw [spileref34_Suspects.l1, if_pos (by omega), if_pos rfl, wrap_up (by omega)]
theorem rs_l1 (i : Nat) (hi : i < l.length) (hl : l.length ≤ 1000) (who : Int) (hN : Ev (fun k => spileref34_Suspects.l0 k l b num den O ((i + 1 : Nat) : Int)) R)
    (hM : Ev (fun k => spileref34_Suspects.l1 k l b num den O (i : Int) who false (i : Int)) (if (l.take i).any (fun y => kfE b y == who) = true then R else R) ∨ True)
    (hF : (l.take i).any (fun y => kfE b y == who) = false → Ev (fun k => spileref34_Suspects.l1 k l b num den O (i : Int) who false (i : Int)) R) (m : Nat) :
    ∀ j : Nat, j + m = i → (l.take j).any (fun y => kfE b y == who) = false → Ev (fun k => spileref34_Suspects.l1 k l b num den O (i : Int) who false (j : Int)) R := by
  induction m with
  | zero =>
    intro j hj hf
    have e : j = i := by omega
    subst e
    exact hF hf
  | succ m ih =>
    intro j hj hf
    have hj2 : j < l.length := by omega
    have hx := rd_get30 l j hj2
    refine Ev.shift ?_
    simp only [spileref34_Suspects.l1, if_pos (show (j : Int) < (i : Int) by omega), Bool.false_eq_true, if_false, if_pos (show 0 ≤ (j : Int) by omega), if_pos (show (j : Int) < (l.length : Int) by omega), rhas_eq, Option.bind_some, wrap_up (show j ≤ 1000000 by omega)]
    have ht : (l.take (j + 1)).any (fun y => kfE b y == who) = (kfE b (rd_T30 l (j : Int)) == who) := by
      rw [← List.take_append_getElem hj2, List.any_append, hf, hx]
      simp
    cases hc : (kfE b (rd_T30 l (j : Int)) == who) with
    | true => exact rs_l1t i (by omega) who hN m (j + 1) (by omega)
    | false => exact ih (j + 1) (by omega) (by rw [ht, hc])
theorem rs_l0 (hl : l.length ≤ 1000) : ∀ (suf : List S30) (i : Nat) (O : List Int), l.drop i = suf → O.length ≤ i → Ev (fun k => spileref34_Suspects.l0 k l b num den O (i : Int)) (finR (O ++ goR (kfE b) (suspP l b num den) (l.take i) suf))
  | [], i, O, h, hO => by
    have := drop_endF h
    refine Ev.shift ?_
    simp only [spileref34_Suspects.l0, if_neg (show ¬ (i : Int) < (l.length : Int) by omega), goR, List.append_nil, finR]
    by_cases c : O.length = 0
    · simp only [if_pos c, if_pos (show (O.length : Int) = 0 by omega)]
      exact Ev.const _
    · simp only [if_neg c, if_neg (show ¬ (O.length : Int) = 0 by omega)]
      exact Ev.bind (rsort_ev O) (Ev.const _)
  | x :: suf, i, O, h, hO => by
    obtain ⟨hi, hx, hd⟩ := drop_atF h
    have hxi : l[i] = x := by rw [← rd_get30 l i hi, hx]
    have htk : l.take (i + 1) = l.take i ++ [x] := by rw [← List.take_append_getElem hi, hxi]
    refine Ev.shift ?_
    simp only [spileref34_Suspects.l0, if_pos (show (i : Int) < (l.length : Int) by omega), if_pos (show 0 ≤ (i : Int) by omega), hx, rhas_eq, Option.bind_some]
    have ihn := rs_l0 hl suf (i + 1) O hd (by omega)
    rw [htk] at ihn
    rw [goR]
    by_cases c : (l.take i).any (fun y => kfE b y == kfE b x) = true
    · rw [if_pos c]
      exact rs_l1 i hi hl (kfE b x) ihn (.inr trivial) (fun hf => by rw [c] at hf; cases hf) i 0 (by omega) (by simp)
    · rw [if_neg c]
      have hT := rtest_ev l b (kfE b x)
      by_cases c2 : suspP l b num den (kfE b x) = true
      · rw [if_pos c2]
        have ihy := rs_l0 hl suf (i + 1) (O ++ [kfE b x]) hd (by simp; omega)
        rw [htk, List.append_assoc] at ihy
        -- the test holds
        unfold suspP at c2
        rw [Bool.and_eq_true, beq_iff_eq, decide_eq_true_eq] at c2
        have hF : Ev (fun k => spileref34_Suspects.l1 k l b num den O (i : Int) (kfE b x) false (i : Int)) (finR (O ++ ([kfE b x] ++ goR (kfE b) (suspP l b num den) (l.take i ++ [x]) suf))) := by
          refine Ev.shift ?_
          simp only [spileref34_Suspects.l1, if_neg (show ¬ (i : Int) < (i : Int) by omega), Bool.false_eq_true, if_false]
          refine Ev.bind hT ?_
          simp only [if_pos c2.1, if_pos c2.2, if_pos (show O.length < 17592186044416 by omega), wrap_up (show i ≤ 1000000 by omega)]
          exact ihy
        -- who is told first: no round finds it known
        have hz : ∀ (m j : Nat), j + m = i → Ev (fun k => spileref34_Suspects.l1 k l b num den O (i : Int) (kfE b x) false (j : Int)) (finR (O ++ ([kfE b x] ++ goR (kfE b) (suspP l b num den) (l.take i ++ [x]) suf))) := fun m => by
          induction m with
          | zero =>
            intro j hj
            have e : j = i := by omega
            subst e
            exact hF
          | succ m ih =>
            intro j hj
            have hj2 : j < l.length := by omega
            have hne : (kfE b (rd_T30 l (j : Int)) == kfE b x) = false := by
              rw [rd_get30 l j hj2]
              cases hb : (kfE b l[j] == kfE b x) with
              | false => rfl
              | true => exact absurd (List.any_eq_true.2 ⟨l[j], List.mem_take_iff_getElem.2 ⟨j, by omega, rfl⟩, hb⟩) c
            refine Ev.shift ?_
            simp only [spileref34_Suspects.l1, if_pos (show (j : Int) < (i : Int) by omega), Bool.false_eq_true, if_false, if_pos (show 0 ≤ (j : Int) by omega), if_pos (show (j : Int) < (l.length : Int) by omega), rhas_eq, Option.bind_some, wrap_up (show j ≤ 1000000 by omega), hne]
            exact ih (j + 1) (by omega)
        exact hz i 0 (by omega)
      · rw [if_neg c2]
        have hF : Ev (fun k => spileref34_Suspects.l1 k l b num den O (i : Int) (kfE b x) false (i : Int)) (finR (O ++ goR (kfE b) (suspP l b num den) (l.take i ++ [x]) suf)) := by
          refine Ev.shift ?_
          simp only [spileref34_Suspects.l1, if_neg (show ¬ (i : Int) < (i : Int) by omega), Bool.false_eq_true, if_false]
          refine Ev.bind hT ?_
          by_cases c3 : (testE l b (kfE b x)).2.2 = 0
          · have c4 : ¬ wrap64 ((testE l b (kfE b x)).1 * den) ≤ wrap64 ((testE l b (kfE b x)).2.1 * num) := fun e => c2 (by unfold suspP; rw [beq_iff_eq.2 c3, decide_eq_true e]; rfl)
            simp only [if_pos c3, if_neg c4, wrap_up (show i ≤ 1000000 by omega)]
            exact ihn
          · simp only [if_neg c3, wrap_up (show i ≤ 1000000 by omega)]
            exact ihn
        exact rs_l1 i hi hl (kfE b x) ihn (.inr trivial) (fun _ => hF) i 0 (by omega) (by simp)
end
theorem fin_eq {l : List S30} {b num den : Int} (hc : (chkE l).2 = 0) : finR (goR (kfE b) (suspP l b num den) [] l) = ((keysOf (kfE b) l).filter (suspP l b num den), 0) := by
  have hs := srt_goR (kfE b) (suspP l b num den) l
  have hp := srt_perm' (goR (kfE b) (suspP l b num den) [] l)
  rw [hs] at hp
  unfold finR
  by_cases c : (goR (kfE b) (suspP l b num den) [] l).length = 0
  · rw [if_pos c]
    rw [List.eq_nil_of_length_eq_zero c] at hp
    rw [hp.eq_nil]
  · rw [if_neg c]
    have hlen := hp.length_eq
    have h1 := List.length_filter_le (suspP l b num den) (keysOf (kfE b) l)
    have h2 := len_keysOf (kfE b) l
    have h3 := (chk_ok hc).1
    have hft : ftE (goR (kfE b) (suspP l b num den) [] l) = 0 := by
      unfold ftE
      rw [if_neg c, if_neg (by omega), if_neg]
      intro e
      obtain ⟨z, hz, hz2⟩ := List.any_eq_true.1 e
      obtain ⟨_, ⟨y, hy, hk⟩, _⟩ := (mem_goR _ _ z l []).1 hz
      obtain ⟨_, r1, r2, _⟩ := (chk_ok hc).2 y hy
      unfold offS at hz2
      simp only [Bool.or_eq_true, decide_eq_true_eq] at hz2
      unfold kfE at hk
      split at hk
      · have hk : y.f1 = z := hk
        omega
      · have hk : y.f2 = z := hk
        omega
    unfold sortE
    rw [if_pos hft, hs]
theorem rsusp_ev (l : List S30) (b num den : Int) : Ev (fun k => spileref34_Suspects.f k l b num den) (suspE l b num den) := by
  unfold spileref34_Suspects.f
  refine Ev.bind (rstart_ev l b) ?_
  unfold suspE
  by_cases c0 : (chkE l).2 = 0
  · rw [if_neg (show ¬ (chkE l).2 ≠ 0 from fun e => e c0)]
    have hl := (chk_ok c0).1
    have bad : Ev (fun k => spileref34_Suspects.j0 k l b num den true) ([], 2) := Ev.succ (Ev.const _) (fun k => by rw [spileref34_Suspects.j0, if_pos rfl])
    by_cases c1 : b = 1 ∨ b = 2
    · have e : startE l b = 0 := by
        unfold startE
        rw [if_pos c0]
        rcases c1 with rfl | rfl <;> rfl
      simp only [e, if_true]
      by_cases d0 : den < 1
      · rw [if_pos (.inr (.inl d0))]
        simp only [if_pos d0]
        exact bad
      · by_cases d1 : den > 1000000
        · rw [if_pos (.inr (.inr (.inl d1)))]
          simp only [if_neg d0, if_pos d1]
          exact bad
        · by_cases d2 : num < 0
          · rw [if_pos (.inr (.inr (.inr (.inl d2))))]
            simp only [if_neg d0, if_neg d1, if_pos d2]
            exact bad
          · by_cases d3 : num > den
            · rw [if_pos (.inr (.inr (.inr (.inr d3))))]
              simp only [if_neg d0, if_neg d1, if_neg d2, decide_eq_true d3]
              exact bad
            · rw [if_neg (by omega)]
              simp only [if_neg d0, if_neg d1, if_neg d2, decide_eq_false d3]
              refine Ev.shift ?_
              simp only [spileref34_Suspects.j0, Bool.false_eq_true, if_false]
              have h := rs_l0 (l := l) (b := b) (num := num) (den := den) (by omega) l 0 [] rfl (Nat.le_refl _)
              rw [List.take_zero, List.nil_append, fin_eq c0] at h
              exact h
    · have e : startE l b = 2 := by
        unfold startE
        rw [if_pos c0, if_neg (fun e => c1 (.inl e)), if_neg (fun e => c1 (.inr e))]
      rw [if_pos (.inl c1)]
      simp only [e]
      exact Ev.const _
  · have e : startE l b = 1 := by
      unfold startE
      rw [if_neg c0]
    rw [if_pos c0]
    simp only [e]
    exact Ev.const _
end Go.Proofs.Ytfhmjleimampeaa.K
/- By hand: the plain law of SuspectNames. -/
namespace Go.Proofs.Ytfhmjleimampeaa.K
open Go Go.RowKit Go.Proofs.YtfhmjleimampeaaW.PrintWords
set_option linter.unusedVariables false
set_option linter.unusedSimpArgs false
theorem susp_len (l : List S30) (b num den : Int) (hl : l.length ≤ 1000) : (suspE l b num den).1.length ≤ 1000 := by
  unfold suspE
  split
  · simp
  · split
    · simp
    · have h1 := List.length_filter_le (fun id => (testE l b id).2.2 == 0 && decide (wrap64 ((testE l b id).1 * den) ≤ wrap64 ((testE l b id).2.1 * num))) (keysOf (kfE b) l)
      have h2 := len_keysOf (kfE b) l
      simp only
      omega
theorem names_pure : SuspectNamesPure := by
  intro l b t hl hb ht
  obtain ⟨num, den⟩ := t
  refine Ev.one (g := fun k => spilelaw34_SuspectNames.f k l b num den) ?_
  unfold spilelaw34_SuspectNames.f
  refine Ev.bind awake_ev ?_
  simp only [if_true]
  rcases fewF_cases l with ⟨hF, hlen⟩ | hF
  · refine Ev.bind (g := fun _ => spileref34_Few.f l) (r := true) ⟨0, fun _ _ => hF⟩ ?_
    simp only [if_true]
    have h1000 : l.length ≤ 1000 := by omega
    refine Ev.bind (clone_ev l h1000) ?_
    refine Ev.bind (g := fun _ => suspect_Suspects.f l b num den) (r := suspE l b num den) ⟨0, fun _ _ => rfl⟩ ?_
    refine Ev.bind (rsusp_ev l b num den) ?_
    refine Ev.bind (same_ev _ (susp_len l b num den h1000)) ?_
    simp only [if_true]
    exact Ev.congr (Ev.const true) (fun k => by simp)
  · refine Ev.bind (g := fun _ => spileref34_Few.f l) (r := false) ⟨0, fun _ _ => hF⟩ ?_
    simp only [Bool.false_eq_true, if_false]
    exact Ev.const true
end Go.Proofs.Ytfhmjleimampeaa.K
namespace Go.Proofs.Ytfhmjleimampeaa.Pure
theorem SuspectNames : K.SuspectNamesPure := K.names_pure
end Go.Proofs.Ytfhmjleimampeaa.Pure
