/- By hand: the plain law of RankComplements. -/
import Derived.Test.YtbkoghmbacdiiaaPOrders
namespace Go.Proofs.Ytbkoghmbacdiiaa.K
open Go Go.RowKit Go.Proofs.YtbkoghmbacdiiaaW.PrintWords
set_option linter.unusedVariables false
set_option linter.unusedSimpArgs false
def facW : Nat → Int
  | 0 => 1
  | j + 1 => wrap64 (facW j * ((j + 2 : Nat) : Int))
def chkT (n : Nat) : Bool := decide ((tb n).reverse = tb n) && ((tb n).all fun x => decide (0 < x)) && decide (isum (tb n) = facW n) && decide (isum (tb n) ≤ 4611686018427387904)
theorem chk_all : (List.range 20).all chkT = true := by decide +kernel
theorem chk_at {n : Nat} (h : n < 20) : (tb n).reverse = tb n ∧ (∀ x ∈ tb n, 0 < x) ∧ isum (tb n) = facW n ∧ isum (tb n) ≤ 4611686018427387904 := by
  have h1 := List.all_eq_true.1 chk_all n (List.mem_range.2 h)
  simp only [chkT, Bool.and_eq_true, decide_eq_true_eq, List.all_eq_true] at h1
  exact ⟨h1.1.1.1, h1.1.1.2, h1.1.2, h1.2⟩
theorem isum_pos : ∀ {L : List Int}, (∀ x ∈ L, 0 < x) → 0 ≤ isum L
  | [], _ => Int.le_refl _
  | x :: L, h => by
    have := h x (by simp)
    have := isum_pos (L := L) (fun y hy => h y (List.mem_cons_of_mem _ hy))
    rw [isum_cons]
    omega
theorem sumW_eq : ∀ (L : List Int) (s : Int), (∀ x ∈ L, 0 < x) → 0 ≤ s → s + isum L ≤ 4611686018427387904 → sumW s L = s + isum L
  | [], s, _, _, _ => by simp [sumW, isum_nil]
  | x :: L, s, h, h0, h1 => by
    have hx := h x (by simp)
    have hp := isum_pos (L := L) (fun y hy => h y (List.mem_cons_of_mem _ hy))
    rw [isum_cons] at h1 ⊢
    have e : wrap64 (s + x) = s + x := by unfold wrap64; omega
    have ih := sumW_eq L (s + x) (fun y hy => h y (List.mem_cons_of_mem _ hy)) (by omega) (by omega)
    show sumW (wrap64 (s + x)) L = _
    rw [e, ih]
    omega
theorem isum_rev (L : List Int) : isum L.reverse = isum L := by
  induction L with
  | nil => rfl
  | cons x L ih => rw [List.reverse_cons, isum_append, ih, isum_cons, isum_cons, isum_nil]; omega
theorem isum_split (L : List Int) (r : Nat) : isum L = isum (L.take r) + isum (L.drop r) := by rw [← isum_append, List.take_append_drop]
theorem pal_sum {L : List Int} (hp : L.reverse = L) {r : Nat} (hr : r ≤ L.length) : isum (L.drop (L.length - r)) = isum L - isum (L.drop r) := by
  have h1 : isum (L.drop (L.length - r)) = isum (L.take r) := by
    have h2 : L.take r = (L.drop (L.length - r)).reverse := by
      rw [List.reverse_drop, hp]
      congr 1
      omega
    rw [h2, isum_rev]
  have := isum_split L r
  omega
theorem drop_ge {L : List Int} (h : ∀ x ∈ L, 0 < x) {r : Nat} (hr : r < L.length) : isum (L.drop r) = L[r] + isum (L.drop (r + 1)) ∧ 0 < L[r] ∧ 0 ≤ isum (L.drop (r + 1)) := by
  refine ⟨by rw [List.drop_eq_getElem_cons hr, isum_cons], h _ (List.getElem_mem _), isum_pos (fun x hx => h x (List.mem_of_mem_drop hx))⟩
section
variable {n r : Nat}
def sm (n r : Nat) : Int := isum ((tb (n - 1)).drop r)
theorem ordE_in (h1 : 1 ≤ n) (h2 : n ≤ 20) (h3 : r ≤ (n - 1) * n / 2) : ordE (n : Int) (r : Int) = (sm n r, 0) := by
  obtain ⟨hp, hq, hf, hb⟩ := chk_at (n := n - 1) (by omega)
  have e : (((n - 1) * n / 2 : Nat) : Int) = ((n : Int) - 1) * (n : Int) / 2 := by
    rw [Int.natCast_ediv, Int.natCast_mul, Int.ofNat_sub (by omega)]
    rfl
  have e2 : ((n : Int).toNat - 1) = n - 1 := by rw [Int.toNat_natCast]
  unfold ordE
  rw [if_pos ⟨by omega, by omega, by omega, by omega⟩, e2, Int.toNat_natCast]
  have hs := isum_split (tb (n - 1)) r
  have hk := isum_pos (L := (tb (n - 1)).take r) (fun x hx => hq x (List.mem_of_mem_take hx))
  rw [sumW_eq _ 0 (fun x hx => hq x (List.mem_of_mem_drop hx)) (Int.le_refl _) (by omega), Int.zero_add]
  rfl
theorem len_in (h1 : 1 ≤ n) : (tb (n - 1)).length = (n - 1) * n / 2 + 1 := by
  rw [tb_len, show n - 1 + 1 = n by omega]
theorem sm_facts (h1 : 1 ≤ n) (h2 : n ≤ 20) (h3 : r ≤ (n - 1) * n / 2) : 1 ≤ sm n r ∧ sm n r ≤ sm n 0 ∧ sm n 0 = facW (n - 1) ∧ sm n 0 ≤ 4611686018427387904 ∧ (0 < r → sm n (r - 1) ≥ sm n r ∧ sm n ((n - 1) * n / 2 - r + 1) = sm n 0 - sm n r) := by
  obtain ⟨hp, hq, hf, hb⟩ := chk_at (n := n - 1) (by omega)
  have hl := len_in (n := n) h1
  have hd := drop_ge hq (r := r) (by omega)
  have hs := isum_split (tb (n - 1)) r
  have hk := isum_pos (L := (tb (n - 1)).take r) (fun x hx => hq x (List.mem_of_mem_take hx))
  have e0 : sm n 0 = isum (tb (n - 1)) := rfl
  refine ⟨by unfold sm; omega, by rw [e0]; unfold sm; omega, by rw [e0, hf], by rw [e0]; exact hb, fun h0 => ⟨?_, ?_⟩⟩
  · have hd1 := drop_ge hq (r := r - 1) (by omega)
    rw [show r - 1 + 1 = r by omega] at hd1
    unfold sm
    omega
  · have h := pal_sum hp (r := r) (by omega)
    rw [e0]
    unfold sm
    rw [show (n - 1) * n / 2 - r + 1 = (tb (n - 1)).length - r by omega]
    exact h
end
theorem comp_l0 {n r : Nat} {x5 x7 x8 : Int} (h2 : n ≤ 20) (hE : Ev (fun k => spilelaw33_RankComplements.j2 k (n : Int) (r : Int) x5 x7 x8 (decide (x5 > x8))) true) (h5 : 1 ≤ x5) (h8 : x8 = facW (n - 1)) (m : Nat) : ∀ j : Nat, j + 1 + m = n →
    Ev (fun k => spilelaw33_RankComplements.l0 k (n : Int) (r : Int) x5 x7 x8 0 (facW j) ((j + 2 : Nat) : Int)) true := by
  induction m with
  | zero =>
    intro j hj
    have e : facW j = x8 := by rw [h8, show n - 1 = j by omega]
    refine Ev.succ hE (fun k => ?_)
    rw [spilelaw33_RankComplements.l0, if_neg (by omega), if_pos rfl, if_pos e.symm, if_neg (by omega)]
  | succ m ih =>
    intro j hj
    refine Ev.succ (ih (j + 1) (by omega)) (fun k => ?_)
    have e : wrap64 (((j + 2 : Nat) : Int) + 1) = ((j + 1 + 2 : Nat) : Int) := wrap_up (by omega)
    rw [spilelaw33_RankComplements.l0, if_pos (by omega), e]
    rfl
theorem comp_j2 {n r : Nat} (h1 : 1 ≤ n) (h2 : n ≤ 20) (h3 : r ≤ (n - 1) * n / 2) : Ev (fun k => spilelaw33_RankComplements.j2 k (n : Int) (r : Int) (sm n r) (((n - 1) * n / 2 : Nat) : Int) (sm n 0) (decide (sm n r > sm n 0))) true := by
  obtain ⟨f1, f2, f3, f4, f5⟩ := sm_facts h1 h2 h3
  refine Ev.shift ?_
  simp only [spilelaw33_RankComplements.j2, decide_eq_true_eq]
  simp only [if_neg (show ¬ sm n r > sm n 0 by omega)]
  by_cases h0 : r = 0
  · simp only [if_pos (show (r : Int) = 0 by omega)]
    exact Ev.const _
  · simp only [if_neg (show ¬ (r : Int) = 0 by omega)]
    obtain ⟨f6, f7⟩ := f5 (by omega)
    have hb := tri_bd (n := n) h2
    have hm : (n - 1) * n ≤ n * (n + 1) := Nat.mul_comm (n - 1) n ▸ Nat.mul_le_mul (Nat.le_refl _) (by omega)
    have hw1 : wrap64 ((r : Int) - 1) = ((r - 1 : Nat) : Int) := by unfold wrap64; omega
    have hw2 : wrap64 (wrap64 ((((n - 1) * n / 2 : Nat) : Int) - (r : Int)) + 1) = (((n - 1) * n / 2 - r + 1 : Nat) : Int) := by
      rw [show wrap64 ((((n - 1) * n / 2 : Nat) : Int) - (r : Int)) = (((n - 1) * n / 2 - r : Nat) : Int) by unfold wrap64; omega]
      exact wrap_up (by omega)
    have hw3 : wrap64 (sm n 0 - sm n r) = sm n 0 - sm n r := by unfold wrap64; omega
    have y := ord_ev (n : Int) (((r - 1 : Nat) : Int))
    rw [ordE_in h1 h2 (by omega)] at y
    have z := ord_ev (n : Int) ((((n - 1) * n / 2 - r + 1 : Nat) : Int))
    rw [ordE_in h1 h2 (by omega)] at z
    simp only [hw1, hw2]
    refine Ev.bind y ?_
    refine Ev.bind z ?_
    simp only [if_true, if_pos f6, hw3, f7]
    exact Ev.congr (Ev.const true) (fun k => by simp)
theorem RankComplementsPure : spilelaw33_RankComplements.Pure := by
  intro a0 a1 _ _
  refine Ev.one ?_
  unfold spilelaw33_RankComplements.f
  refine Ev.bind awake_ev ?_
  simp only [if_true]
  refine Ev.bind (ord_ev a0 a1) ?_
  by_cases h : 1 ≤ a0 ∧ a0 ≤ 20 ∧ 0 ≤ a1 ∧ a1 ≤ (a0 - 1) * a0 / 2
  · obtain ⟨h1, h2, h3, h4⟩ := h
    obtain ⟨n, rfl⟩ : ∃ n : Nat, a0 = (n : Int) := ⟨a0.toNat, by omega⟩
    obtain ⟨r, rfl⟩ : ∃ r : Nat, a1 = (r : Int) := ⟨a1.toNat, by omega⟩
    have e : (((n - 1) * n / 2 : Nat) : Int) = ((n : Int) - 1) * (n : Int) / 2 := by
      rw [Int.natCast_ediv, Int.natCast_mul, Int.ofNat_sub (by omega)]
      rfl
    have g1 : 1 ≤ n := by omega
    have g2 : n ≤ 20 := by omega
    have g3 : r ≤ (n - 1) * n / 2 := by omega
    obtain ⟨f1, f2, f3, f4, f5⟩ := sm_facts g1 g2 g3
    have ht := tri_w h1 h2
    rw [← e] at ht
    rw [ordE_in g1 g2 g3]
    simp only [if_true, if_neg (show ¬ (n : Int) < 1 by omega), decide_eq_false (show ¬ (n : Int) > 20 by omega)]
    refine Ev.shift ?_
    simp only [spilelaw33_RankComplements.j0, Bool.false_eq_true, if_false]
    have h0 := ord_ev (n : Int) ((0 : Nat) : Int)
    rw [ordE_in g1 g2 (Nat.zero_le _)] at h0
    refine Ev.bind h0 ?_
    simp only [ht]
    exact comp_l0 g2 (comp_j2 g1 g2 g3) f1 f3 (n - 1) 0 (by omega)
  · have e : ordE a0 a1 = (0, 2) := by unfold ordE; rw [if_neg h]
    rw [e]
    exact Ev.congr (Ev.const true) (fun k => by kernel_rfl)
end Go.Proofs.Ytbkoghmbacdiiaa.K
namespace Go.Proofs.Ytbkoghmbacdiiaa.Pure
theorem RankComplements : K.spilelaw33_RankComplements.Pure := K.RankComplementsPure
end Go.Proofs.Ytbkoghmbacdiiaa.Pure
