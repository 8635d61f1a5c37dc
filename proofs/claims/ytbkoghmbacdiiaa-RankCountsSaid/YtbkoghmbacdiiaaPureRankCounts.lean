/- By hand: the plain law of RankCounts: the binomial numbers, the reference's table of counts, the law. -/
import Derived.Test.YtbkoghmbacdiiaaPWays
import Derived.Test.YtbkoghmbacdiiaaPRanks
import Derived.Test.YtbkoghmbacdiiaaK16
import Derived.Test.YtbkoghmbacdiiaaK17
namespace Go.Proofs.Ytbkoghmbacdiiaa.K
open Go Go.RowKit Go.Proofs.YtbkoghmbacdiiaaW.PrintWords
set_option linter.unusedVariables false
set_option linter.unusedSimpArgs false
theorem isum_pos : ∀ {L : List Int}, (∀ x ∈ L, 0 < x) → 0 ≤ isum L
  | [], _ => Int.le_refl _
  | x :: L, h => by
    have := h x (by simp)
    have := isum_pos (L := L) (fun y hy => h y (List.mem_cons_of_mem _ hy))
    rw [isum_cons]
    omega
theorem sumW_eq : ∀ (L : List Int) (s : Int), (∀ x ∈ L, 0 < x) → 0 ≤ s → s + isum L ≤ 4611686018427387904 → sumW s L = s + isum L
  | [], s, _, _, _ => by simp [sumW, isum_nil]
  | x :: L, s, h, h0, h1 => by
    have hx := h x (by simp)
    have hp := isum_pos (L := L) (fun y hy => h y (List.mem_cons_of_mem _ hy))
    rw [isum_cons] at h1 ⊢
    have e : wrap64 (s + x) = s + x := by unfold wrap64; omega
    have ih := sumW_eq L (s + x) (fun y hy => h y (List.mem_cons_of_mem _ hy)) (by omega) (by omega)
    show sumW (wrap64 (s + x)) L = _
    rw [e, ih]
    omega
theorem isum_split (L : List Int) (r : Nat) : isum L = isum (L.take r) + isum (L.drop r) := by rw [← isum_append, List.take_append_drop]
theorem drop_ge {L : List Int} (h : ∀ x ∈ L, 0 < x) {r : Nat} (hr : r < L.length) : isum (L.drop r) = L[r] + isum (L.drop (r + 1)) ∧ 0 < L[r] ∧ 0 ≤ isum (L.drop (r + 1)) := by
  refine ⟨by rw [List.drop_eq_getElem_cons hr, isum_cons], h _ (List.getElem_mem _), isum_pos (fun x hx => h x (List.mem_of_mem_drop hx))⟩
def bn : Nat → Nat → Nat
  | 0, 0 => 1
  | 0, _ + 1 => 0
  | _ + 1, 0 => 1
  | n + 1, k + 1 => bn n (k + 1) + bn n k
theorem bn_zero (n : Nat) : bn n 0 = 1 := by cases n <;> rfl
theorem bn_le : ∀ n k : Nat, bn n k ≤ 2 ^ n
  | 0, 0 => by decide
  | 0, k + 1 => by simp [bn]
  | n + 1, 0 => by rw [bn_zero]; exact Nat.one_le_two_pow
  | n + 1, k + 1 => by
    have h1 := bn_le n (k + 1)
    have h2 := bn_le n k
    rw [bn, Nat.pow_succ]
    omega
theorem chW_bn : ∀ n k : Nat, n ≤ 60 → chW n k = (bn n k : Int)
  | 0, 0, _ => rfl
  | 0, k + 1, _ => rfl
  | n + 1, 0, _ => by rw [chW_zero, bn_zero]; rfl
  | n + 1, k + 1, h => by
    have h1 := bn_le n (k + 1)
    have h2 := bn_le n k
    have h3 : 2 ^ n ≤ 2 ^ 60 := Nat.pow_le_pow_right (by omega) (by omega)
    have h4 : (2 : Nat) ^ 60 = 1152921504606846976 := by decide
    show wrap64 (chW n (k + 1) + chW n k) = _
    rw [chW_bn n (k + 1) (by omega), chW_bn n k (by omega), bn]
    push_cast
    generalize bn n (k + 1) = a at h1
    generalize bn n k = b at h2
    unfold wrap64
    omega
theorem sumR_zero (f : Int → Int) : ∀ n : Nat, (∀ t : Int, 0 ≤ t → t < n → f t = 0) → sumR f n = 0
  | 0, _ => rfl
  | n + 1, h => by
    rw [show sumR f (n + 1) = sumR f n + f n from rfl, sumR_zero f n (fun t h0 h1 => h t h0 (by omega)), h n (by omega) (by omega)]
    rfl
theorem sumR_sum (f g : Int → Int) : ∀ n : Nat, sumR (fun t => f t + g t) n = sumR f n + sumR g n
  | 0 => rfl
  | n + 1 => by
    have ih := sumR_sum f g n
    rw [show sumR (fun t => f t + g t) (n + 1) = sumR (fun t => f t + g t) n + (f n + g n) from rfl, show sumR f (n + 1) = sumR f n + f n from rfl, show sumR g (n + 1) = sumR g n + g n from rfl, ih]
    omega
theorem sumR_shift (f : Int → Int) (r : Nat) (h : ∀ t : Int, t < 0 → f t = 0) : ∀ M : Nat, sumR (fun t => f (t - r)) (r + M) = sumR f M
  | 0 => by
    rw [Nat.add_zero]
    exact sumR_zero _ r (fun t h0 h1 => h _ (by omega))
  | M + 1 => by
    have ih := sumR_shift f r h M
    rw [show sumR (fun t => f (t - r)) (r + (M + 1)) = sumR (fun t => f (t - r)) (r + M) + f (((r + M : Nat) : Int) - r) from rfl, ih, show ((r + M : Nat) : Int) - r = M by omega]
    rfl
theorem tot_step {n : Nat} {C : Nat → Int → Nat} (hB : CB n C) (hn : n ≤ 23) {r : Int} (h0 : 0 ≤ r) (h1 : r ≤ 100) (p : Nat) :
    wAll (p + 1) (stepC r C) = wAll (p + 1) C + wAll p C := by
  obtain ⟨q, rfl⟩ : ∃ q : Nat, r = (q : Int) := ⟨r.toNat, by omega⟩
  have hz : ∀ t : Int, t < 0 ∨ 2400 ≤ t → (C p t : Int) = 0 := fun t ht => by
    have := hB.pos p t
    omega
  have e1 : wAll (p + 1) (stepC (q : Int) C) = sumR (fun t => (C (p + 1) t : Int) + (C p (t - q) : Int)) 3000 := by
    unfold wAll
    exact sumR_congr 3000 (fun t _ _ => by unfold stepC; push_cast; rfl)
  have e2 := sumR_shift (fun t => (C p t : Int)) q (fun t ht => hz t (.inl ht)) (3000 - q)
  rw [show q + (3000 - q) = 3000 by omega] at e2
  have e3 := sumR_cut (fun t => (C p t : Int)) (3000 - q) 3000 (by omega) (fun t ht => hz t (.inr (by omega)))
  rw [e1, sumR_sum, e2, ← e3]
  rfl
theorem tot_zero {n : Nat} {C : Nat → Int → Nat} (r : Int) : wAll 0 (stepC r C) = wAll 0 C := by
  unfold wAll
  exact sumR_congr 3000 (fun t _ _ => by unfold stepC; simp)
theorem tot_C0 : ∀ p : Nat, wAll p C0 = (bn 0 p : Int)
  | 0 => by
    unfold wAll
    rw [sumR_cut _ 1 3000 (by omega) (fun t ht => by unfold C0; rw [if_neg (by omega)]; rfl)]
    rfl
  | p + 1 => by
    unfold wAll
    rw [sumR_zero _ 3000 (fun t _ _ => by unfold C0; rw [if_neg (by omega)]; rfl)]
    rfl
/-- All choices of p of the numbers R. -/
theorem tot_bn (R : List Int) (h : ∀ r ∈ R, 0 ≤ r ∧ r ≤ 100) (hR : R.length ≤ 24) : ∀ i : Nat, i ≤ R.length → ∀ p : Nat, wAll p (cntL (R.take i)) = (bn i p : Int)
  | 0, _, p => by rw [List.take_zero]; exact tot_C0 p
  | i + 1, hi, p => by
    have ih := tot_bn R h hR i (by omega)
    have hB := cntL_bd R h i (by omega)
    have hr := h R[i] (List.getElem_mem _)
    rw [← List.take_append_getElem (show i < R.length by omega), cntL_snoc]
    cases p with
    | zero => rw [tot_zero (n := i), ih 0, bn_zero, bn_zero]
    | succ p =>
      rw [tot_step hB (by omega) hr.1 hr.2, ih, ih, bn]
      push_cast
      rfl
/-- What cntL tells lies in no place behind the numbers' sum. -/
theorem cntL_top (R : List Int) (h : ∀ r ∈ R, 0 ≤ r) : ∀ i : Nat, i ≤ R.length → ∀ (p : Nat) (t : Int), isum (R.take i) < t → cntL (R.take i) p t = 0
  | 0, _, p, t, ht => by
    rw [List.take_zero] at ht ⊢
    show C0 p t = 0
    unfold C0
    rw [if_neg]
    rintro ⟨_, rfl⟩
    simp [isum_nil] at ht
  | i + 1, hi, p, t, ht => by
    have ih := cntL_top R h i (by omega)
    have hr := h R[i] (List.getElem_mem _)
    rw [← List.take_append_getElem (show i < R.length by omega)] at ht ⊢
    rw [isum_append, isum_cons, isum_nil] at ht
    rw [cntL_snoc]
    unfold stepC
    cases p with
    | zero => simp only [Nat.add_zero]; exact ih 0 t (by omega)
    | succ p => simp only; rw [ih (p + 1) t (by omega), ih p (t - R[i]) (by omega)]
/-- X is a table of P + 1 rows of A + 1 numbers, row k at t told by F. -/
structure TI (X : List (List Int)) (P A : Nat) (F : Nat → Nat → Int) : Prop where
  len : X.length = P + 1
  row : ∀ k : Nat, k ≤ P → (rd_L1 X (k : Int)).length = A + 1
  val : ∀ k : Nat, k ≤ P → ∀ t : Nat, t ≤ A → rd (rd_L1 X (k : Int)) (t : Int) = F k t
theorem rdL_set (X : List (List Int)) (p t : Nat) (v : List Int) (hp : p < X.length) : rd_L1 (X.set p v) (t : Int) = if t = p then v else rd_L1 X (t : Int) := by
  unfold rd_L1
  simp only [Int.toNat_natCast, List.getD_eq_getElem?_getD, List.getElem?_set]
  by_cases h : t = p
  · subst h
    simp [hp]
  · rw [if_neg h, if_neg (fun e => h e.symm)]
theorem TI.congr {X : List (List Int)} {P A : Nat} {F G : Nat → Nat → Int} (h : TI X P A F) (e : ∀ k, k ≤ P → ∀ t, t ≤ A → F k t = G k t) : TI X P A G := ⟨h.len, h.row, fun k hk t ht => (h.val k hk t ht).trans (e k hk t ht)⟩
theorem TI.put {X : List (List Int)} {P A : Nat} {F : Nat → Nat → Int} (h : TI X P A F) {k s : Nat} (hk : k ≤ P) (hs : s ≤ A) (v : Int) :
    TI (X.set k ((rd_L1 X (k : Int)).set s v)) P A (fun k' t => if k' = k ∧ t = s then v else F k' t) := by
  have hl := h.len
  refine ⟨by rw [List.length_set]; exact hl, fun j hj => ?_, fun j hj t ht => ?_⟩
  · rw [rdL_set _ _ _ _ (by omega)]
    by_cases c : j = k
    · rw [if_pos c, List.length_set]; exact h.row k hk
    · rw [if_neg c]; exact h.row j hj
  · rw [rdL_set _ _ _ _ (by omega)]
    by_cases c : j = k
    · subst c
      rw [if_pos rfl, rd_set _ _ _ _ (by rw [h.row j hj]; omega)]
      by_cases c2 : t = s
      · rw [if_pos c2, if_pos ⟨rfl, c2⟩]
      · rw [if_neg c2, if_neg (fun e => c2 e.2)]
        exact h.val j hj t ht
    · rw [if_neg c, if_neg (fun e => c e.1)]
      exact h.val j hj t ht
section
variable {a : List Int} {R : List Int} {S : Int} {A : Nat} {res : Int × Int × Int}
/-- The state within a rank's work: rows above k are new, row k from place b on. -/
def mid (C C' : Nat → Int → Nat) (k b : Nat) : Nat → Nat → Int := fun k' t => if k < k' ∨ (k' = k ∧ b ≤ t) then (C' k' t : Int) else (C k' t : Int)
theorem tab_l3 (hA : A ≤ 2400) {n : Nat} {C : Nat → Int → Nat} (hB : CB n C) (hn : n ≤ 24) (i q k : Nat) (hi : i < R.length) (hR : R.length ≤ 24) (hq : rd R (i : Int) = (q : Int)) (hk : k + 1 ≤ a.length) (ha : a.length ≤ 24)
    (hN : ∀ X, TI X a.length A (mid C (stepC q C) k (A + 1)) → Ev (fun z => spileref33_AtLeast.l2 z a R S (A : Int) X (i : Int) (k : Int)) res) (m : Nat) :
    ∀ X, q + m ≤ A + 1 → TI X a.length A (mid C (stepC q C) (k + 1) (q + m)) → Ev (fun z => spileref33_AtLeast.l3 z a R S (A : Int) X (i : Int) ((k + 1 : Nat) : Int) (((q + m : Nat) : Int) - 1)) res := by
  have hwk : wrap64 (((k + 1 : Nat) : Int) - 1) = (k : Int) := by unfold wrap64; omega
  induction m with
  | zero =>
    intro X hm hX
    have h := hN X (hX.congr (fun k' hk' t ht => by
      unfold mid
      by_cases c : k < k'
      · rw [if_pos (show k < k' ∨ (k' = k ∧ A + 1 ≤ t) from .inl c)]
        by_cases c2 : k + 1 < k' ∨ (k' = k + 1 ∧ q + 0 ≤ t)
        · rw [if_pos c2]
        · rw [if_neg c2]
          have e : k' = k + 1 := by omega
          subst e
          unfold stepC
          have := hB.pos k ((t : Int) - (q : Int))
          have e0 : C k ((t : Int) - (q : Int)) = 0 := by omega
          simp only [e0, Nat.add_zero]
      · rw [if_neg (by omega), if_neg (by omega)]))
    refine Ev.succ h (fun z => ?_)
    rw [spileref33_AtLeast.l3, if_pos (by omega), if_pos (by omega), hq, if_neg (by omega), hwk]
  | succ m ih =>
    intro X hm hX
    have hs : (((q + (m + 1) : Nat) : Int) - 1) = ((q + m : Nat) : Int) := by omega
    have e1 : rd (rd_L1 X ((k + 1 : Nat) : Int)) ((q + m : Nat) : Int) = (C (k + 1) ((q + m : Nat) : Int) : Int) := by
      rw [hX.val (k + 1) hk (q + m) (by omega)]
      unfold mid
      rw [if_neg (by omega)]
    have e2 : rd (rd_L1 X (k : Int)) (m : Int) = (C k (m : Int) : Int) := by
      rw [hX.val k (by omega) m (by omega)]
      unfold mid
      rw [if_neg (by omega)]
    have b1 := hB.le (k + 1) ((q + m : Nat) : Int)
    have b2 := hB.le k (m : Int)
    have b3 : 2 ^ n ≤ 2 ^ 24 := Nat.pow_le_pow_right (by omega) hn
    have b4 : (2 : Nat) ^ 24 = 16777216 := by decide
    have hv : wrap64 ((C (k + 1) ((q + m : Nat) : Int) : Int) + (C k (m : Int) : Int)) = (stepC (q : Int) C (k + 1) ((q + m : Nat) : Int) : Int) := by
      have e : stepC (q : Int) C (k + 1) ((q + m : Nat) : Int) = C (k + 1) ((q + m : Nat) : Int) + C k (m : Int) := by
        unfold stepC
        simp only
        rw [show ((q + m : Nat) : Int) - (q : Int) = (m : Int) by omega]
      rw [e]
      generalize C (k + 1) ((q + m : Nat) : Int) = x at b1
      generalize C k (m : Int) = y at b2
      unfold wrap64
      push_cast
      omega
    have h := ih _ (by omega) ((hX.put hk (show q + m ≤ A by omega) (stepC (q : Int) C (k + 1) ((q + m : Nat) : Int) : Int)).congr (fun k' hk' t ht => by
      unfold mid
      by_cases c : k' = k + 1 ∧ t = q + m
      · rw [if_pos c, if_pos (by omega), c.1, c.2]
      · rw [if_neg c]
        by_cases c2 : k + 1 < k' ∨ (k' = k + 1 ∧ q + (m + 1) ≤ t)
        · rw [if_pos c2, if_pos (by omega)]
        · rw [if_neg c2, if_neg (by omega)]))
    have hws : wrap64 (((q + m : Nat) : Int) - (q : Int)) = (m : Int) := by unfold wrap64; omega
    have hw1 : wrap64 (((q + m : Nat) : Int) - 1) = ((q + m : Nat) : Int) - 1 := by unfold wrap64; omega
    have l1 := hX.row (k + 1) hk
    have l2 := hX.row k (by omega)
    have l3 := hX.len
    refine Ev.succ h (fun z => ?_)
    rw [hs, spileref33_AtLeast.l3, if_pos (by omega), if_pos (by omega), hq, if_pos (by omega), if_pos (by omega), if_pos (by omega), if_pos (by omega), if_pos (by omega), hwk, if_pos (by omega), if_pos (by omega), hws, if_pos (by omega), if_pos (by omega), e1, e2, hv, hw1, Int.toNat_natCast, Int.toNat_natCast]
theorem tab_l2 (hA : A ≤ 2400) {n : Nat} {C : Nat → Int → Nat} (hB : CB n C) (hn : n ≤ 24) (i q : Nat) (hi : i < R.length) (hR : R.length ≤ 24) (hq : rd R (i : Int) = (q : Int)) (hqA : q ≤ A) (ha : a.length ≤ 24)
    (hN : ∀ X, TI X a.length A (fun k t => (stepC q C k t : Int)) → Ev (fun z => spileref33_AtLeast.l1 z a R S (A : Int) X ((i + 1 : Nat) : Int)) res) (k : Nat) :
    ∀ X, k ≤ a.length → TI X a.length A (mid C (stepC q C) k (A + 1)) → Ev (fun z => spileref33_AtLeast.l2 z a R S (A : Int) X (i : Int) (k : Int)) res := by
  induction k with
  | zero =>
    intro X hk hX
    have h := hN X (hX.congr (fun k' hk' t ht => by
      unfold mid
      by_cases c : 0 < k'
      · rw [if_pos (.inl c)]
      · rw [if_neg (by omega)]
        have e : k' = 0 := by omega
        subst e
        unfold stepC
        simp))
    refine Ev.succ h (fun z => ?_)
    rw [spileref33_AtLeast.l2, if_neg (by omega), wrap_up (by omega)]
  | succ k ih =>
    intro X hk hX
    have h := tab_l3 (S := S) (res := res) hA hB hn i q k hi hR hq hk ha (fun X hX => ih X (by omega) hX) (A + 1 - q) X (by omega) (by
      rw [show q + (A + 1 - q) = A + 1 by omega]
      exact hX)
    rw [show ((q + (A + 1 - q) : Nat) : Int) - 1 = (A : Int) by omega] at h
    refine Ev.succ h (fun z => ?_)
    rw [spileref33_AtLeast.l2, if_pos (by omega)]
/-- The sum of f from lo on, up to A. -/
def sumFrom (f : Nat → Int) : Nat → Nat → Int
  | _, 0 => 0
  | lo, m + 1 => f lo + sumFrom f (lo + 1) m
theorem tab_l4 (hA : A ≤ 2400) {n : Nat} {C : Nat → Int → Nat} (hB : CB n C) (hn : n ≤ 24) {X : List (List Int)} (hX : TI X a.length A (fun k t => (C k t : Int))) (hR : R.length ≤ 24) (ha : a.length ≤ R.length) (m : Nat) :
    ∀ (lo : Nat) (s : Int), lo + m = A + 1 → 0 ≤ s → s ≤ 16777216 * (lo : Int) → Ev (fun z => spileref33_AtLeast.l4 z a R (A : Int) X s (lo : Int)) (s + sumFrom (fun t => (C a.length t : Int)) lo m, chW R.length a.length, 0) := by
  have l1 := hX.row a.length (Nat.le_refl _)
  have l2 := hX.len
  induction m with
  | zero =>
    intro lo s hm h0 h1
    have hw := rw_l0 (n := R.length) (r := a.length) (by omega) ha R.length 0 (by omega)
    refine Ev.shift ?_
    simp only [spileref33_AtLeast.l4, if_neg (show ¬ (lo : Int) ≤ (A : Int) by omega)]
    refine Ev.bind (g := fun z => spileref33_ways.f z (R.length : Int) (a.length : Int)) hw ?_
    rw [show sumFrom (fun t => (C a.length t : Int)) lo 0 = 0 from rfl, Int.add_zero]
    exact Ev.const _
  | succ m ih =>
    intro lo s hm h0 h1
    have e1 : rd (rd_L1 X (a.length : Int)) (lo : Int) = (C a.length (lo : Int) : Int) := hX.val _ (Nat.le_refl _) lo (by omega)
    have b2 := hB.le a.length (lo : Int)
    have b3 : 2 ^ n ≤ 2 ^ 24 := Nat.pow_le_pow_right (by omega) hn
    have b4 : (2 : Nat) ^ 24 = 16777216 := by decide
    have hw : wrap64 (s + (C a.length (lo : Int) : Int)) = s + (C a.length (lo : Int) : Int) := by
      generalize C a.length (lo : Int) = x at b2
      unfold wrap64
      omega
    have h := ih (lo + 1) (s + (C a.length (lo : Int) : Int)) (by omega) (by omega) (by push_cast; omega)
    rw [show sumFrom (fun t => (C a.length t : Int)) lo (m + 1) = (C a.length (lo : Int) : Int) + sumFrom (fun t => (C a.length t : Int)) (lo + 1) m from rfl, ← Int.add_assoc]
    refine Ev.succ h (fun z => ?_)
    rw [spileref33_AtLeast.l4, if_pos (by omega), if_pos (by omega), if_pos (by omega), if_pos (by omega), if_pos (by omega), e1, hw, wrap_up (by omega)]
theorem tab_l1 (hA : A ≤ 2400) (hr : ∀ r ∈ R, 0 ≤ r ∧ r ≤ 100) (hrA : ∀ r ∈ R, r ≤ (A : Int)) (hR : R.length ≤ 24) (ha : a.length ≤ R.length) (lo : Nat) (hlo : lo ≤ A + 1) (hS : S = (lo : Int)) (m : Nat) :
    ∀ (i : Nat) (X : List (List Int)), i + m = R.length → TI X a.length A (fun k t => (cntL (R.take i) k t : Int)) →
      Ev (fun z => spileref33_AtLeast.l1 z a R S (A : Int) X (i : Int)) (sumFrom (fun t => (cntL R a.length t : Int)) lo (A + 1 - lo), chW R.length a.length, 0) := by
  induction m with
  | zero =>
    intro i X hm hX
    have hB := cntL_bd R hr R.length (Nat.le_refl _)
    rw [List.take_length] at hB
    rw [List.take_of_length_le (by omega)] at hX
    have h := tab_l4 hA hB hR hX hR ha (A + 1 - lo) lo 0 (by omega) (Int.le_refl _) (by omega)
    rw [Int.zero_add] at h
    refine Ev.succ h (fun z => ?_)
    rw [spileref33_AtLeast.l1, if_neg (by omega), hS]
  | succ m ih =>
    intro i X hm hX
    have hi : i < R.length := by omega
    have h1 := hr R[i] (List.getElem_mem _)
    have h2 := hrA R[i] (List.getElem_mem _)
    obtain ⟨q, hq⟩ : ∃ q : Nat, R[i] = (q : Int) := ⟨R[i].toNat, by omega⟩
    have hrd : rd R (i : Int) = (q : Int) := by rw [← hq]; unfold rd; simp [List.getD_eq_getElem?_getD, hi]
    have hB := cntL_bd R hr i (by omega)
    have hst : cntL (R.take (i + 1)) = stepC (q : Int) (cntL (R.take i)) := by rw [← List.take_append_getElem hi, cntL_snoc, hq]
    have h := tab_l2 (a := a) (R := R) (S := S) (res := (sumFrom (fun t => (cntL R a.length t : Int)) lo (A + 1 - lo), chW R.length a.length, 0)) hA hB (by omega) i q hi hR hrd (by omega) (by omega)
      (fun X hX => ih (i + 1) X (by omega) (by rw [hst]; exact hX)) a.length X (Nat.le_refl _) (hX.congr (fun k hk t ht => by unfold mid; rw [if_neg (by omega)]))
    refine Ev.succ h (fun z => ?_)
    rw [spileref33_AtLeast.l1, if_pos (by omega)]
end
theorem rdL_rep (P : Nat) (row : List Int) (k : Nat) (h : k ≤ P) : rd_L1 (List.replicate (P + 1) row) (k : Int) = row := by
  unfold rd_L1
  simp only [Int.toNat_natCast, List.getD_eq_getElem?_getD, List.getElem?_replicate]
  rw [if_pos (by omega)]
  rfl
theorem rd_rep (A : Nat) (k : Nat) (h : k ≤ A) : rd (List.replicate (A + 1) (0 : Int)) (k : Int) = 0 := by
  unfold rd
  simp only [Int.toNat_natCast, List.getD_eq_getElem?_getD, List.getElem?_replicate]
  rw [if_pos (by omega)]
  rfl
theorem TI.zero (P A : Nat) : TI (List.replicate (P + 1) (List.replicate (A + 1) (0 : Int))) P A (fun _ _ => 0) := by
  refine ⟨List.length_replicate, fun k hk => ?_, fun k hk t ht => ?_⟩
  · rw [rdL_rep P _ k hk, List.length_replicate]
  · rw [rdL_rep P _ k hk, rd_rep A t ht]
theorem tab_l0 {a R : List Int} {S : Int} {A : Nat} {res : Int × Int × Int} (hA : A ≤ 2400) (ha : a.length ≤ 24) (hN : ∀ X, TI X a.length A (fun k t => (C0 k t : Int)) → Ev (fun z => spileref33_AtLeast.l1 z a R S (A : Int) X 0) res) (m : Nat) :
    ∀ j : Nat, j + m = a.length + 1 → Ev (fun z => spileref33_AtLeast.l0 z a R S (A : Int) (List.replicate j (List.replicate (A + 1) 0)) (j : Int)) res := by
  have hw : wrap64 ((A : Int) + 1) = ((A + 1 : Nat) : Int) := wrap_up (by omega)
  induction m with
  | zero =>
    intro j hj
    have e : j = a.length + 1 := by omega
    subst e
    have hz := TI.zero a.length A
    have h := hN _ ((hz.put (Nat.zero_le _) (Nat.zero_le _) 1).congr (fun k hk t ht => by
      unfold C0
      by_cases c : k = 0 ∧ t = 0
      · rw [if_pos c, if_pos (by omega)]; rfl
      · rw [if_neg c, if_neg (by omega)]; rfl))
    have l1 := hz.len
    have l2 := hz.row 0 (Nat.zero_le _)
    refine Ev.succ h (fun z => ?_)
    rw [spileref33_AtLeast.l0, if_neg (by omega), if_pos (by omega), if_pos (by
      have : ((rd_L1 (List.replicate (a.length + 1) (List.replicate (A + 1) (0 : Int))) 0).length : Int) = A + 1 := by
        have h3 : (rd_L1 (List.replicate (a.length + 1) (List.replicate (A + 1) (0 : Int))) 0).length = A + 1 := l2
        rw [h3]; push_cast; rfl
      omega)]
    rfl
  | succ m ih =>
    intro j hj
    have h := ih (j + 1) (by omega)
    rw [List.replicate_succ'] at h
    refine Ev.succ h (fun z => ?_)
    rw [spileref33_AtLeast.l0, if_pos (by omega), hw, if_pos (by omega), Int.toNat_natCast, if_pos (by omega), if_pos (by rw [List.length_replicate]; omega), wrap_up (by omega)]
theorem sumFrom_snoc (f : Nat → Int) : ∀ (m lo : Nat), sumFrom f lo (m + 1) = sumFrom f lo m + f (lo + m)
  | 0, lo => by simp [sumFrom]
  | m + 1, lo => by
    have ih := sumFrom_snoc f m (lo + 1)
    rw [show sumFrom f lo (m + 1 + 1) = f lo + sumFrom f (lo + 1) (m + 1) from rfl, ih, show sumFrom f lo (m + 1) = f lo + sumFrom f (lo + 1) m from rfl, show lo + 1 + m = lo + (m + 1) by omega]
    omega
theorem sumR_from (g : Int → Int) (lo : Nat) : ∀ m : Nat, sumR (fun t => if t ≥ (lo : Int) then g t else 0) (lo + m) = sumFrom (fun t => g t) lo m
  | 0 => sumR_zero _ lo (fun t h0 h1 => by rw [if_neg (by omega)])
  | m + 1 => by
    rw [sumFrom_snoc, ← sumR_from g lo m]
    show _ + (if ((lo + m : Nat) : Int) ≥ (lo : Int) then g ((lo + m : Nat) : Int) else 0) = _
    rw [if_pos (by omega)]
    rfl
/-! ### the start -/
def startE (a b : List Int) : List Int × Int := if twoE a b = 0 then ((a ++ b).map (rk (a ++ b)), 0) else ([], twoE a b)
theorem start_ev (a b : List Int) : Ev (fun k => spileref33_start.f k a b) (startE a b) := by
  unfold spileref33_start.f startE twoE
  refine Ev.bind (check_ev a) ?_
  by_cases c0 : ftE a = 0
  · simp only [if_pos c0]
    refine Ev.bind (check_ev b) ?_
    by_cases c1 : ftE b = 0
    · simp only [if_pos c1]
      have h1 := (ft_ok c0).2.1
      have h2 := (ft_ok c1).2.1
      have hw : wrap64 ((a.length : Int) + (b.length : Int)) = ((a.length + b.length : Nat) : Int) := by unfold wrap64; omega
      simp only [hw]
      by_cases c2 : a.length + b.length > 24
      · simp only [if_pos (show ((a.length + b.length : Nat) : Int) > 24 by omega), if_pos c2]
        exact Ev.const _
      · simp only [if_neg (show ¬ ((a.length + b.length : Nat) : Int) > 24 by omega), if_neg c2, if_true]
        refine Ev.bind (g := fun _ => some ([] : List Int)) (Ev.const _) ?_
        simp only [if_pos (show ([] : List Int).length + a.length < 17592186044416 by simp; omega), List.nil_append]
        refine Ev.bind (g := fun _ => some a) (Ev.const _) ?_
        simp only [if_pos (show a.length + b.length < 17592186044416 by omega)]
        exact Ev.bind (rranks_ev (a ++ b) (by simp; omega)) (Ev.const _)
    · simp only [if_neg c1]
      exact Ev.const _
  · simp only [if_neg c0]
    exact Ev.const _
section
variable {a b : List Int}
theorem R_bd (h : a.length + b.length ≤ 24) : ∀ r ∈ (a ++ b).map (rk (a ++ b)), 1 ≤ r ∧ r ≤ 100 := fun r hr => by
  obtain ⟨y, _, rfl⟩ := List.mem_map.1 hr
  have := rk_bd (a ++ b) y
  simp only [List.length_append] at this
  omega
theorem tot_eq {L : List Int} (h : ∀ r ∈ L, 1 ≤ r ∧ r ≤ 100) (hl : L.length ≤ 24) : Ev (fun k => spileref33_total.f k L) (isum L) := by
  have hb := isum_bd 100 L (fun r hr => by have := h r hr; omega)
  have e : sumW 0 L = isum L := by
    rw [sumW_eq L 0 (fun r hr => by have := h r hr; omega) (Int.le_refl _) (by omega), Int.zero_add]
  rw [← e]
  exact tot_ev (by omega)
theorem take_stat : isum (((a ++ b).map (rk (a ++ b))).take a.length) = statL a b := by
  rw [List.map_append, List.take_left' (List.length_map _)]
  rfl
end
def statE (a b : List Int) : Int × Int := if twoE a b = 0 then (statL a b, 0) else (0, twoE a b)
theorem stat_ev (a b : List Int) : Ev (fun k => rank_Statistic.f k a b) (statE a b) := by
  unfold rank_Statistic.f statE
  refine Ev.bind (two_ev a b) ?_
  by_cases c : twoE a b = 0
  · simp only [if_pos c]
    refine Ev.bind (g := fun _ => rank_statistic.f a b) (r := statL a b) ⟨0, fun _ _ => by unfold rank_statistic.f; rw [if_pos (by have := (two_ok c).2.2; omega)]⟩ ?_
    exact Ev.const _
  · simp only [if_neg c]
    exact Ev.const _
theorem rstat_ev (a b : List Int) : Ev (fun k => spileref33_Statistic.f k a b) (statE a b) := by
  unfold spileref33_Statistic.f statE
  refine Ev.bind (start_ev a b) ?_
  unfold startE
  by_cases c : twoE a b = 0
  · have h24 := (two_ok c).2.2
    have hb := R_bd h24
    simp only [if_pos c, if_true, List.length_map, List.length_append, Int.toNat_natCast]
    simp only [if_pos (show (0 : Int) ≤ (a.length : Int) by omega), if_pos (show (a.length : Int) ≤ ((a.length + b.length : Nat) : Int) by omega)]
    have ht := tot_eq (L := ((a ++ b).map (rk (a ++ b))).take a.length) (fun r hr => hb r (List.mem_of_mem_take hr)) (by rw [List.length_take]; omega)
    rw [take_stat] at ht
    exact Ev.bind ht (Ev.const _)
  · simp only [if_neg c]
    exact Ev.const _
theorem ratl_ev (a b : List Int) : Ev (fun k => spileref33_AtLeast.f k a b) (atlE a b) := by
  unfold spileref33_AtLeast.f atlE
  refine Ev.bind (start_ev a b) ?_
  unfold startE
  by_cases c : twoE a b = 0
  · have h24 := (two_ok c).2.2
    have hb := R_bd h24
    have hlen : ((a ++ b).map (rk (a ++ b))).length = a.length + b.length := by simp
    have hs := take_stat (a := a) (b := b)
    simp only [if_pos c, if_true, Int.toNat_natCast]
    generalize (a ++ b).map (rk (a ++ b)) = R at hb hlen hs ⊢
    simp only [if_pos (show (0 : Int) ≤ (a.length : Int) by omega), if_pos (show (a.length : Int) ≤ (R.length : Int) by omega)]
    have ht := tot_eq (L := R.take a.length) (fun r hr => hb r (List.mem_of_mem_take hr)) (by rw [List.length_take]; omega)
    have ht2 := tot_eq (L := R) hb (by omega)
    refine Ev.bind ht ?_
    refine Ev.bind ht2 ?_
    have hb1 := isum_bd 100 R (fun r hr => by have := hb r hr; omega)
    have hb2 := isum_bd 100 (R.take a.length) (fun r hr => by have := hb r (List.mem_of_mem_take hr); omega)
    have hb3 := isum_bd 100 (R.drop a.length) (fun r hr => by have := hb r (List.mem_of_mem_drop hr); omega)
    have hsp := isum_split R a.length
    obtain ⟨A, hA⟩ : ∃ A : Nat, isum R = (A : Int) := ⟨(isum R).toNat, by omega⟩
    obtain ⟨lo, hlo⟩ : ∃ lo : Nat, isum (R.take a.length) = (lo : Int) := ⟨(isum (R.take a.length)).toNat, by omega⟩
    have hr : ∀ r ∈ R, 0 ≤ r ∧ r ≤ 100 := fun r hr => by have := hb r hr; omega
    have hrA : ∀ r ∈ R, r ≤ (A : Int) := fun r hm => by
      obtain ⟨j, hj, rfl⟩ := List.getElem_of_mem hm
      have h1 := isum_split R j
      have h2 := isum_pos (L := R.take j) (fun x hx => by have := hb x (List.mem_of_mem_take hx); omega)
      have h3 := drop_ge (L := R) (fun x hx => by have := hb x hx; omega) hj
      omega
    rw [hA, hlo]
    have h := tab_l0 (a := a) (R := R) (S := (lo : Int)) (A := A) (by omega) (by omega) (fun X hX => tab_l1 (a := a) (R := R) (S := (lo : Int)) (A := A) (by omega) hr hrA (by omega) (by omega) lo (by omega) rfl R.length 0 X (by omega) (by rw [List.take_zero]; exact hX)) (a.length + 1) 0 (by omega)
    have hg : gAll a.length (cntL R) (statL a b) = sumFrom (fun t => (cntL R a.length t : Int)) lo (A + 1 - lo) := by
      have htop := cntL_top R (fun r hm => (hr r hm).1) R.length (Nat.le_refl _)
      rw [List.take_length] at htop
      unfold gAll
      rw [← hs, hlo, sumR_cut _ (A + 1) 3000 (by omega) (fun t ht => by rw [htop a.length t (by omega)]; split <;> rfl)]
      have h := sumR_from (fun t => (cntL R a.length t : Int)) lo (A + 1 - lo)
      rw [show lo + (A + 1 - lo) = A + 1 by omega] at h
      exact h
    have hw : wAll a.length (cntL R) = chW R.length a.length := by
      have h := tot_bn R hr (by omega) R.length (Nat.le_refl _) a.length
      rw [List.take_length] at h
      rw [h, chW_bn _ _ (by omega)]
    rw [hg, hw]
    exact h
  · simp only [if_neg c]
    exact Ev.const _
theorem counts_j0 (a b : List Int) (ha : a.length ≤ 100) (hb : b.length ≤ 100) : Ev (fun k => spilelaw33_RankCounts.j0 k a b false) true := by
  have hca : Ev (fun _ => clone14.f a) a := ⟨0, fun _ _ => by unfold clone14.f; rw [if_pos (by omega)]⟩
  have hcb : Ev (fun _ => clone14.f b) b := ⟨0, fun _ _ => by unfold clone14.f; rw [if_pos (by omega)]⟩
  refine Ev.shift ?_
  simp only [spilelaw33_RankCounts.j0, Bool.false_eq_true, if_false]
  refine Ev.bind hca ?_
  refine Ev.bind hcb ?_
  refine Ev.bind (stat_ev a b) ?_
  refine Ev.bind (rstat_ev a b) ?_
  refine Ev.bind hca ?_
  refine Ev.bind hcb ?_
  refine Ev.bind (g := fun _ => rank_AtLeast.f a b) (r := atlE a b) ⟨0, fun _ _ => rfl⟩ ?_
  refine Ev.bind (ratl_ev a b) ?_
  generalize atlE a b = x
  simp only [if_true]
  exact Ev.congr (Ev.const true) (fun k => by simp)
theorem RankCountsPure : spilelaw33_RankCounts.Pure := by
  intro a b _ _ _ _ _ _
  have bad : Ev (fun k => spilelaw33_RankCounts.j0 k a b true) true := Ev.succ (Ev.const _) (fun k => by rw [spilelaw33_RankCounts.j0, if_pos rfl])
  refine Ev.one ?_
  unfold spilelaw33_RankCounts.f
  refine Ev.bind awake_ev ?_
  simp only [if_true]
  rcases few_cases a with ⟨hF, hlen⟩ | hF
  · refine Ev.bind (g := fun _ => spileref33_Few.f a) (r := true) ⟨0, fun _ _ => hF⟩ ?_
    simp only [if_true]
    rcases few_cases b with ⟨hG, hlen2⟩ | hG
    · refine Ev.bind (g := fun _ => spileref33_Few.f b) (r := true) ⟨0, fun _ _ => hG⟩ ?_
      exact counts_j0 a b (by omega) (by omega)
    · refine Ev.bind (g := fun _ => spileref33_Few.f b) (r := false) ⟨0, fun _ _ => hG⟩ ?_
      exact bad
  · refine Ev.bind (g := fun _ => spileref33_Few.f a) (r := false) ⟨0, fun _ _ => hF⟩ ?_
    simp only [Bool.false_eq_true, if_false]
    exact bad
end Go.Proofs.Ytbkoghmbacdiiaa.K
namespace Go.Proofs.Ytbkoghmbacdiiaa.Pure
theorem RankCounts : K.spilelaw33_RankCounts.Pure := K.RankCountsPure
end Go.Proofs.Ytbkoghmbacdiiaa.Pure
