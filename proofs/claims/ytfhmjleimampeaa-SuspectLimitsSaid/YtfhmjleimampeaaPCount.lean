/- By hand: how many choices of so many places have a sum, by one place after the other; what the loops over a map of them keep. -/
import Derived.Test.YtfhmjleimampeaaPRank
import Derived.Test.YtfhmjleimampeaaGKMap
namespace Go.Proofs.Ytfhmjleimampeaa.K
open Go Go.RowKit Go.Proofs.YtfhmjleimampeaaW.PrintWords Go.Proofs.Ytfhmjleimampeaa.KM
set_option linter.unusedVariables false
set_option linter.unusedSimpArgs false
def stepC (r : Int) (C : Nat → Int → Nat) : Nat → Int → Nat := fun p t => C p t + (match p with | 0 => 0 | p + 1 => C p (t - r))
def C0 : Nat → Int → Nat := fun p t => if p = 0 ∧ t = 0 then 1 else 0
/-- How many choices of p of the numbers R have the sum t. -/
def cntL (R : List Int) : Nat → Int → Nat := R.foldl (fun C r => stepC r C) C0
theorem cntL_snoc (R : List Int) (r : Int) : cntL (R ++ [r]) = stepC r (cntL R) := by
  unfold cntL
  rw [List.foldl_append]
  rfl
/-- The bounds of the counts behind n places. -/
structure CB (n : Nat) (C : Nat → Int → Nat) : Prop where
  le : ∀ p t, C p t ≤ 2 ^ n
  pos : ∀ p t, 0 < C p t → p ≤ n ∧ 0 ≤ t ∧ t ≤ 100 * n
theorem CB.zero : CB 0 C0 := by
  refine ⟨fun p t => ?_, fun p t h => ?_⟩
  · unfold C0
    split <;> simp
  · unfold C0 at h
    split at h
    · rename_i c
      obtain ⟨rfl, rfl⟩ := c
      simp
    · omega
theorem CB.step {n : Nat} {C : Nat → Int → Nat} (h : CB n C) {r : Int} (h0 : 0 ≤ r) (h1 : r ≤ 100) : CB (n + 1) (stepC r C) := by
  refine ⟨fun p t => ?_, fun p t hp => ?_⟩
  · have a := h.le p t
    unfold stepC
    rw [Nat.pow_succ]
    cases p with
    | zero => simp; omega
    | succ p =>
      have b := h.le p (t - r)
      simp only
      omega
  · unfold stepC at hp
    cases p with
    | zero =>
      have := h.pos 0 t (by simpa using hp)
      omega
    | succ p =>
      by_cases c : 0 < C (p + 1) t
      · have := h.pos _ _ c
        omega
      · have := h.pos p (t - r) (by simp only at hp; omega)
        omega
theorem cntL_bd (R : List Int) (h : ∀ r ∈ R, 0 ≤ r ∧ r ≤ 100) : ∀ i, i ≤ R.length → CB i (cntL (R.take i))
  | 0, _ => by simpa [cntL] using CB.zero
  | i + 1, hi => by
    rw [← List.take_append_getElem (show i < R.length by omega), cntL_snoc]
    have := h R[i] (List.getElem_mem _)
    exact (cntL_bd R h i (by omega)).step this.1 this.2
/-- The counts as the program keeps them: what has at most P places, and is not 0. -/
def mapC (P : Nat) (C : Nat → Int → Nat) : Ky → Option Int := fun k => if 0 ≤ k.pl ∧ k.pl ≤ P ∧ 0 < C k.pl.toNat k.sm then some (C k.pl.toNat k.sm : Int) else none
theorem mapC_some {P : Nat} {C : Nat → Int → Nat} {k : Ky} {x : Int} (h : mapC P C k = some x) : 0 ≤ k.pl ∧ k.pl ≤ P ∧ 0 < C k.pl.toNat k.sm ∧ x = C k.pl.toNat k.sm := by
  unfold mapC at h
  split at h
  · rename_i c
    injection h with h
    exact ⟨c.1, c.2.1, c.2.2, h.symm⟩
  · cases h
theorem ok_of {k : Ky} (h1 : -1000000 ≤ k.pl ∧ k.pl ≤ 1000000) (h2 : -1000000 ≤ k.sm ∧ k.sm ≤ 1000000) : k.ok := ⟨WalkArith.wf_i64 (by omega), WalkArith.wf_i64 (by omega)⟩
theorem mapC_ok {P n : Nat} {C : Nat → Int → Nat} (hB : CB n C) (hn : n ≤ 24) {k : Ky} {x : Int} (h : mapC P C k = some x) : k.ok ∧ 0 < x ∧ x ≤ 2 ^ n ∧ k.pl ≤ n ∧ 0 ≤ k.sm ∧ k.sm ≤ 100 * n := by
  obtain ⟨h1, h2, h3, rfl⟩ := mapC_some h
  have a := hB.pos _ _ h3
  have b := hB.le k.pl.toNat k.sm
  have e : ((2 ^ n : Nat) : Int) = 2 ^ n := by push_cast; rfl
  refine ⟨ok_of (by omega) (by omega), by omega, ?_, by omega, by omega, by omega⟩
  rw [← e]
  exact Int.ofNat_le.2 b
section
variable (P : Nat) (C : Nat → Int → Nat) (r : Int) (left : Lit → Bool)
/-- The count of a key, once it has come. -/
def val1 : Ky → Int := fun k => if left (kyL k) = true then 0 else (mapC P C k).getD 0
def val2 : Ky → Int := fun k => if 0 < k.pl ∧ k.pl ≤ P then val1 P C left ⟨k.pl - 1, k.sm - r⟩ else 0
/-- The next counts, out of the keys that have come. -/
def nextN : Ky → Option Int := fun k => if 0 < val1 P C left k + val2 P C r left k then some (val1 P C left k + val2 P C r left k) else none
end
section
variable {P n : Nat} {C : Nat → Int → Nat} {r : Int} {left : Lit → Bool}
theorem p2 (n : Nat) : (0 : Int) ≤ 2 ^ n := Int.le_of_lt (Int.pow_pos (by decide))
theorem val1_bd (hB : CB n C) (k : Ky) : 0 ≤ val1 P C left k ∧ val1 P C left k ≤ 2 ^ n := by
  have e : ((2 ^ n : Nat) : Int) = 2 ^ n := by push_cast; rfl
  have hp := p2 n
  unfold val1
  split
  · omega
  · unfold mapC
    split
    · have b := Int.ofNat_le.2 (hB.le k.pl.toNat k.sm)
      rw [e] at b
      rw [Option.getD_some]
      omega
    · rw [Option.getD_none]; omega
theorem val2_bd (hB : CB n C) (k : Ky) : 0 ≤ val2 P C r left k ∧ val2 P C r left k ≤ 2 ^ n := by
  unfold val2
  split
  · exact val1_bd hB _
  · have hp := p2 n
    omega
theorem nextN_getD (hB : CB n C) (k : Ky) : (nextN P C r left k).getD 0 = val1 P C left k + val2 P C r left k := by
  have a := val1_bd (P := P) (left := left) hB k
  have b := val2_bd (P := P) (r := r) (left := left) hB k
  unfold nextN
  split
  · rfl
  · rw [Option.getD_none]; omega
theorem left_none (h : ∀ k : Ky, k.ok → left (kyL k) = (mapC P C k).isSome) (hB : CB n C) (hn : n ≤ 24) (k : Ky) : val1 P C left k = 0 := by
  unfold val1
  cases hm : mapC P C k with
  | none => split <;> rfl
  | some x =>
    rw [h k (mapC_ok hB hn hm).1, hm]
    rfl
theorem nextN_start (h : ∀ k : Ky, k.ok → left (kyL k) = (mapC P C k).isSome) (hB : CB n C) (hn : n ≤ 24) (k : Ky) : nextN P C r left k = none := by
  unfold nextN val2
  rw [left_none h hB hn k, left_none h hB hn ⟨k.pl - 1, k.sm - r⟩]
  simp
open Classical in
theorem val1_step (hB : CB n C) (hn : n ≤ 24) {k0 : Ky} {x : Int} (hk : k0.ok) (hl : left (kyL k0) = true) (hM : mapC P C k0 = some x) (k : Ky) :
    val1 P C (fun z => left z && !z.sameKey (kyL k0)) k = val1 P C left k + (if k = k0 then x else 0) := by
  unfold val1
  by_cases e : k = k0
  · subst e
    have hs : (kyL k).sameKey (kyL k) = true := (same_ky hk hk).2 rfl
    simp [hs, hl, hM]
  · rw [if_neg e, Int.add_zero]
    cases hm : mapC P C k with
    | none => simp
    | some y =>
      have hs : (kyL k).sameKey (kyL k0) = false := by
        cases h : (kyL k).sameKey (kyL k0) with
        | false => rfl
        | true => exact absurd ((same_ky (mapC_ok hB hn hm).1 hk).1 h) e
      simp [hs]
open Classical in
theorem val2_step (hB : CB n C) (hn : n ≤ 24) {k0 : Ky} {x : Int} (hk : k0.ok) (hl : left (kyL k0) = true) (hM : mapC P C k0 = some x) (k : Ky) :
    val2 P C r (fun z => left z && !z.sameKey (kyL k0)) k = val2 P C r left k + (if k0.pl < P ∧ k = ⟨k0.pl + 1, k0.sm + r⟩ then x else 0) := by
  obtain ⟨h1, h2, _⟩ := mapC_some hM
  unfold val2
  by_cases c : 0 < k.pl ∧ k.pl ≤ P
  · rw [if_pos c, if_pos c, val1_step hB hn hk hl hM]
    congr 1
    by_cases e : (⟨k.pl - 1, k.sm - r⟩ : Ky) = k0
    · rw [if_pos e, if_pos]
      subst e
      refine ⟨by show k.pl - 1 < P; omega, ?_⟩
      cases k
      simp
    · rw [if_neg e, if_neg]
      rintro ⟨_, rfl⟩
      exact e (by cases k0; simp)
  · rw [if_neg c, if_neg c, if_neg]
    · rfl
    · rintro ⟨h3, rfl⟩
      simp at c
      omega
/-- An entry has come: its key, and the key with a place more. -/
theorem next_step (hB : CB n C) (hn : n ≤ 24) {k0 : Ky} {x : Int} (hk : k0.ok) (hl : left (kyL k0) = true) (hM : mapC P C k0 = some x) (hlt : k0.pl < P) (hr : 0 ≤ r) (k : Ky) :
    mput (mput (nextN P C r left) k0 ((nextN P C r left k0).getD 0 + x)) ⟨k0.pl + 1, k0.sm + r⟩ (((mput (nextN P C r left) k0 ((nextN P C r left k0).getD 0 + x)) ⟨k0.pl + 1, k0.sm + r⟩).getD 0 + x) k = nextN P C r (fun z => left z && !z.sameKey (kyL k0)) k := by
  have hx := (mapC_ok hB hn hM).2.1
  have hne : (⟨k0.pl + 1, k0.sm + r⟩ : Ky) ≠ k0 := fun e => by
    have h : k0.pl + 1 = k0.pl := congrArg Ky.pl e
    omega
  have ha := fun k => val1_bd (P := P) (left := left) hB k
  have hb := fun k => val2_bd (P := P) (r := r) (left := left) hB k
  have e1 : mput (nextN P C r left) k0 ((nextN P C r left k0).getD 0 + x) ⟨k0.pl + 1, k0.sm + r⟩ = nextN P C r left ⟨k0.pl + 1, k0.sm + r⟩ := by
    unfold mput
    rw [if_neg hne]
  rw [e1, nextN_getD hB, nextN_getD hB]
  unfold mput
  unfold nextN
  rw [val1_step hB hn hk hl hM k, val2_step hB hn hk hl hM k]
  by_cases c1 : k = ⟨k0.pl + 1, k0.sm + r⟩
  · subst c1
    have := ha ⟨k0.pl + 1, k0.sm + r⟩
    have := hb ⟨k0.pl + 1, k0.sm + r⟩
    have c3 : k0.pl < P ∧ (⟨k0.pl + 1, k0.sm + r⟩ : Ky) = ⟨k0.pl + 1, k0.sm + r⟩ := ⟨hlt, rfl⟩
    rw [if_pos (show (⟨k0.pl + 1, k0.sm + r⟩ : Ky) = ⟨k0.pl + 1, k0.sm + r⟩ from rfl), if_neg hne, if_pos c3, if_pos (by omega)]
    congr 1
    omega
  · have c3 : ¬ (k0.pl < P ∧ k = ⟨k0.pl + 1, k0.sm + r⟩) := fun e => c1 e.2
    rw [if_neg c1, if_neg c3]
    by_cases c2 : k = k0
    · subst c2
      have := ha k
      have := hb k
      rw [if_pos (show k = k from rfl), if_pos (show k = k from rfl), if_pos (by omega)]
      congr 1
      omega
    · rw [if_neg c2, if_neg c2, Int.add_zero, Int.add_zero]
theorem next_step0 (hB : CB n C) (hn : n ≤ 24) {k0 : Ky} {x : Int} (hk : k0.ok) (hl : left (kyL k0) = true) (hM : mapC P C k0 = some x) (hlt : ¬ k0.pl < P) (k : Ky) :
    mput (nextN P C r left) k0 ((nextN P C r left k0).getD 0 + x) k = nextN P C r (fun z => left z && !z.sameKey (kyL k0)) k := by
  have hx := (mapC_ok hB hn hM).2.1
  have ha := fun k => val1_bd (P := P) (left := left) hB k
  have hb := fun k => val2_bd (P := P) (r := r) (left := left) hB k
  rw [nextN_getD hB]
  unfold mput
  unfold nextN
  have c3 : ¬ (k0.pl < P ∧ k = ⟨k0.pl + 1, k0.sm + r⟩) := fun e => hlt e.1
  rw [val1_step hB hn hk hl hM k, val2_step hB hn hk hl hM k]
  by_cases c2 : k = k0
  · subst c2
    have := ha k
    have := hb k
    rw [if_neg c3, if_pos (show k = k from rfl), if_pos (show k = k from rfl), if_pos (by omega)]
    congr 1
    omega
  · rw [if_neg c3, if_neg c2, if_neg c2, Int.add_zero, Int.add_zero]
theorem val1_end (h : ∀ kl, left kl = false) (k : Ky) : val1 P C left k = if 0 ≤ k.pl ∧ k.pl ≤ P then (C k.pl.toNat k.sm : Int) else 0 := by
  unfold val1 mapC
  rw [h]
  simp only [Bool.false_eq_true, if_false]
  by_cases c : 0 ≤ k.pl ∧ k.pl ≤ P
  · by_cases c2 : 0 < C k.pl.toNat k.sm
    · rw [if_pos ⟨c.1, c.2, c2⟩, if_pos c]
      rfl
    · rw [if_neg (fun e => c2 e.2.2), if_pos c]
      have : C k.pl.toNat k.sm = 0 := by omega
      rw [this]
      rfl
  · rw [if_neg (fun e => c ⟨e.1, e.2.1⟩), if_neg c]
    rfl
theorem next_end (h : ∀ kl, left kl = false) (k : Ky) : nextN P C r left k = mapC P (stepC r C) k := by
  have e : val1 P C left k + val2 P C r left k = if 0 ≤ k.pl ∧ k.pl ≤ P then (stepC r C k.pl.toNat k.sm : Int) else 0 := by
    unfold val2
    rw [val1_end h, val1_end h]
    by_cases c : 0 ≤ k.pl ∧ k.pl ≤ P
    · rw [if_pos c, if_pos c]
      unfold stepC
      by_cases c2 : 0 < k.pl
      · obtain ⟨p, hp⟩ : ∃ p : Nat, k.pl = (p : Int) + 1 := ⟨(k.pl - 1).toNat, by omega⟩
        have e1 : k.pl.toNat = p + 1 := by omega
        have e2 : (k.pl - 1).toNat = p := by omega
        rw [if_pos ⟨c2, c.2⟩, if_pos ⟨by show 0 ≤ k.pl - 1; omega, by show k.pl - 1 ≤ P; omega⟩]
        simp only [e1, e2]
        push_cast
        rfl
      · have e1 : k.pl.toNat = 0 := by omega
        rw [if_neg (fun e => c2 e.1), e1]
        simp
    · rw [if_neg c, if_neg c, if_neg (fun e => c ⟨by omega, e.2⟩)]
      rfl
  unfold nextN
  rw [e]
  unfold mapC
  by_cases c : 0 ≤ k.pl ∧ k.pl ≤ P
  · rw [if_pos c]
    by_cases c2 : 0 < stepC r C k.pl.toNat k.sm
    · rw [if_pos (by omega), if_pos ⟨c.1, c.2, c2⟩]
    · rw [if_neg (by omega), if_neg (fun e => c2 e.2.2)]
  · rw [if_neg c, if_neg (by decide), if_neg (fun e => c ⟨e.1, e.2.1⟩)]
end
theorem start_map (P : Nat) (k : Ky) : mput (fun _ => none) ⟨0, 0⟩ 1 k = mapC P (cntL []) k := by
  unfold mput mapC
  by_cases e : k = ⟨0, 0⟩
  · subst e
    rw [if_pos rfl, if_pos]
    · rfl
    · exact ⟨Int.le_refl _, by show (0 : Int) ≤ (P : Int); omega, by decide⟩
  · rw [if_neg e, if_neg]
    rintro ⟨h1, h2, h3⟩
    have h4 := (CB.zero.pos _ _ h3)
    apply e
    cases k
    simp at h4 ⊢
    simp at h1
    omega
/-! ### sums over what has come -/
def sumR (f : Int → Int) : Nat → Int
  | 0 => 0
  | n + 1 => sumR f n + f n
theorem sumR_congr {f g : Int → Int} : ∀ n : Nat, (∀ t : Int, 0 ≤ t → t < n → f t = g t) → sumR f n = sumR g n
  | 0, _ => rfl
  | n + 1, h => by
    unfold sumR
    rw [sumR_congr n (fun t h0 h1 => h t h0 (by omega)), h n (by omega) (by omega)]
theorem sumR_add (f : Int → Int) (t0 x : Int) : ∀ n : Nat, sumR (fun t => f t + if t = t0 then x else 0) n = sumR f n + if 0 ≤ t0 ∧ t0 < n then x else 0
  | 0 => by
    unfold sumR
    rw [if_neg (by omega)]
    rfl
  | n + 1 => by
    unfold sumR
    rw [sumR_add f t0 x n]
    by_cases c : (n : Int) = t0
    · rw [if_neg (by omega), if_pos c, if_pos (by omega)]
      omega
    · rw [if_neg c]
      by_cases c2 : 0 ≤ t0 ∧ t0 < n
      · rw [if_pos c2, if_pos (by omega)]
        omega
      · rw [if_neg c2, if_neg (by omega)]
        omega
theorem sumR_bd (f : Int → Int) (B : Int) : ∀ n : Nat, (∀ t : Int, 0 ≤ t → t < n → 0 ≤ f t ∧ f t ≤ B) → 0 ≤ sumR f n ∧ sumR f n ≤ B * n
  | 0, _ => by simp [sumR]
  | n + 1, h => by
    have ih := sumR_bd f B n (fun t h0 h1 => h t h0 (by omega))
    have := h n (by omega) (by omega)
    unfold sumR
    have e : B * ((n + 1 : Nat) : Int) = B * (n : Int) + B := by push_cast; rw [Int.mul_add, Int.mul_one]
    rw [e]
    omega
section
variable (P : Nat) (C : Nat → Int → Nat) (s : Int) (left : Lit → Bool)
def wSum : Int := sumR (fun t => val1 P C left ⟨P, t⟩) 3000
def gSum : Int := sumR (fun t => if t ≥ s then val1 P C left ⟨P, t⟩ else 0) 3000
/-- All choices of P places, and those with a sum of s at least. -/
def wAll : Int := sumR (fun t => (C P t : Int)) 3000
def gAll : Int := sumR (fun t => if t ≥ s then (C P t : Int) else 0) 3000
end
section
variable {P n : Nat} {C : Nat → Int → Nat} {s : Int} {left : Lit → Bool}
theorem sums_bd (hB : CB n C) (hn : n ≤ 24) : (0 ≤ wSum P C left ∧ wSum P C left ≤ 16777216 * 3000) ∧ (0 ≤ gSum P C s left ∧ gSum P C s left ≤ 16777216 * 3000) := by
  have h2 : (2 : Int) ^ n ≤ 16777216 := by
    have h := Nat.pow_le_pow_right (show 0 < 2 by omega) hn
    have e : ((2 ^ n : Nat) : Int) = 2 ^ n := by push_cast; rfl
    rw [← e]
    have : (2 : Nat) ^ 24 = 16777216 := by decide
    omega
  have ha := fun k => val1_bd (P := P) (left := left) hB k
  have w := sumR_bd (fun t => val1 P C left ⟨P, t⟩) 16777216 3000 (fun t _ _ => by have := ha ⟨P, t⟩; omega)
  have g := sumR_bd (fun t => if t ≥ s then val1 P C left ⟨P, t⟩ else 0) 16777216 3000 (fun t _ _ => by
    have := ha ⟨P, t⟩
    split <;> omega)
  exact ⟨by unfold wSum; exact w, by unfold gSum; exact g⟩
theorem sums_start (h : ∀ k : Ky, k.ok → left (kyL k) = (mapC P C k).isSome) (hB : CB n C) (hn : n ≤ 24) : wSum P C left = 0 ∧ gSum P C s left = 0 := by
  have z : ∀ n, sumR (fun _ => (0 : Int)) n = 0 := by
    intro n
    induction n with
    | zero => rfl
    | succ n ih => unfold sumR; rw [ih]; rfl
  constructor
  · unfold wSum
    rw [sumR_congr (g := fun _ => 0) 3000 (fun t _ _ => left_none h hB hn _), z]
  · unfold gSum
    rw [sumR_congr (g := fun _ => 0) 3000 (fun t _ _ => by rw [left_none h hB hn]; split <;> rfl), z]
open Classical in
theorem sums_step (hB : CB n C) (hn : n ≤ 24) {k0 : Ky} {x : Int} (hk : k0.ok) (hl : left (kyL k0) = true) (hM : mapC P C k0 = some x) :
    wSum P C (fun z => left z && !z.sameKey (kyL k0)) = wSum P C left + (if k0.pl = P then x else 0) ∧
    gSum P C s (fun z => left z && !z.sameKey (kyL k0)) = gSum P C s left + (if k0.pl = P ∧ k0.sm ≥ s then x else 0) := by
  obtain ⟨_, _, _, _, hs0, hs1⟩ := mapC_ok hB hn hM
  have e : ∀ t : Int, ((⟨P, t⟩ : Ky) = k0) ↔ (k0.pl = P ∧ t = k0.sm) := fun t => by
    cases k0
    simp [eq_comm]
  constructor
  · unfold wSum
    by_cases c : k0.pl = P
    · rw [if_pos c, sumR_congr (g := fun t => val1 P C left ⟨P, t⟩ + if t = k0.sm then x else 0) 3000 (fun t _ _ => by
        rw [val1_step hB hn hk hl hM]
        congr 1
        by_cases c2 : t = k0.sm
        · rw [if_pos ((e t).2 ⟨c, c2⟩), if_pos c2]
        · rw [if_neg (fun h => c2 ((e t).1 h).2), if_neg c2]), sumR_add, if_pos (by omega)]
    · rw [if_neg c, Int.add_zero]
      refine sumR_congr 3000 (fun t _ _ => ?_)
      rw [val1_step hB hn hk hl hM, if_neg (fun h => c ((e t).1 h).1), Int.add_zero]
  · unfold gSum
    by_cases c : k0.pl = P ∧ k0.sm ≥ s
    · rw [if_pos c, sumR_congr (g := fun t => (if t ≥ s then val1 P C left ⟨P, t⟩ else 0) + if t = k0.sm then x else 0) 3000 (fun t _ _ => by
        rw [val1_step hB hn hk hl hM]
        by_cases c2 : t = k0.sm
        · subst c2
          rw [if_pos ((e _).2 ⟨c.1, rfl⟩), if_pos c.2, if_pos c.2, if_pos rfl]
        · rw [if_neg (fun h => c2 ((e t).1 h).2), if_neg c2]
          split <;> omega), sumR_add, if_pos (by omega)]
    · rw [if_neg c, Int.add_zero]
      refine sumR_congr 3000 (fun t _ _ => ?_)
      by_cases ct : t ≥ s
      · rw [if_pos ct, if_pos ct, val1_step hB hn hk hl hM, if_neg, Int.add_zero]
        intro h
        obtain ⟨h1, h2⟩ := (e t).1 h
        exact c ⟨h1, by omega⟩
      · rw [if_neg ct, if_neg ct]
theorem sums_end (h : ∀ kl, left kl = false) : wSum P C left = wAll P C ∧ gSum P C s left = gAll P C s := by
  have e : ∀ t : Int, val1 P C left ⟨P, t⟩ = (C P t : Int) := fun t => by
    rw [val1_end h, if_pos ⟨by show (0 : Int) ≤ (P : Int); omega, Int.le_refl _⟩]
    rfl
  exact ⟨sumR_congr 3000 (fun t _ _ => e t), sumR_congr 3000 (fun t _ _ => by rw [e t])⟩
end
/-- How many choices of as many numbers as a has are at least as great as a, and how many there are. -/
def atlE (a b : List Int) : Int × Int × Int :=
  if twoE a b = 0 then (gAll a.length (cntL ((a ++ b).map (rk (a ++ b)))) (statL a b), wAll a.length (cntL ((a ++ b).map (rk (a ++ b)))), 0) else (0, 0, twoE a b)
end Go.Proofs.Ytfhmjleimampeaa.K
