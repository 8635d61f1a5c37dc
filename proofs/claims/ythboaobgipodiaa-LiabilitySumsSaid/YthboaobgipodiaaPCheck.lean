/- By hand: what the checks of liability and tariff compute, in plain words, wherever enough rounds are given. -/
import Derived.Test.YthboaobgipodiaaK5
import Derived.Test.YthboaobgipodiaaGCont
namespace Go.Proofs.Ythboaobgipodiaa.K
open Go.RowKit Go.Proofs.YthboaobgipodiaaW.PrintWords
set_option linter.unusedVariables false
set_option linter.unusedSimpArgs false

/-! ### enough rounds -/
def Ev {α : Type} (g : Nat → Option α) (r : α) : Prop := ∃ K, ∀ k, K ≤ k → g k = some r
section
variable {α β : Type} {g g' : Nat → Option α} {r : α}
theorem Ev.const (r : α) : Ev (fun _ => some r) r := ⟨0, fun _ _ => rfl⟩
theorem Ev.congr (h : Ev g r) (e : ∀ k, g' k = g k) : Ev g' r := by
  obtain ⟨K, hK⟩ := h
  exact ⟨K, fun k hk => (e k).trans (hK k hk)⟩
theorem Ev.succ (h : Ev g' r) (hs : ∀ k, g (k + 1) = g' k) : Ev g r := by
  obtain ⟨K, hK⟩ := h
  refine ⟨K + 1, fun k hk => ?_⟩
  obtain ⟨m, rfl⟩ : ∃ m, k = m + 1 := ⟨k - 1, by omega⟩
  rw [hs]
  exact hK m (by omega)
theorem Ev.bind {h : Nat → α → Option β} {b : β} (hg : Ev g r) (hh : Ev (fun k => h k r) b) : Ev (fun k => (g k).bind (h k)) b := by
  obtain ⟨K, hK⟩ := hg
  obtain ⟨J, hJ⟩ := hh
  refine ⟨K + J, fun k hk => ?_⟩
  show (g k).bind (h k) = some b
  rw [hK k (by omega)]
  exact hJ k (by omega)
theorem Ev.one (h : Ev g r) : ∃ k, g k = some r := by
  obtain ⟨K, hK⟩ := h
  exact ⟨K, hK K (Nat.le_refl _)⟩
theorem Ev.of_mono (hm : ∀ k, LeO (g k) (g (k + 1))) {k : Nat} (h : g k = some r) : Ev g r := by
  refine ⟨k, fun j hj => ?_⟩
  obtain ⟨d, rfl⟩ := Nat.exists_eq_add_of_le hj
  clear hj
  induction d with
  | zero => exact h
  | succ d ih => exact hm _ _ ih
end

theorem rd60_get (xs : List S60) (i : Nat) (h : i < xs.length) : rd_T60 xs (i : Int) = xs[i] := by
  unfold rd_T60
  simp [List.getD_eq_getElem?_getD, h]
theorem wrap_at (n : Int) (h0 : -1000000 ≤ n) (h1 : n ≤ 1000000) : wrap64 n = n := by unfold wrap64; omega
def wB (a b c : Int) : Bool := decide (b ≤ a ∧ a ≤ c)
theorem lwithin_f (a b c : Int) : liability_within.f a b c = some (wB a b c) := by
  unfold liability_within.f wB
  by_cases h : a ≥ b
  · have h1 : b ≤ a := h
    simp [h, h1]
  · have h1 : ¬ b ≤ a := h
    simp [h, h1]
theorem twithin_f (a b c : Int) : tariff_within.f a b c = some (wB a b c) := lwithin_f a b c
theorem wB_iff {a b c : Int} : wB a b c = true ↔ b ≤ a ∧ a ≤ c := by unfold wB; exact decide_eq_true_iff

/-! ### exposures -/
def xok (x : S35) : Bool := wB x.f0 1 1073741824 && (wB x.f1 1 1073741824 && (wB x.f2 1 9 && (wB x.f3 0 100000 && wB x.f4 1 10737418240000)))
def lgo : Option Int → Nat → List S35 → Int × Int
  | _, _, [] => (-1, 0)
  | p, i, x :: l => if xok x = true then (if (p.any fun y => decide (x.f0 ≤ y)) = true then ((i : Int), 5) else lgo (some x.f0) (i + 1) l) else ((i : Int), 2)
def lchk (l : List S35) : Int × Int := if l.length > 16 then (-1, 8) else lgo none 0 l
def lprev (L : List S35) (i : Nat) : Option Int := if i = 0 then none else some (L[i - 1]?.getD z35).f0
theorem lgo_ev (L : List S35) (hL : L.length ≤ 16) : ∀ (d i : Nat), i + d = L.length → Ev (fun k => liability_Check.l0 k L L (L.length : Int) (i : Int)) (lgo (lprev L i) i (L.drop i))
  | 0, i, h => by
    rw [List.drop_eq_nil_of_le (by omega)]
    exact Ev.succ (Ev.const _) (fun k => by rw [liability_Check.l0, if_neg (by omega), lgo])
  | d + 1, i, h => by
    have hi : i < L.length := by omega
    have h1 : (i : Int) < (L.length : Int) := by omega
    have h0 : (0 : Int) ≤ (i : Int) := by omega
    have ih := lgo_ev L hL d (i + 1) (by omega)
    have e : ∀ k, liability_Check.l0 (k + 1) L L (L.length : Int) (i : Int) = liability_Check.j1 k L i L (L.length : Int) i (!xok L[i]) L[i].f0 L[i].f1 L[i].f2 L[i].f3 L[i].f4 := by
      intro k
      rw [liability_Check.l0, if_pos h1, if_pos h0, if_pos h1]
      simp only [lwithin_f, Option.bind_some, rd_get L i hi]
      unfold xok
      cases wB L[i].f0 1 1073741824 <;> cases wB L[i].f1 1 1073741824 <;> cases wB L[i].f2 1 9 <;> cases wB L[i].f3 0 100000 <;> simp
    rw [List.drop_eq_getElem_cons hi, lgo]
    refine Ev.succ ?_ e
    cases hx : xok L[i] with
    | false => exact Ev.succ (Ev.const _) (fun k => by rw [liability_Check.j1]; simp)
    | true =>
      rw [if_pos rfl]
      by_cases hz : i = 0
      · subst hz
        have e2 : ∀ k, liability_Check.j1 (k + 1) L (0 : Nat) L (L.length : Int) (0 : Nat) (!true) L[0].f0 L[0].f1 L[0].f2 L[0].f3 L[0].f4 = liability_Check.l0 k L L (L.length : Int) ((0 + 1 : Nat) : Int) := by
          intro k
          rw [liability_Check.j1, if_neg (by simp), if_neg (by simp), wrap_at _ (by omega) (by omega)]
          rfl
        refine Ev.succ ?_ e2
        rw [if_neg (by simp [lprev])]
        have : lprev L (0 + 1) = some L[0].f0 := by simp [lprev, hi]
        rw [← this]
        exact ih
      · have hp : i - 1 < L.length := by omega
        have hw : wrap64 ((i : Int) - 1) = ((i - 1 : Nat) : Int) := by rw [wrap_at _ (by omega) (by omega)]; omega
        have hw2 : wrap64 ((i : Int) + 1) = ((i + 1 : Nat) : Int) := by rw [wrap_at _ (by omega) (by omega)]; omega
        have hl : lprev L i = some L[i - 1].f0 := by simp [lprev, hz, hp]
        have hl2 : lprev L (i + 1) = some L[i].f0 := by simp [lprev, hi]
        rw [hl2] at ih
        by_cases hc : L[i].f0 ≤ L[i - 1].f0
        · rw [if_pos (by rw [hl]; simp [hc])]
          refine Ev.succ (Ev.const _) (fun k => ?_)
          rw [liability_Check.j1, if_neg (by simp), if_pos (by omega), hw, if_pos (by omega), if_pos (by omega), rd_get L (i - 1) hp, if_pos hc]
        · rw [if_neg (by rw [hl]; simp [hc])]
          refine Ev.succ ih (fun k => ?_)
          rw [liability_Check.j1, if_neg (by simp), if_pos (by omega), hw, if_pos (by omega), if_pos (by omega), rd_get L (i - 1) hp, if_neg hc, hw2]
theorem lchk_ev (l : List S35) : Ev (fun k => liability_Check.f k l) (lchk l) := by
  unfold lchk
  by_cases h : l.length > 16
  · rw [if_pos h]
    exact (Ev.const _).congr fun k => by unfold liability_Check.f; rw [if_pos (by omega)]
  · rw [if_neg h]
    exact (lgo_ev l (by omega) l.length 0 (by omega)).congr fun k => by unfold liability_Check.f; rw [if_neg (by omega)]; rfl

/-! ### the tariff -/
def rok (r : S60) : Bool := wB r.f0 1 9 && (wB r.f1 0 100000 && wB r.f2 0 1000000)
theorem ranged_f (r : S60) : tariff_ranged.f r.f0 r.f1 r.f2 = some (rok r) := by
  unfold tariff_ranged.f rok
  simp only [twithin_f, Option.bind_some]
  cases wB r.f0 1 9 <;> cases wB r.f1 0 100000 <;> simp
def cmpI (a b : Int) : Int := if a < b then -1 else if a > b then 1 else 0
theorem cmp_f (a b : Int) : cmp_Compare_int.f a b = some (cmpI a b) := by
  unfold cmp_Compare_int.f cmp_isNaN_int.f cmpI
  simp
  split
  · rfl
  · split <;> rfl
def befR (a b : S60) : Bool := decide (a.f0 < b.f0) || (decide (a.f0 = b.f0) && decide (a.f1 < b.f1))
def cmpR (a b : S60) : Int := if cmpI a.f0 b.f0 = 0 then cmpI a.f1 b.f1 else cmpI a.f0 b.f0
theorem cmpR_neg (a b : S60) : (cmpR a b ≥ 0) ↔ befR a b = false := by
  unfold cmpR cmpI befR
  simp only [Bool.or_eq_false_iff, Bool.and_eq_false_iff, decide_eq_false_iff_not]
  repeat' split
  all_goals omega
theorem or_ev (a b : Int) : Ev (fun k => cmp_Or_int.f k [a, b]) (if a = 0 then b else a) := by
  have e1 : ∀ k, cmp_Or_int.f (k + 1) [a, b] = if a = 0 then cmp_Or_int.l0 k 0 [a, b] 2 1 else some a := by
    intro k
    unfold cmp_Or_int.f
    rw [cmp_Or_int.l0, if_pos (by simp), if_pos (by simp), if_pos (by simp), wrap_at _ (by omega) (by omega)]
    rfl
  refine Ev.succ ?_ e1
  by_cases h : a = 0
  · simp only [if_pos h]
    have e2 : ∀ k, cmp_Or_int.l0 (k + 1) 0 [a, b] 2 1 = if b = 0 then cmp_Or_int.l0 k 0 [a, b] 2 2 else some b := by
      intro k
      rw [cmp_Or_int.l0, if_pos (by simp), if_pos (by simp), if_pos (by simp), wrap_at _ (by omega) (by omega)]
      rfl
    refine Ev.succ ?_ e2
    by_cases hb : b = 0
    · simp only [if_pos hb]
      exact Ev.succ (Ev.const _) (fun k => by rw [cmp_Or_int.l0, if_neg (by simp), hb])
    · simp only [if_neg hb]
      exact Ev.const _
  · simp only [if_neg h]
    exact Ev.const _
theorem compare_ev (a b : S60) : Ev (fun k => tariff_compare.f k a.f0 a.f1 a.f2 b.f0 b.f1 b.f2) (cmpR a b) := by
  unfold tariff_compare.f
  simp only [cmp_f, Option.bind_some]
  exact Ev.bind (or_ev _ _) (Ev.const _)
def tgo : Option S60 → Nat → List S60 → Int × Int
  | _, _, [] => (-1, 0)
  | p, i, r :: l => if rok r = true then (if (p.any fun y => !befR y r) = true then ((i : Int), 5) else tgo (some r) (i + 1) l) else ((i : Int), 2)
def tchk (a : Int) (l : List S60) : Int × Int := if wB a 1 4 = true then (if l.length > 64 then (-1, 8) else tgo none 0 l) else (-1, 2)
def tprev (L : List S60) (i : Nat) : Option S60 := if i = 0 then none else some (L[i - 1]?.getD z60)
theorem tgo_ev (a : Int) (L : List S60) (hL : L.length ≤ 64) : ∀ (d i : Nat), i + d = L.length → Ev (fun k => tariff_Check.l0 k L (L.length : Int) (i : Int) a L) (tgo (tprev L i) i (L.drop i))
  | 0, i, h => by
    rw [List.drop_eq_nil_of_le (by omega)]
    exact Ev.succ (Ev.const _) (fun k => by rw [tariff_Check.l0, if_neg (by omega), tgo])
  | d + 1, i, h => by
    have hi : i < L.length := by omega
    have h1 : (i : Int) < (L.length : Int) := by omega
    have h0 : (0 : Int) ≤ (i : Int) := by omega
    have ih := tgo_ev a L hL d (i + 1) (by omega)
    have hw2 : wrap64 ((i : Int) + 1) = ((i + 1 : Nat) : Int) := by rw [wrap_at _ (by omega) (by omega)]; omega
    have hl2 : tprev L (i + 1) = some L[i] := by simp [tprev, hi]
    rw [hl2] at ih
    rw [List.drop_eq_getElem_cons hi, tgo]
    cases hx : rok L[i] with
    | false => exact Ev.succ (Ev.const _) (fun k => by rw [tariff_Check.l0, if_pos h1, if_pos h0, if_pos h1, rd60_get L i hi, ranged_f, hx]; rfl)
    | true =>
      rw [if_pos rfl]
      by_cases hz : i = 0
      · subst hz
        rw [if_neg (by simp [tprev])]
        exact Ev.succ ih (fun k => by rw [tariff_Check.l0, if_pos h1, if_pos h0, if_pos h1, rd60_get L 0 hi, ranged_f, hx, Option.bind_some, if_pos rfl, if_neg (by simp), hw2])
      · have hp : i - 1 < L.length := by omega
        have hw : wrap64 ((i : Int) - 1) = ((i - 1 : Nat) : Int) := by rw [wrap_at _ (by omega) (by omega)]; omega
        have hl : tprev L i = some L[i - 1] := by simp [tprev, hz, hp]
        have e : ∀ k, tariff_Check.l0 (k + 1) L (L.length : Int) (i : Int) a L = (tariff_compare.f k L[i - 1].f0 L[i - 1].f1 L[i - 1].f2 L[i].f0 L[i].f1 L[i].f2).bind fun t => if t ≥ 0 then some ((i : Int), 5) else tariff_Check.l0 k L (L.length : Int) ((i + 1 : Nat) : Int) a L := by
          intro k
          rw [tariff_Check.l0, if_pos h1, if_pos h0, if_pos h1, rd60_get L i hi, ranged_f, hx, Option.bind_some, if_pos rfl, if_pos (by omega), hw, if_pos (by omega), if_pos (by omega), rd60_get L (i - 1) hp, hw2]
        refine Ev.succ (Ev.bind (compare_ev L[i - 1] L[i]) ?_) e
        rw [hl]
        show Ev (fun k => if cmpR L[i - 1] L[i] ≥ 0 then some ((i : Int), 5) else tariff_Check.l0 k L (L.length : Int) ((i + 1 : Nat) : Int) a L) (if (!befR L[i - 1] L[i]) = true then ((i : Int), 5) else tgo (some L[i]) (i + 1) (L.drop (i + 1)))
        by_cases hc : cmpR L[i - 1] L[i] ≥ 0
        · have := (cmpR_neg _ _).1 hc
          simp only [if_pos hc]
          rw [this]
          exact Ev.const _
        · have hb : befR L[i - 1] L[i] = true := by
            cases hb : befR L[i - 1] L[i] with
            | true => rfl
            | false => exact absurd ((cmpR_neg _ _).2 hb) hc
          simp only [if_neg hc]
          rw [hb]
          exact ih
theorem tchk_ev (a : Int) (l : List S60) : Ev (fun k => tariff_Check.f k a l) (tchk a l) := by
  unfold tchk tariff_Check.f
  simp only [twithin_f, Option.bind_some]
  cases wB a 1 4 with
  | false => exact Ev.const _
  | true =>
    simp only [if_true]
    by_cases h : l.length > 64
    · rw [if_pos h]
      exact (Ev.const _).congr fun k => by rw [if_pos (by omega)]
    · rw [if_neg h]
      exact (tgo_ev a l (by omega) l.length 0 (by omega)).congr fun k => by rw [if_neg (by omega)]; rfl

/-! ### questions -/
def asksP (a : Int) (l : List S60) (x : List S35) (day : Int) : Int := if (tchk a l).2 = 0 ∧ (lchk x).2 = 0 then (if wB day 0 100000 = true then 0 else 2) else 1
theorem j0_ev (day : Int) (b : Bool) : Ev (fun k => liability_asks.j0 k day b) (if b = true then 1 else if wB day 0 100000 = true then 0 else 2) :=
  Ev.succ (Ev.const _) (fun k => by
    rw [liability_asks.j0, lwithin_f]
    cases b
    · cases wB day 0 100000 <;> rfl
    · rfl)
theorem asks_ev (a : Int) (l : List S60) (x : List S35) (day : Int) : Ev (fun k => liability_asks.f k a l x day) (asksP a l x day) := by
  unfold liability_asks.f asksP
  refine Ev.bind (tchk_ev a l) (Ev.bind (lchk_ev x) ?_)
  by_cases h1 : (tchk a l).2 = 0
  · by_cases h2 : (lchk x).2 = 0
    · simp only [h1, h2, if_true, and_self]
      exact j0_ev day _
    · have h3 : ((lchk x).2 != 0) = true := bne_iff_ne.mpr h2
      simp only [h1, h2, h3, if_true, and_false, if_false]
      exact j0_ev day _
  · simp only [h1, if_false, false_and]
    exact j0_ev day _
theorem asks_zero {a : Int} {l : List S60} {x : List S35} {day : Int} (h : asksP a l x day = 0) : (tchk a l).2 = 0 ∧ (lchk x).2 = 0 ∧ 0 ≤ day ∧ day ≤ 100000 := by
  unfold asksP at h
  by_cases h1 : (tchk a l).2 = 0 ∧ (lchk x).2 = 0
  · rw [if_pos h1] at h
    cases hw : wB day 0 100000 with
    | false => rw [hw] at h; simp at h
    | true => exact ⟨h1.1, h1.2, wB_iff.1 hw⟩
  · rw [if_neg h1] at h
    cases h
theorem Ev.det {α : Type} {g : Nat → Option α} {r t : α} (hm : ∀ k, LeO (g k) (g (k + 1))) (h : Ev g r) {k : Nat} (hk : g k = some t) : t = r := by
  obtain ⟨K, hK⟩ := h
  obtain ⟨J, hJ⟩ := Ev.of_mono hm hk
  have h1 := hK (K + J) (by omega)
  have h2 := hJ (K + J) (by omega)
  rw [h1] at h2
  exact (Option.some.inj h2).symm
theorem lgo_to : ∀ (l : List S35) (p : Option Int) (i : Nat), (lgo p i l).2 = 0 → ∀ x ∈ l, xok x = true
  | [], _, _, _, x, hx => by simp at hx
  | y :: l, p, i, h, x, hx => by
    rw [lgo] at h
    by_cases h1 : xok y = true
    · rw [if_pos h1] at h
      split at h
      · cases h
      · rcases List.mem_cons.1 hx with rfl | hx
        · exact h1
        · exact lgo_to l _ _ h x hx
    · rw [if_neg h1] at h
      cases h
theorem lchk_to {l : List S35} (h : (lchk l).2 = 0) : l.length ≤ 16 ∧ ∀ x ∈ l, xok x = true := by
  unfold lchk at h
  by_cases h1 : l.length > 16
  · rw [if_pos h1] at h
    cases h
  · rw [if_neg h1] at h
    exact ⟨by omega, lgo_to l _ _ h⟩
theorem xok_iff {x : S35} : xok x = true ↔ (1 ≤ x.f0 ∧ x.f0 ≤ 1073741824) ∧ (1 ≤ x.f1 ∧ x.f1 ≤ 1073741824) ∧ (1 ≤ x.f2 ∧ x.f2 ≤ 9) ∧ (0 ≤ x.f3 ∧ x.f3 ≤ 100000) ∧ (1 ≤ x.f4 ∧ x.f4 ≤ 10737418240000) := by
  unfold xok
  simp only [Bool.and_eq_true, wB_iff]
end Go.Proofs.Ythboaobgipodiaa.K
