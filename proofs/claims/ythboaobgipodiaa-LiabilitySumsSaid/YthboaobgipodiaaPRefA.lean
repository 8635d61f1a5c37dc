/- By hand: what the reference of tariff, and of the greatest liability of one exposure, computes: the same as the program. -/
import Derived.Test.YthboaobgipodiaaPMono
import Derived.Test.YthboaobgipodiaaK21
namespace Go.Proofs.Ythboaobgipodiaa.K
open Go.RowKit Go.Proofs.YthboaobgipodiaaW.PrintWords
set_option linter.unusedVariables false
set_option linter.unusedSimpArgs false

theorem rbetween_f (a b c : Int) : spileref51_between.f a b c = some (wB a b c) := by
  unfold spileref51_between.f
  have : spileref47_Between.f a b c = some (wB a b c) := lwithin_f a b c
  rw [this]
  rfl
theorem rlgo_ev (L : List S35) (hL : L.length ≤ 16) : ∀ (d i : Nat), i + d = L.length → Ev (fun k => spileref51_Check.l0 k L (i : Int)) (lgo (lprev L i) i (L.drop i))
  | 0, i, h => by
    rw [List.drop_eq_nil_of_le (by omega)]
    exact Ev.succ (Ev.const _) (fun k => by rw [spileref51_Check.l0, if_neg (by omega), lgo])
  | d + 1, i, h => by
    have hi : i < L.length := by omega
    have h1 : (i : Int) < (L.length : Int) := by omega
    have h0 : (0 : Int) ≤ (i : Int) := by omega
    have ih := rlgo_ev L hL d (i + 1) (by omega)
    have e : ∀ k, spileref51_Check.l0 (k + 1) L (i : Int) = spileref51_Check.j1 k L i (!xok L[i]) L[i].f0 L[i].f1 L[i].f2 L[i].f3 L[i].f4 := by
      intro k
      rw [spileref51_Check.l0, if_pos h1, if_pos h0]
      simp only [rbetween_f, Option.bind_some, rd_get L i hi]
      unfold xok
      cases wB L[i].f0 1 1073741824 <;> cases wB L[i].f1 1 1073741824 <;> cases wB L[i].f2 1 9 <;> cases wB L[i].f3 0 100000 <;> simp
    rw [List.drop_eq_getElem_cons hi, lgo]
    refine Ev.succ ?_ e
    cases hx : xok L[i] with
    | false => exact Ev.succ (Ev.const _) (fun k => by rw [spileref51_Check.j1]; simp)
    | true =>
      rw [if_pos rfl]
      by_cases hz : i = 0
      · subst hz
        have e2 : ∀ k, spileref51_Check.j1 (k + 1) L (0 : Nat) (!true) L[0].f0 L[0].f1 L[0].f2 L[0].f3 L[0].f4 = spileref51_Check.l0 k L ((0 + 1 : Nat) : Int) := by
          intro k
          rw [spileref51_Check.j1, if_neg (by simp), if_neg (by simp), wrap_at _ (by omega) (by omega)]
          rfl
        refine Ev.succ ?_ e2
        rw [if_neg (by simp [lprev])]
        have : lprev L (0 + 1) = some L[0].f0 := by simp [lprev, hi]
        rw [← this]
        exact ih
      · have hp : i - 1 < L.length := by omega
        have hw : wrap64 ((i : Int) - 1) = ((i - 1 : Nat) : Int) := by rw [wrap_at _ (by omega) (by omega)]; omega
        have hw2 : wrap64 ((i : Int) + 1) = ((i + 1 : Nat) : Int) := by rw [wrap_at _ (by omega) (by omega)]; omega
        have hl : lprev L i = some L[i - 1].f0 := by simp [lprev, hz, hp]
        have hl2 : lprev L (i + 1) = some L[i].f0 := by simp [lprev, hi]
        rw [hl2] at ih
        by_cases hc : L[i].f0 ≤ L[i - 1].f0
        · rw [if_pos (by rw [hl]; simp [hc])]
          refine Ev.succ (Ev.const _) (fun k => ?_)
          rw [spileref51_Check.j1, if_neg (by simp), if_pos (by omega), hw, if_pos (by omega), if_pos (by omega), rd_get L (i - 1) hp, if_pos hc]
        · rw [if_neg (by rw [hl]; simp [hc])]
          refine Ev.succ ih (fun k => ?_)
          rw [spileref51_Check.j1, if_neg (by simp), if_pos (by omega), hw, if_pos (by omega), if_pos (by omega), rd_get L (i - 1) hp, if_neg hc, hw2]
theorem rlchk_ev (l : List S35) : Ev (fun k => spileref51_Check.f k l) (lchk l) := by
  unfold lchk
  by_cases h : l.length > 16
  · rw [if_pos h]
    exact (Ev.const _).congr fun k => by unfold spileref51_Check.f; rw [if_pos (by omega)]
  · rw [if_neg h]
    exact (rlgo_ev l (by omega) l.length 0 (by omega)).congr fun k => by unfold spileref51_Check.f; rw [if_neg (by omega)]; rfl
theorem rright_f (r : S60) : spileref46_right.f r.f0 r.f1 r.f2 = some (rok r) := by
  unfold spileref46_right.f rok wB
  by_cases h1 : r.f0 ≥ 1 <;> by_cases h2 : r.f0 ≤ 9 <;> by_cases h3 : r.f1 ≥ 0 <;> by_cases h4 : r.f1 ≤ 100000 <;> by_cases h5 : r.f2 ≥ 0 <;> simp [h1, h2, h3, h4, h5] <;> omega
theorem rbefore_f (a b : S60) : spileref46_before.f a.f0 a.f1 a.f2 b.f0 b.f1 b.f2 = some (befR a b) := by
  unfold spileref46_before.f befR
  by_cases h1 : a.f0 < b.f0
  · rw [if_pos h1]
    simp [h1]
  · rw [if_neg h1]
    by_cases h2 : a.f0 = b.f0
    · rw [if_pos h2]
      simp [h1, h2]
    · rw [if_neg h2]
      simp [h1, h2]
theorem rtgo_ev (a : Int) (L : List S60) (hL : L.length ≤ 64) : ∀ (d i : Nat), i + d = L.length → Ev (fun k => spileref46_Check.l0 k (i : Int) a L) (tgo (tprev L i) i (L.drop i))
  | 0, i, h => by
    rw [List.drop_eq_nil_of_le (by omega)]
    exact Ev.succ (Ev.const _) (fun k => by rw [spileref46_Check.l0, if_neg (by omega), tgo])
  | d + 1, i, h => by
    have hi : i < L.length := by omega
    have h1 : (i : Int) < (L.length : Int) := by omega
    have h0 : (0 : Int) ≤ (i : Int) := by omega
    have ih := rtgo_ev a L hL d (i + 1) (by omega)
    have hw2 : wrap64 ((i : Int) + 1) = ((i + 1 : Nat) : Int) := by rw [wrap_at _ (by omega) (by omega)]; omega
    have hl2 : tprev L (i + 1) = some L[i] := by simp [tprev, hi]
    rw [hl2] at ih
    rw [List.drop_eq_getElem_cons hi, tgo]
    cases hx : rok L[i] with
    | false => exact Ev.succ (Ev.const _) (fun k => by rw [spileref46_Check.l0, if_pos h1, if_pos h0, rd60_get L i hi, rright_f, hx]; rfl)
    | true =>
      rw [if_pos rfl]
      by_cases hz : i = 0
      · subst hz
        rw [if_neg (by simp [tprev])]
        exact Ev.succ ih (fun k => by rw [spileref46_Check.l0, if_pos h1, if_pos h0, rd60_get L 0 hi, rright_f, hx, Option.bind_some, if_pos rfl, if_neg (by simp), hw2])
      · have hp : i - 1 < L.length := by omega
        have hw : wrap64 ((i : Int) - 1) = ((i - 1 : Nat) : Int) := by rw [wrap_at _ (by omega) (by omega)]; omega
        have hl : tprev L i = some L[i - 1] := by simp [tprev, hz, hp]
        have e : ∀ k, spileref46_Check.l0 (k + 1) (i : Int) a L = if befR L[i - 1] L[i] = true then spileref46_Check.l0 k ((i + 1 : Nat) : Int) a L else some ((i : Int), 5) := by
          intro k
          rw [spileref46_Check.l0, if_pos h1, if_pos h0, rd60_get L i hi, rright_f, hx, Option.bind_some, if_pos rfl, if_pos (by omega), hw, if_pos (by omega), if_pos (by omega), rd60_get L (i - 1) hp, rbefore_f, Option.bind_some, hw2]
        refine Ev.succ ?_ e
        rw [hl]
        show Ev (fun k => if befR L[i - 1] L[i] = true then spileref46_Check.l0 k ((i + 1 : Nat) : Int) a L else some ((i : Int), 5)) (if (!befR L[i - 1] L[i]) = true then ((i : Int), 5) else tgo (some L[i]) (i + 1) (L.drop (i + 1)))
        cases befR L[i - 1] L[i] with
        | false => exact Ev.const _
        | true => exact ih
theorem rtchk_ev (a : Int) (l : List S60) : Ev (fun k => spileref46_Check.f k a l) (tchk a l) := by
  have j0t : Ev (fun k => spileref46_Check.j0 k true a l) (-1, 2) := Ev.succ (Ev.const _) (fun k => by rw [spileref46_Check.j0]; rfl)
  unfold tchk spileref46_Check.f
  by_cases h1 : a < 1
  · simp only [if_pos h1]
    have : wB a 1 4 = false := by unfold wB; simp; omega
    rw [this]
    exact j0t
  · simp only [if_neg h1]
    by_cases h2 : a > 4
    · have : wB a 1 4 = false := by unfold wB; simp; omega
      rw [this, decide_eq_true h2]
      exact j0t
    · rw [decide_eq_false h2, if_pos (wB_iff.2 (by omega))]
      by_cases h : l.length > 64
      · rw [if_pos h]
        exact Ev.succ (Ev.const _) (fun k => by rw [spileref46_Check.j0, if_neg (by decide), if_pos (by omega)])
      · rw [if_neg h]
        exact Ev.succ (rtgo_ev a l (by omega) l.length 0 (by omega)) (fun k => by rw [spileref46_Check.j0, if_neg (by decide), if_neg (by omega)]; rfl)
theorem asked_ev (a : Int) (l : List S60) (x : List S35) (day : Int) : Ev (fun k => spileref51_asked.f k a l x day) (asksP a l x day) := by
  have j0 : ∀ b : Bool, Ev (fun k => spileref51_asked.j0 k day b) (if b = true then 1 else if wB day 0 100000 = true then 0 else 2) := fun b => Ev.succ (Ev.const _) (fun k => by
    rw [spileref51_asked.j0, rbetween_f]
    cases b
    · cases wB day 0 100000 <;> rfl
    · rfl)
  unfold spileref51_asked.f asksP spileref46_Right.f
  refine Ev.bind (rlchk_ev x) (Ev.bind (Ev.bind (rtchk_ev a l) (Ev.const _)) ?_)
  by_cases h1 : (tchk a l).2 = 0
  · have e : ((tchk a l).2 == 0) = true := by rw [h1]; rfl
    simp only [e, if_true]
    by_cases h2 : (lchk x).2 = 0
    · have e2 : ((lchk x).2 != 0) = false := by rw [h2]; rfl
      simp only [h1, h2, and_self, if_true]
      exact j0 _
    · have e2 : ((lchk x).2 != 0) = true := bne_iff_ne.mpr h2
      simp only [h2, e2, and_false, if_false]
      exact j0 true
  · have e : ((tchk a l).2 == 0) = false := beq_eq_false_iff_ne.mpr h1
    simp only [e, h1, false_and, if_false]
    exact j0 true

/-! ### rates -/
theorem rfrcl_ev (a cls day : Int) (L : List S60) (hL : L.length ≤ 64) : ∀ (d i : Nat) (s : S60 × Bool), i + d = L.length →
    Ev (fun k => spileref46_Force.l0 k cls day s.2 (i : Int) a L s.1.f0 s.1.f1 s.1.f2) (((L.drop i).foldl (fstep cls day) s).1.f0, ((L.drop i).foldl (fstep cls day) s).1.f1, ((L.drop i).foldl (fstep cls day) s).1.f2, ((L.drop i).foldl (fstep cls day) s).2)
  | 0, i, s, h => by
    rw [List.drop_eq_nil_of_le (by omega)]
    exact Ev.succ (Ev.const _) (fun k => by rw [spileref46_Force.l0, if_neg (by omega)]; rfl)
  | d + 1, i, s, h => by
    have hi : i < L.length := by omega
    have h1 : (i : Int) < (L.length : Int) := by omega
    have h0 : (0 : Int) ≤ (i : Int) := by omega
    have ih := rfrcl_ev a cls day L hL d (i + 1) (fstep cls day s L[i]) (by omega)
    rw [List.drop_eq_getElem_cons hi, List.foldl_cons]
    refine Ev.succ ih (fun k => ?_)
    rw [spileref46_Force.l0, if_pos h1, if_pos h0, rd60_get L i hi, w1 hi (by omega)]
    unfold fstep
    by_cases c1 : L[i].f0 = cls
    · by_cases c2 : L[i].f1 ≤ day
      · rw [if_pos c1, if_pos c2, if_pos ⟨c1, c2⟩]
      · rw [if_pos c1, if_neg c2, if_neg (fun h => c2 h.2)]
    · rw [if_neg c1, if_neg (fun h => c1 h.1)]
theorem rfrc_ev (a : Int) (cls day : Int) (l : List S60) (hl : l.length ≤ 64) : Ev (fun k => spileref46_Force.f k a l cls day) ((frc cls day l).1.f0, (frc cls day l).1.f1, (frc cls day l).1.f2, (frc cls day l).2) :=
  rfrcl_ev a cls day l hl l.length 0 (z60, false) (by omega)
def mstep (cls fr tt : Int) (s : S60 × Bool) (r : S60) : S60 × Bool := if r.f0 = cls ∧ (fr < r.f1 ∧ r.f1 ≤ tt) ∧ (s.2 = false ∨ r.f2 > s.1.f2) then (r, true) else s
theorem mostl_ev (a cls fr tt : Int) (L : List S60) (hL : L.length ≤ 64) : ∀ (d i : Nat) (s : S60 × Bool), i + d = L.length →
    Ev (fun k => spileref46_Most.l0 k cls fr tt s.2 (i : Int) a L s.1.f0 s.1.f1 s.1.f2) (((L.drop i).foldl (mstep cls fr tt) s).1.f0, ((L.drop i).foldl (mstep cls fr tt) s).1.f1, ((L.drop i).foldl (mstep cls fr tt) s).1.f2, ((L.drop i).foldl (mstep cls fr tt) s).2)
  | 0, i, s, h => by
    rw [List.drop_eq_nil_of_le (by omega)]
    exact Ev.succ (Ev.const _) (fun k => by rw [spileref46_Most.l0, if_neg (by omega)]; rfl)
  | d + 1, i, s, h => by
    have hi : i < L.length := by omega
    have h1 : (i : Int) < (L.length : Int) := by omega
    have h0 : (0 : Int) ≤ (i : Int) := by omega
    have ih := mostl_ev a cls fr tt L hL d (i + 1) (mstep cls fr tt s L[i]) (by omega)
    rw [List.drop_eq_getElem_cons hi, List.foldl_cons]
    have e : ∀ k, spileref46_Most.l0 (k + 1) cls fr tt s.2 (i : Int) a L s.1.f0 s.1.f1 s.1.f2 = spileref46_Most.j1 k cls fr tt s.2 (i : Int) (decide (L[i].f0 = cls) && (decide (L[i].f1 > fr) && (decide (L[i].f1 ≤ tt) && (!s.2 || decide (L[i].f2 > s.1.f2))))) a L s.1.f0 s.1.f1 s.1.f2 L[i].f0 L[i].f1 L[i].f2 := by
      intro k
      rw [spileref46_Most.l0, if_pos h1, if_pos h0, rd60_get L i hi]
      by_cases c1 : L[i].f0 = cls
      · rw [if_pos c1]
        by_cases c2 : L[i].f1 > fr
        · rw [if_pos c2]
          by_cases c3 : L[i].f1 ≤ tt
          · rw [if_pos c3]
            cases s.2 <;> simp [c1, c2, c3]
          · rw [if_neg c3]
            simp [c3]
        · rw [if_neg c2]
          simp [c2]
      · rw [if_neg c1]
        simp [c1]
    refine Ev.succ (Ev.succ ih (fun k => ?_)) e
    rw [spileref46_Most.j1, w1 hi (by omega)]
    unfold mstep
    by_cases c : L[i].f0 = cls ∧ (fr < L[i].f1 ∧ L[i].f1 ≤ tt) ∧ (s.2 = false ∨ L[i].f2 > s.1.f2)
    · have c' : (decide (L[i].f0 = cls) && (decide (L[i].f1 > fr) && (decide (L[i].f1 ≤ tt) && (!s.2 || decide (L[i].f2 > s.1.f2))))) = true := by
        simp only [Bool.and_eq_true, decide_eq_true_eq, Bool.or_eq_true, Bool.not_eq_true']
        exact ⟨c.1, c.2.1.1, c.2.1.2, c.2.2⟩
      rw [if_pos c, if_pos c']
    · have c' : ¬ (decide (L[i].f0 = cls) && (decide (L[i].f1 > fr) && (decide (L[i].f1 ≤ tt) && (!s.2 || decide (L[i].f2 > s.1.f2))))) = true := by
        simp only [Bool.and_eq_true, decide_eq_true_eq, Bool.or_eq_true, Bool.not_eq_true']
        exact fun h => c ⟨h.1, ⟨h.2.1, h.2.2.1⟩, h.2.2.2⟩
      rw [if_neg c, if_neg c']
theorem most_grt (cls fr tt : Int) : ∀ (l : List S60) (s : S60 × Bool), (∀ r ∈ l, r.f0 = cls → r.f1 = fr → s.2 = true ∧ r.f2 ≤ s.1.f2) → l.foldl (mstep cls fr tt) s = l.foldl (gstep cls fr tt) s
  | [], s, _ => rfl
  | r :: l, s, h => by
    have hr := h r List.mem_cons_self
    have e : mstep cls fr tt s r = gstep cls fr tt s r := by
      unfold mstep gstep
      by_cases c : r.f0 = cls ∧ (fr < r.f1 ∧ r.f1 ≤ tt) ∧ (s.2 = false ∨ r.f2 > s.1.f2)
      · rw [if_pos c, if_pos ⟨c.1, ⟨Int.le_of_lt c.2.1.1, c.2.1.2⟩, c.2.2⟩]
      · rw [if_neg c, if_neg]
        rintro ⟨c1, ⟨c2, c3⟩, c4⟩
        by_cases c5 : r.f1 = fr
        · obtain ⟨h1, h2⟩ := hr c1 c5
          rcases c4 with c4 | c4
          · rw [h1] at c4
            cases c4
          · omega
        · exact c ⟨c1, ⟨by omega, c3⟩, c4⟩
    rw [List.foldl_cons, List.foldl_cons, e]
    refine most_grt cls fr tt l _ (fun q hq e1 e2 => ?_)
    obtain ⟨h1, h2⟩ := h q (List.mem_cons_of_mem _ hq) e1 e2
    unfold gstep
    split
    · rename_i c
      refine ⟨rfl, ?_⟩
      rcases c.2.2 with c4 | c4
      · rw [h1] at c4
        cases c4
      · show q.f2 ≤ r.f2
        omega
    · exact ⟨h1, h2⟩
theorem most_ev (a : Int) (l : List S60) (cls fr tt : Int) (ht : (tchk a l).2 = 0) : Ev (fun k => spileref46_Most.f k a l cls fr tt) ((grt cls fr tt l).1.f0, (grt cls fr tt l).1.f1, (grt cls fr tt l).1.f2, (grt cls fr tt l).2) := by
  obtain ⟨_, hl, _, hp⟩ := tchk_ok ht
  have h := mostl_ev a cls fr tt l hl l.length 0 (frc cls fr l) (by omega)
  rw [List.drop_zero, most_grt cls fr tt l (frc cls fr l) (fun r hr e1 e2 => ?_)] at h
  · unfold spileref46_Most.f
    exact Ev.bind (rfrc_ev a cls fr l hl) h
  · rcases force_spec cls fr l.length l rfl hp with ⟨_, b2⟩ | ⟨b1, b2, b3, b4, b5⟩
    · exact absurd ⟨e1, by omega⟩ (b2 r hr)
    · refine ⟨b1, ?_⟩
      rcases b5 r hr e1 (by omega) with e | e
      · rw [← e]
        exact Int.le_refl _
      · omega

/-! ### amounts -/
theorem amount_ev {rule c m : Int} (hc : 0 ≤ c ∧ c ≤ 1000000) (hm : 0 ≤ m ∧ m ≤ 10737418240000) : Ev (fun k => spileref46_Amount.f k rule c m) (amt rule c m) := by
  have hq0 : 0 ≤ m / 10000000 ∧ m / 10000000 ≤ 1073742 := by omega
  have ht0 : 0 ≤ m % 10000000 ∧ m % 10000000 ≤ 10000000 := by omega
  have hcq0 := Int.mul_nonneg hc.1 hq0.1
  have hcq1 : c * (m / 10000000) ≤ 1000000 * 1073742 := Int.mul_le_mul hc.2 hq0.2 hq0.1 (by omega)
  have hct0 := Int.mul_nonneg hc.1 ht0.1
  have hct1 : c * (m % 10000000) ≤ 1000000 * 10000000 := Int.mul_le_mul hc.2 ht0.2 ht0.1 (by omega)
  have hcm : c * m = 10000000 * (c * (m / 10000000)) + c * (m % 10000000) := by
    have := Int.mul_ediv_add_emod m 10000000
    calc c * m = c * (10000000 * (m / 10000000) + m % 10000000) := by rw [this]
      _ = c * (10000000 * (m / 10000000)) + c * (m % 10000000) := Int.mul_add _ _ _
      _ = 10000000 * (c * (m / 10000000)) + c * (m % 10000000) := by rw [Int.mul_left_comm]
  have e1 : Int.tdiv m 10000000 = m / 10000000 := Int.tdiv_eq_ediv_of_nonneg hm.1
  have e2 : Int.tmod m 10000000 = m % 10000000 := Int.tmod_eq_emod_of_nonneg hm.1
  have w : ∀ n : Int, 0 ≤ n → n ≤ 4611686018427387904 → wrap64 n = n := fun n h0 h1 => by unfold wrap64; omega
  have e3 : wrap64 (c * (m % 10000000)) = c * (m % 10000000) := w _ hct0 (by omega)
  have e4 : Int.tdiv (c * (m % 10000000)) 10000000 = c * (m % 10000000) / 10000000 := Int.tdiv_eq_ediv_of_nonneg hct0
  have e5 : Int.tmod (c * (m % 10000000)) 10000000 = c * (m % 10000000) % 10000000 := Int.tmod_eq_emod_of_nonneg hct0
  have e6 : wrap64 (m / 10000000) = m / 10000000 := w _ hq0.1 (by omega)
  have e7 : wrap64 (c * (m / 10000000)) = c * (m / 10000000) := w _ hcq0 (by omega)
  have e8 : wrap64 (c * (m % 10000000) / 10000000) = c * (m % 10000000) / 10000000 := w _ (by omega) (by omega)
  have e9 : wrap64 (c * (m / 10000000) + c * (m % 10000000) / 10000000) = c * m / 10000000 := by
    rw [w _ (by omega) (by omega), hcm]
    omega
  have e10 : c * (m % 10000000) % 10000000 = c * m % 10000000 := by
    rw [hcm]
    omega
  have e11 : wrap64 (2 * (c * m % 10000000)) = 2 * (c * m % 10000000) := w _ (by omega) (by omega)
  have hn0 : 0 ≤ c * m / 10000000 := by omega
  have e12 : Int.tmod (c * m / 10000000) 2 = c * m / 10000000 % 2 := Int.tmod_eq_emod_of_nonneg hn0
  have hn1 : c * m / 10000000 ≤ 4611686018427387903 := by omega
  have j0 : ∀ b : Bool, Ev (fun k => spileref46_Amount.j0 k (c * m / 10000000) b) (c * m / 10000000 + (if b = true then 1 else 0)) := fun b => Ev.succ (Ev.const _) (fun k => by
    rw [spileref46_Amount.j0]
    cases b
    · simp
    · rw [if_pos rfl, if_pos rfl, w _ (by omega) (by omega)])
  unfold spileref46_Amount.f amt upN
  simp only [e1, e2, e3, e4, e5, e6, e7, e8, e9, e10, e11, e12]
  by_cases h2 : rule = 2
  · simp only [if_pos h2]
    exact j0 _
  · simp only [if_neg h2]
    by_cases h3 : rule = 3
    · simp only [if_pos h3]
      exact j0 _
    · simp only [if_neg h3]
      by_cases h4 : rule = 4
      · simp only [if_pos h4]
        by_cases h5 : 2 * (c * m % 10000000) > 10000000
        · have h5' : 10000000 < 2 * (c * m % 10000000) := h5
          simp only [if_pos h5, h5', true_or, decide_true]
          exact j0 true
        · have h5' : ¬ 10000000 < 2 * (c * m % 10000000) := h5
          simp only [if_neg h5, h5', false_or]
          by_cases h6 : 2 * (c * m % 10000000) = 10000000
          · simp only [if_pos h6, h6, true_and]
            exact j0 _
          · simp only [if_neg h6, h6, false_and, decide_false]
            exact j0 false
      · simp only [if_neg h4]
        exact j0 false
section
variable {a : Int} {l : List S60} {day : Int} {x : S35} (ht : (tchk a l).2 = 0) (hd : 0 ≤ day ∧ day ≤ 100000) (hx : xok x = true)
include ht hd hx
theorem rmost_ev : Ev (fun k => spileref51_most.f k a l x.f0 x.f1 x.f2 x.f3 x.f4 day) (if day < x.f3 then (0, x.f3) else (gP a l day x, wday a l x day)) := by
  obtain ⟨ha, _, hr, hp⟩ := tchk_ok ht
  obtain ⟨_, _, x2, x3, x4⟩ := xok_iff.1 hx
  unfold spileref51_most.f
  by_cases c : day < x.f3
  · simp only [if_pos c]
    exact Ev.const _
  · simp only [if_neg c]
    refine Ev.bind (most_ev a l x.f2 x.f3 day ht) ?_
    have hg := gP_eq ht hd hx
    rw [if_neg c] at hg
    have hsp : spanP a l x.f2 x.f3 day = 0 := by
      unfold spanP
      rw [if_pos ht, if_pos (by rw [wB_iff.2 x2, wB_iff.2 x3, wB_iff.2 ⟨show x.f3 ≤ day by omega, hd.2⟩]; rfl)]
    have hgr : grtP a l x.f2 x.f3 day = gres (grt x.f2 x.f3 day l) := by unfold grtP; rw [if_pos hsp]
    have hi := rate_in hr (s := grt x.f2 x.f3 day l) (great_mem hp (by omega))
    by_cases h : (grt x.f2 x.f3 day l).2 = true
    · have er : rateOf (grt x.f2 x.f3 day l) = (grt x.f2 x.f3 day l).1.f2 := by unfold rateOf; rw [if_pos h]
      have ew : wday a l x day = mx (grt x.f2 x.f3 day l).1.f1 x.f3 := by
        unfold wday
        rw [hgr]
        unfold gres
        rw [if_pos h, if_pos rfl]
      rw [er] at hg hi
      simp only [if_pos h]
      rw [hg, ew]
      exact Ev.bind (amount_ev hi ⟨by omega, x4.2⟩) (Ev.const _)
    · have er : rateOf (grt x.f2 x.f3 day l) = 0 := by unfold rateOf; rw [if_neg h]
      have ew : wday a l x day = x.f3 := by
        unfold wday
        rw [hgr]
        unfold gres
        rw [if_neg h, if_neg (by decide)]
      rw [er, amt_zero a x.f4 ha] at hg
      simp only [if_neg h]
      rw [hg, ew]
      exact Ev.const _
end
end Go.Proofs.Ythboaobgipodiaa.K
