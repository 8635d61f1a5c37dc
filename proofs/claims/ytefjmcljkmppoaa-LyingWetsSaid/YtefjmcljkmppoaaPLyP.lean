/- By hand: what lying's functions tell, in plain words. -/
import Derived.Test.YtefjmcljkmppoaaGBetw
import Derived.Test.YtefjmcljkmppoaaK2
import Derived.Test.YtefjmcljkmppoaaK7
import Derived.Test.YtefjmcljkmppoaaK8
import Derived.Test.YtefjmcljkmppoaaK9
namespace Go.Proofs.Ytefjmcljkmppoaa.K
open Go.RowKit Go.Proofs.YtefjmcljkmppoaaW.PrintWords
set_option linter.unusedVariables false
set_option linter.unusedSimpArgs false
theorem idx_l0 (l : List Int) (x : Int) (hl : l.length ≤ 100000) : ∀ (suf : List Int) (i : Nat), l.drop i = suf → ∃ r : Int, Ev (fun k => slices_Index_int_int.l0 k l x (l.length : Int) (i : Int)) r ∧ decide (r ≥ 0) = decide (x ∈ suf)
  | [], i, h => by
    have h4 := drop_end h
    exact ⟨-1, Ev.succ (Ev.const _) (fun k => by rw [slices_Index_int_int.l0, if_neg (by omega)]), by simp⟩
  | q :: suf, i, h => by
    obtain ⟨g1, g2, g3, _⟩ := drop_atI h
    obtain ⟨r, ih, hr⟩ := idx_l0 l x hl suf (i + 1) g3
    have p1 : (i : Int) < (l.length : Int) := by omega
    have p2 : (0 : Int) ≤ (i : Int) := by omega
    by_cases c : x = q
    · exact ⟨(i : Int), Ev.succ (Ev.const _) (fun k => by rw [slices_Index_int_int.l0, if_pos p1, if_pos p2, if_pos p1, g2, if_pos c]), by simp [c]⟩
    · refine ⟨r, Ev.succ ih (fun k => by rw [slices_Index_int_int.l0, if_pos p1, if_pos p2, if_pos p1, g2, if_neg c, wrap_up (by omega)]), ?_⟩
      rw [hr]
      simp [c]
theorem cont_ev (l : List Int) (x : Int) (hl : l.length ≤ 100000) : Ev (fun k => slices_Contains_int_int.f k l x) (decide (x ∈ l)) := by
  obtain ⟨r, h, hr⟩ := idx_l0 l x hl l 0 List.drop_zero
  unfold slices_Contains_int_int.f slices_Index_int_int.f
  rw [← hr]
  exact Ev.bind h (Ev.const _)
theorem eqI_l0 (a b : List Int) (hl : a.length ≤ 100000) (he : a.length = b.length) : ∀ (sa sb : List Int) (i : Nat), a.drop i = sa → b.drop i = sb → Ev (fun k => slices_Equal_int_int.l0 k a b (a.length : Int) (i : Int)) (decide (sa = sb))
  | [], sb, i, h, h' => by
    have h4 := drop_end h
    have : sb = [] := by rw [← h']; exact List.drop_eq_nil_of_le (by omega)
    subst this
    exact Ev.succ (Ev.const _) (fun k => by rw [slices_Equal_int_int.l0, if_neg (by omega)]; rfl)
  | q :: sa, [], i, h, h' => by
    obtain ⟨g1, g2, g3, _⟩ := drop_atI h
    have := drop_end h'
    omega
  | q :: sa, u :: sb, i, h, h' => by
    obtain ⟨g1, g2, g3, _⟩ := drop_atI h
    obtain ⟨f1, f2, f3, _⟩ := drop_atI h'
    have ih := eqI_l0 a b hl he sa sb (i + 1) g3 f3
    have p1 : (i : Int) < (a.length : Int) := by omega
    have p2 : (0 : Int) ≤ (i : Int) := by omega
    have p3 : (i : Int) < (b.length : Int) := by omega
    by_cases c : q = u
    · rw [show decide (q :: sa = u :: sb) = decide (sa = sb) by simp [c]]
      exact Ev.succ ih (fun k => by rw [slices_Equal_int_int.l0, if_pos p1, if_pos p2, if_pos p1, if_pos p3, g2, f2, if_pos c, wrap_up (by omega)])
    · exact Ev.succ (Ev.const _) (fun k => by rw [slices_Equal_int_int.l0, if_pos p1, if_pos p2, if_pos p1, if_pos p3, g2, f2, if_neg c]; simp [c])
theorem eqI_ev (a b : List Int) (hl : a.length ≤ 100000) : Ev (fun k => slices_Equal_int_int.f k a b) (decide (a = b)) := by
  unfold slices_Equal_int_int.f
  by_cases c : a.length = b.length
  · exact (eqI_l0 a b hl c a b 0 List.drop_zero List.drop_zero).congr (fun k => by rw [if_pos (by omega)]; rfl)
  · rw [decide_eq_false (fun e => c (by rw [e]))]
    exact (Ev.const false).congr (fun k => by rw [if_neg (by omega)])
theorem mul_nn2 (a b A B : Int) (ha : 0 ≤ a ∧ a ≤ A) (hb : 0 ≤ b ∧ b ≤ B) : 0 ≤ a * b ∧ a * b ≤ A * B :=
  ⟨Int.mul_nonneg ha.1 hb.1, Int.mul_le_mul ha.2 hb.2 hb.1 (by omega)⟩
def nmS (s : S39 × S39) (x : Int) : Int := s.1.f1 * (s.2.f0 - x) + s.2.f1 * (x - s.1.f0)
def htS (s : S39 × S39) : Int := s.2.f0 - s.1.f0
theorem nm_bd (s : S39 × S39) (h : len1 s) (x : Int) (h1 : s.1.f0 ≤ x) (h2 : x ≤ s.2.f0) : 1 ≤ htS s ∧ htS s ≤ 100000 ∧ 0 ≤ nmS s x ∧ nmS s x ≤ 100000 * htS s := by
  obtain ⟨⟨m1, m2, m3⟩, m4, m5⟩ := h
  have a1 := mul_nn2 s.1.f1 (s.2.f0 - x) 100000 (s.2.f0 - x) m4 ⟨by omega, by omega⟩
  have a2 := mul_nn2 s.2.f1 (x - s.1.f0) 100000 (x - s.1.f0) m5 ⟨by omega, by omega⟩
  unfold nmS htS
  omega
theorem flo_ce (n h : Int) (h1 : 1 ≤ h) (h0 : 0 ≤ n) (h2 : n ≤ 100000 * h) : 0 ≤ Int.tdiv n h ∧ Int.tdiv n h ≤ Int.tdiv (n + h - 1) h ∧ Int.tdiv (n + h - 1) h ≤ 100000 ∧ Int.tdiv n h * h ≤ n ∧ n ≤ Int.tdiv (n + h - 1) h * h ∧ n < (Int.tdiv n h + 1) * h ∧ (Int.tdiv (n + h - 1) h - 1) * h < n := by
  rw [Int.tdiv_eq_ediv_of_nonneg h0, Int.tdiv_eq_ediv_of_nonneg (show 0 ≤ n + h - 1 by omega)]
  have a1 := Int.mul_ediv_add_emod n h
  have a2 := Int.emod_nonneg n (show h ≠ 0 by omega)
  have a3 := Int.emod_lt_of_pos n (show 0 < h by omega)
  have b1 := Int.mul_ediv_add_emod (n + h - 1) h
  have b2 := Int.emod_nonneg (n + h - 1) (show h ≠ 0 by omega)
  have b3 := Int.emod_lt_of_pos (n + h - 1) (show 0 < h by omega)
  have c1 : 0 ≤ n / h := Int.ediv_nonneg h0 (by omega)
  have c2 : n / h ≤ (n + h - 1) / h := Int.ediv_le_ediv (by omega) (by omega)
  have c3 : (n + h - 1) / h ≤ 100000 := by
    have : (n + h - 1) / h < 100001 := Int.ediv_lt_of_lt_mul (by omega) (by omega)
    omega
  rw [Int.mul_comm] at a1 b1
  refine ⟨c1, c2, c3, by omega, by omega, ?_, ?_⟩
  · rw [Int.add_mul]; omega
  · rw [Int.sub_mul]; omega
theorem stv_eq (s : S39 × S39) (x : Int) : stv s x = (Int.tdiv (nmS s x) (htS s), Int.tdiv (nmS s x + htS s - 1) (htS s)) := rfl
theorem pairs_last : ∀ (l : List S39) (p q : S39), lastX (p :: q :: l) = lastX (q :: l) := by
  intro l p q
  unfold lastX
  rw [show (((p :: q :: l).length : Int) - 1) = (((q :: l).length : Nat) : Int) by simp, show (((q :: l).length : Int) - 1) = (((q :: l).length - 1 : Nat) : Int) by simp,
    rdP_get _ _ (by simp), rdP_get _ _ (by simp)]
  simp
theorem atP_find : ∀ (l : List S39) (p : S39) (x : Int), (∀ s ∈ pairs (p :: l), len1 s) → 1 ≤ l.length → p.f0 ≤ x → x ≤ lastX (p :: l) → ∃ s ∈ pairs (p :: l), s.1.f0 ≤ x ∧ x ≤ s.2.f0 ∧ atP x (pairs (p :: l)) = stv s x
  | [], p, x, _, h, _, _ => by simp at h
  | q :: r, p, x, hs, _, h1, h2 => by
    rw [pairs] at hs ⊢
    by_cases c : q.f0 < x
    · rw [atP, if_pos c]
      rw [pairs_last] at h2
      cases r with
      | nil =>
        have : lastX [q] = q.f0 := rfl
        omega
      | cons q2 r =>
        obtain ⟨s, m, e1, e2, e3⟩ := atP_find (q2 :: r) q x (fun s hm => hs s (List.mem_cons_of_mem _ hm)) (by simp) (by omega) h2
        exact ⟨s, List.mem_cons_of_mem _ m, e1, e2, e3⟩
    · rw [atP, if_neg c]
      exact ⟨(p, q), by simp, h1, by dsimp only; omega, rfl⟩
theorem prof_zero (l : List S39) (h : profC l = 0) : (rd_T39 l 0).f0 = 0 := by
  unfold profC at h
  split at h
  · exact absurd h (by decide)
  split at h
  · exact absurd h (by decide)
  split at h
  · exact absurd h (by decide)
  split at h
  · exact absurd h (by decide)
  rename_i h5
  exact Classical.not_not.1 h5
theorem at_find (l : List S39) (hp : profC l = 0) (x : Int) (h0 : 0 ≤ x) (h1 : x ≤ lastX l) : ∃ s ∈ pairs l, len1 s ∧ s.1.f0 ≤ x ∧ x ≤ s.2.f0 ∧ atP x (pairs l) = stv s x := by
  have hz := prof_zero l hp
  have hs := prof_len1 l hp
  have hl := prof_len l hp
  cases l with
  | nil => simp at hl
  | cons p r =>
    have e : (rd_T39 (p :: r) 0).f0 = p.f0 := rfl
    obtain ⟨s, m, e1, e2, e3⟩ := atP_find r p x hs (by simp at hl; omega) (by omega) h1
    exact ⟨s, m, hs s m, e1, e2, e3⟩
theorem at_bd (l : List S39) (hp : profC l = 0) (x : Int) (h0 : 0 ≤ x) (h1 : x ≤ lastX l) : 0 ≤ (atP x (pairs l)).1 ∧ (atP x (pairs l)).1 ≤ (atP x (pairs l)).2 ∧ (atP x (pairs l)).2 ≤ 100000 := by
  obtain ⟨s, m, hs, e1, e2, e3⟩ := at_find l hp x h0 h1
  obtain ⟨a1, a2, a3, a4⟩ := nm_bd s hs x e1 e2
  obtain ⟨b1, b2, b3, _⟩ := flo_ce (nmS s x) (htS s) a1 a3 a4
  rw [e3, stv_eq]
  exact ⟨b1, b2, b3⟩
theorem mn_min (a b : Int) : mn a b = min a b := by unfold mn; split <;> omega
theorem mx_max (a b : Int) : mx a b = max a b := by unfold mx; split <;> omega
theorem sq_bd (m : Int) (h0 : 0 ≤ m) (h1 : m ≤ 2147483648) : 0 ≤ m * m ∧ m * m ≤ 4611686018427387904 :=
  ⟨Int.mul_nonneg h0 h0, Int.le_trans (Int.mul_le_mul h1 h1 h0 (by decide)) (by decide)⟩
theorem div_test (n m : Int) (hn : 0 ≤ n ∧ n ≤ 4611686018427387904) (hm : 1 ≤ m) : m ≤ wrap64 (Int.tdiv n m) ↔ m * m ≤ n := by
  rw [Int.tdiv_eq_ediv_of_nonneg hn.1]
  have h1 : n / m ≤ n := Int.ediv_le_self m hn.1
  have h2 : 0 ≤ n / m := Int.ediv_nonneg hn.1 (by omega)
  rw [show wrap64 (n / m) = n / m by unfold wrap64; omega]
  exact Int.le_ediv_iff_mul_le (by omega)
theorem bis_spec (n : Int) (hn : 0 ≤ n ∧ n ≤ 4611686018427387904) : ∀ (k : Nat) (lo : Int), k ≤ 31 → 0 ≤ lo → lo + P2 k ≤ 2147483648 → lo * lo ≤ n → n < (lo + P2 k) * (lo + P2 k) →
    bis k n lo * bis k n lo ≤ n ∧ n < (bis k n lo + 1) * (bis k n lo + 1) ∧ lo ≤ bis k n lo ∧ bis k n lo < lo + P2 k
  | 0, lo, _, h0, h1, h2, h3 => ⟨h2, h3, Int.le_refl _, by show lo < lo + 1; omega⟩
  | k + 1, lo, hk, h0, h1, h2, h3 => by
    have hp := P2_pos k
    rw [P2_succ] at h1 h3 ⊢
    rw [bis]
    by_cases c : lo + P2 k ≤ wrap64 (Int.tdiv n (lo + P2 k))
    · rw [if_pos c]
      have h4 := (div_test n (lo + P2 k) hn (by omega)).1 c
      have := bis_spec n hn k (lo + P2 k) (by omega) (by omega) (by omega) h4 (by rw [show lo + P2 k + P2 k = lo + 2 * P2 k by omega]; exact h3)
      refine ⟨this.1, this.2.1, by omega, by omega⟩
    · rw [if_neg c]
      have h4 : ¬ (lo + P2 k) * (lo + P2 k) ≤ n := fun h => c ((div_test n (lo + P2 k) hn (by omega)).2 h)
      have := bis_spec n hn k lo (by omega) h0 (by omega) h2 (by omega)
      refine ⟨this.1, this.2.1, by omega, by omega⟩
def isq (n : Int) : Int := bis 31 n 0
theorem isq_spec (n : Int) (hn : 0 ≤ n ∧ n ≤ 1000000000000000000) : isq n * isq n ≤ n ∧ n < (isq n + 1) * (isq n + 1) ∧ 0 ≤ isq n ∧ isq n < 2147483648 := by
  have e : P2 31 = 2147483648 := by decide
  have h62 : (0 + 2147483648 : Int) * (0 + 2147483648) = 4611686018427387904 := by decide
  have := bis_spec n ⟨hn.1, by omega⟩ 31 0 (by decide) (by decide) (by decide) (by omega) (by rw [e, h62]; omega)
  unfold isq
  omega
def rtV (n : Int) : Int × Int := if isq n * isq n = n then (isq n, isq n) else (isq n, isq n + 1)
theorem isq_sq (n : Int) (hn : 0 ≤ n ∧ n ≤ 1000000000000000000) : 0 ≤ isq n * isq n ∧ isq n * isq n ≤ n := ⟨Int.mul_nonneg (isq_spec n hn).2.2.1 (isq_spec n hn).2.2.1, (isq_spec n hn).1⟩
theorem both_ev (n : Int) (hn : 0 ≤ n ∧ n ≤ 1000000000000000000) : root_both.f n = some (rtV n) := by
  have h := isq_spec n hn
  have h2 := isq_sq n hn
  unfold root_both.f of109.f rtV
  rw [Option.bind_some, show bis 31 n 0 = isq n from rfl, show wrap64 (isq n * isq n) = isq n * isq n by unfold wrap64; omega, show wrap64 (isq n + 1) = isq n + 1 by unfold wrap64; omega]
  split <;> rfl
theorem rtV_1 (n : Int) : (rtV n).1 = isq n := by unfold rtV; split <;> rfl
def chV (r y : Int) : Int × Int := if y > r ∨ -y > r then (0, 0) else (2 * (rtV (r * r - y * y)).1, 2 * (rtV (r * r - y * y)).2)
theorem rr_bd (r y : Int) (hr : 0 ≤ r ∧ r ≤ 100000) (hy : ¬ (y > r ∨ -y > r)) : 0 ≤ r * r - y * y ∧ r * r - y * y ≤ 10000000000 ∧ 0 ≤ y * y ∧ r * r ≤ 10000000000 := by
  have h1 : y * y ≤ r * r := by
    rw [← Int.natAbs_mul_self' y, ← Int.natAbs_mul_self' r]
    exact Int.mul_le_mul (by omega) (by omega) (by omega) (by omega)
  have h2 : r * r ≤ 100000 * 100000 := Int.mul_le_mul hr.2 hr.2 hr.1 (by decide)
  have h3 : 0 ≤ y * y := by rw [← Int.natAbs_mul_self' y]; exact Int.mul_nonneg (by omega) (by omega)
  omega
theorem rt_bd (r y : Int) (hr : 0 ≤ r ∧ r ≤ 100000) (hy : ¬ (y > r ∨ -y > r)) : 0 ≤ (rtV (r * r - y * y)).1 ∧ (rtV (r * r - y * y)).1 ≤ (rtV (r * r - y * y)).2 ∧ (rtV (r * r - y * y)).2 < 2147483649 := by
  have hb := rr_bd r y hr hy
  have h := isq_spec (r * r - y * y) ⟨hb.1, by omega⟩
  unfold rtV
  split <;> dsimp only <;> omega
theorem pchord_ev (r c a : Int) (hr : 0 ≤ r ∧ r ≤ 100000) (hc : 0 ≤ c ∧ c ≤ 200000) (ha : 0 ≤ a ∧ a ≤ 200000) : segment_circle_chord.f 1 r c a = some (chV r (a - c)) := by
  have w1 : wrap64 (a - c) = a - c := by unfold wrap64; omega
  have w2 : wrap64 (-(a - c)) = -(a - c) := by unfold wrap64; omega
  unfold segment_circle_chord.f chV
  rw [w1, w2]
  by_cases c1 : a - c > r
  · rw [if_pos c1, if_pos (.inl c1)]
  rw [if_neg c1]
  by_cases c2 : -(a - c) > r
  · rw [if_pos c2, if_pos (.inr c2)]
  rw [if_neg c2, if_neg (by omega)]
  have hy : ¬ (a - c > r ∨ -(a - c) > r) := by omega
  have hb := rr_bd r (a - c) hr hy
  have hrt := rt_bd r (a - c) hr hy
  have w3 : wrap64 (r * r) = r * r := by unfold wrap64; omega
  have w4 : wrap64 ((a - c) * (a - c)) = (a - c) * (a - c) := by unfold wrap64; omega
  have w5 : wrap64 (r * r - (a - c) * (a - c)) = r * r - (a - c) * (a - c) := by unfold wrap64; omega
  unfold root_Chord.f root_Half.f
  rw [if_neg (by omega), if_neg (by omega), if_neg (by omega), root_Half.j0, if_neg (by simp; omega), if_neg c1, w2, if_neg c2, w3, w4, w5, both_ev _ ⟨hb.1, by omega⟩]
  simp only [Option.bind_some]
  rw [show wrap64 (2 * (rtV (r * r - (a - c) * (a - c))).1) = 2 * (rtV (r * r - (a - c) * (a - c))).1 by unfold wrap64; omega, show wrap64 (2 * (rtV (r * r - (a - c) * (a - c))).2) = 2 * (rtV (r * r - (a - c) * (a - c))).2 by unfold wrap64; omega]
def lieC (a : ByteArray) (p : Int) (l : List S39) (d : Int) : Int := if caskC a p l d = 0 then (if p = 1 then 0 else 10) else 1
theorem lies_ev (a : ByteArray) (p : Int) (l : List S39) (d : Int) : Ev (fun k => lying_lies.f k a p l d) (lieC a p l d) := by
  unfold lying_lies.f lieC
  refine Ev.bind (cask_ev a p l d) ?_
  refine (Ev.const _).congr (fun k => ?_)
  split
  · split <;> rfl
  · rfl
theorem lie_spec {a : ByteArray} {p : Int} {l : List S39} {d : Int} (h : lieC a p l d = 0) : caskC a p l d = 0 ∧ p = 1 ∧ profC l = 0 := by
  unfold lieC at h
  split at h
  · rename_i c
    split at h
    · rename_i c2
      exact ⟨c, c2, caskC_prof c⟩
    · cases h
  · cases h
theorem rng_at {n i m : Nat} {suf : List Nat} (h : (List.range' 1 n).drop i = m :: suf) : i < n ∧ m = i + 1 ∧ (List.range' 1 n).drop (i + 1) = suf := by
  have hi : i < (List.range' 1 n).length := by
    apply Nat.lt_of_not_le
    intro hle
    rw [List.drop_eq_nil_of_le hle] at h
    cases h
  rw [List.drop_eq_getElem_cons hi] at h
  injection h with h1 h2
  rw [List.length_range'] at hi
  exact ⟨hi, by rw [← h1]; simp; omega, h2⟩
def stepX (p h m : Int) (i : Nat) : Int := wrap64 (p + wrap64 (Int.tdiv (wrap64 ((i : Int) * h)) m))
def putX (x : Int) (out : List Int) : List Int := if x > rd out ((out.length : Int) - 1) then out ++ [x] else out
def inS (p h m : Int) : List Nat → List Int → List Int
  | [], out => out
  | i :: is, out => inS p h m is (putX (stepX p h m i) out)
def ouS (m : Int) : List (S39 × S39) → List Int → List Int
  | [], out => out
  | x :: r, out => ouS m r (inS x.1.f0 (wrap64 (x.2.f0 - x.1.f0)) m (List.range' 1 m.toNat) out)
def slcL (l : List S39) (m : Int) : List Int := ouS m (pairs l) [0]
def finS (out : List Int) : List Int × Int := if out.length > 65 then ([], 15) else (out, 0)
def slcE (l : List S39) (m : Int) : List Int × Int := if profC l = 0 then (if m < 1 ∨ m > 64 then ([], 2) else finS (slcL l m)) else ([], 1)
theorem putX_len (x : Int) (out : List Int) : (putX x out).length ≤ out.length + 1 ∧ out.length ≤ (putX x out).length := by
  unfold putX
  split <;> simp
theorem putX_ne (x : Int) (out : List Int) (h : out ≠ []) : putX x out ≠ [] := by
  unfold putX
  split
  · simp
  · exact h
theorem inS_ne (p h m : Int) : ∀ (is : List Nat) (out : List Int), out ≠ [] → inS p h m is out ≠ []
  | [], out, h0 => h0
  | i :: is, out, h0 => inS_ne p h m is _ (putX_ne _ _ h0)
theorem strips_ev (m : Int) : lying_strips.f m = some (!decide (m < 1 ∨ m > 64)) := by
  unfold lying_strips.f
  by_cases c : m ≥ 1
  · rw [if_pos c]
    congr 1
    by_cases c2 : m ≤ 64
    · rw [decide_eq_true c2, decide_eq_false (by omega)]; rfl
    · rw [decide_eq_false c2, decide_eq_true (by omega)]; rfl
  · rw [if_neg c, decide_eq_true (by omega)]; rfl
theorem len_pos {out : List Int} (h : out ≠ []) : 1 ≤ out.length := List.length_pos_iff.2 h
theorem ps_l1 (l : List S39) (m : Int) (hm : 1 ≤ m ∧ m ≤ 64) (j p h : Int) (B : Nat) (hB : B ≤ 100000) (r : List Int → List Int × Int)
    (hn : ∀ out, out ≠ [] → out.length ≤ B → Ev (fun k => lying_Slices.l0 k l m out (wrap64 (j + 1))) (r out)) :
    ∀ (is : List Nat) (i : Nat) (out : List Int), (List.range' 1 m.toNat).drop i = is → out ≠ [] → out.length + is.length ≤ B → Ev (fun k => lying_Slices.l1 k l m out j p h ((i + 1 : Nat) : Int)) (r (inS p h m is out))
  | [], i, out, hd, h0, hb => by
    have h4 := drop_end hd
    rw [List.length_range'] at h4
    exact Ev.succ (hn out h0 (by simpa using hb)) (fun k => by rw [lying_Slices.l1, if_neg (by omega)])
  | n :: is, i, out, hd, h0, hb => by
    obtain ⟨h1, rfl, h3⟩ := rng_at hd
    rw [List.length_cons] at hb
    have hl := len_pos h0
    have e1 : wrap64 ((out.length : Int) - 1) = (out.length : Int) - 1 := by unfold wrap64; omega
    have hx : stepX p h m (i + 1) = wrap64 (p + wrap64 (Int.tdiv (wrap64 (((i + 1 : Nat) : Int) * h)) m)) := rfl
    rw [inS]
    have hpl := (putX_len (stepX p h m (i + 1)) out).1
    have ih := ps_l1 l m hm j p h B hB r hn is (i + 1) (putX (stepX p h m (i + 1)) out) h3 (putX_ne _ _ h0) (by omega)
    refine Ev.succ ih (fun k => ?_)
    rw [lying_Slices.l1, if_pos (by omega), if_neg (by omega), e1, if_pos (by omega), if_pos (by omega), wrap_up (by omega), ← hx]
    unfold putX
    by_cases c : stepX p h m (i + 1) > rd out ((out.length : Int) - 1)
    · rw [if_pos c, if_pos c, if_pos (by omega)]
    · rw [if_neg c, if_neg c]
theorem ps_l0 (l : List S39) (hl : l.length ≤ 32) (m : Int) (hm : 1 ≤ m ∧ m ≤ 64) : ∀ (suf : List S39) (i : Nat) (p : S39) (out : List Int), l.drop i = p :: suf → out ≠ [] → out.length + suf.length * 64 ≤ 50000 →
    Ev (fun k => lying_Slices.l0 k l m out ((i + 1 : Nat) : Int)) (finS (ouS m (pairs (p :: suf)) out))
  | [], i, p, out, h, h0, hb => by
    obtain ⟨h1, h2, h3⟩ := drop_atP h
    have h4 := drop_end h3
    refine Ev.succ (Ev.const _) (fun k => ?_)
    rw [lying_Slices.l0, if_neg (by omega)]
    show _ = some (finS out)
    unfold finS
    by_cases c : out.length > 65
    · rw [if_pos c, if_pos (by omega)]
    · rw [if_neg c, if_neg (by omega)]
  | q :: suf, i, p, out, h, h0, hb => by
    obtain ⟨h1, h2, h3⟩ := drop_atP h
    obtain ⟨g1, g2, g3⟩ := drop_atP h3
    rw [List.length_cons] at hb
    have e1 : wrap64 (((i + 1 : Nat) : Int) - 1) = (i : Int) := by rw [wrap_dn (by omega) (by omega)]; simp
    have e2 : wrap64 (((i + 1 : Nat) : Int) + 1) = ((i + 1 + 1 : Nat) : Int) := wrap_up (by omega)
    have hr : (List.range' 1 m.toNat).length = m.toNat := List.length_range'
    have ih := ps_l1 l m hm ((i + 1 : Nat) : Int) p.f0 (wrap64 (q.f0 - p.f0)) (out.length + 64) (by omega) (fun o => finS (ouS m (pairs (q :: suf)) o))
      (fun o ho hlo => by rw [e2]; exact ps_l0 l hl m hm suf (i + 1) q o h3 ho (by omega)) (List.range' 1 m.toNat) 0 out List.drop_zero h0 (by omega)
    rw [pairs, ouS]
    refine Ev.succ ih (fun k => ?_)
    rw [lying_Slices.l0, if_pos (by omega), e1, if_pos (by omega), if_pos (by omega), if_pos (by omega), g2, h2]
    rfl
theorem pslc_ev (l : List S39) (m : Int) : Ev (fun k => lying_Slices.f k l m) (slcE l m) := by
  unfold lying_Slices.f slcE check48.f
  simp only [Option.bind_some, strips_ev]
  by_cases c : profC l = 0
  · have hl := prof_len l c
    simp only [if_pos c]
    by_cases c2 : m < 1 ∨ m > 64
    · simp only [if_pos c2, decide_eq_true c2]
      exact Ev.const _
    · simp only [if_neg c2, decide_eq_false c2]
      obtain ⟨p, suf, hd⟩ : ∃ p suf, l.drop 0 = p :: suf := by
        cases l with
        | nil => simp at hl
        | cons p suf => exact ⟨p, suf, rfl⟩
      have hs : suf.length + 1 = l.length := by rw [List.drop_zero] at hd; rw [hd]; rfl
      have := ps_l0 l hl.2 m (by omega) suf 0 p [0] hd (by simp) (by simp; omega)
      rw [← hd, List.drop_zero] at this
      exact this.congr (fun k => by simp)
  · simp only [if_neg c]
    exact Ev.const _
def ascB : List Int → Bool
  | x :: y :: r => decide (x < y) && ascB (y :: r)
  | _ => true
def chkP (l : List S39) (v : List Int) : Int :=
  if ascB v = false then 5 else if rd v 0 ≠ 0 ∨ rd v ((v.length : Int) - 1) ≠ lastX l then 5 else if l.any (fun q => !decide (q.f0 ∈ v)) = true then 7 else 0
def lchC (a : ByteArray) (p : Int) (l : List S39) (d : Int) (v : List Int) : Int := if lieC a p l d = 0 then (if v.length < 2 then 9 else if v.length > 65 then 8 else chkP l v) else lieC a p l d
section
variable (a : ByteArray) (p : Int) (l : List S39) (d : Int) (v : List Int) (hl : l.length ≤ 1000) (hv : 2 ≤ v.length ∧ v.length ≤ 1000) (hp : profC l = 0)
include hl hv
theorem lc_l1 : ∀ (suf : List S39) (i : Nat), l.drop i = suf → Ev (fun k => lying_Check.l1 k v l (l.length : Int) (i : Int)) (if suf.any (fun q => !decide (q.f0 ∈ v)) = true then 7 else 0)
  | [], i, h => by
    have h4 := drop_end h
    exact Ev.succ (Ev.const _) (fun k => by rw [lying_Check.l1, if_neg (by omega)]; rfl)
  | q :: suf, i, h => by
    obtain ⟨h1, h2, h3⟩ := drop_atP h
    have ih := lc_l1 suf (i + 1) h3
    have hb : Ev (fun k => (slices_Contains_int_int.f k v q.f0).bind fun t => if t = true then lying_Check.l1 k v l (l.length : Int) (wrap64 ((i : Int) + 1)) else some 7) (if (q :: suf).any (fun q => !decide (q.f0 ∈ v)) = true then 7 else 0) := by
      refine Ev.bind (cont_ev v q.f0 (by omega)) ?_
      rw [List.any_cons]
      by_cases c : q.f0 ∈ v
      · simp only [decide_eq_true c, if_true, Bool.not_true, Bool.false_or, wrap_up (show i ≤ 1000000 by omega)]
        exact ih
      · simp only [decide_eq_false c, Bool.not_false, Bool.true_or, if_true]
        exact Ev.const _
    refine Ev.succ hb (fun k => ?_)
    rw [lying_Check.l1, if_pos (by omega), if_pos (by omega), if_pos (by omega), h2]
include hp
theorem lc_l0 : ∀ (suf : List Int) (i : Nat) (x : Int), v.drop i = x :: suf → Ev (fun k => lying_Check.l0 k v ((i + 1 : Nat) : Int) a p l d) (if ascB (x :: suf) = false then 5 else if rd v 0 ≠ 0 ∨ rd v ((v.length : Int) - 1) ≠ lastX l then 5 else if l.any (fun q => !decide (q.f0 ∈ v)) = true then 7 else 0)
  | [], i, x, h => by
    obtain ⟨g1, g2, g3, _⟩ := drop_atI h
    have h4 := drop_end g3
    have e1 : wrap64 ((v.length : Int) - 1) = (v.length : Int) - 1 := by unfold wrap64; omega
    have h1 := lc_l1 l v hl hv l 0 List.drop_zero
    have hj : ∀ b : Bool, Ev (fun k => lying_Check.j1 k v b a p l d) (if b = true then 5 else if l.any (fun q => !decide (q.f0 ∈ v)) = true then 7 else 0) := fun b => by
      cases b with
      | true => exact Ev.succ (Ev.const _) (fun k => by rw [lying_Check.j1, if_pos rfl, if_pos rfl])
      | false => exact Ev.succ h1 (fun k => by rw [lying_Check.j1, if_neg (by simp)]; rfl)
    rw [show ascB [x] = true from rfl, if_neg (by simp)]
    by_cases c : rd v 0 = 0
    · have := hj (rd v ((v.length : Int) - 1) != lastX l)
      rw [show (if rd v 0 ≠ 0 ∨ rd v ((v.length : Int) - 1) ≠ lastX l then (5 : Int) else if l.any (fun q => !decide (q.f0 ∈ v)) = true then 7 else 0) = if (rd v ((v.length : Int) - 1) != lastX l) = true then 5 else if l.any (fun q => !decide (q.f0 ∈ v)) = true then 7 else 0 by simp [c]]
      refine Ev.succ this (fun k => ?_)
      rw [lying_Check.l0, if_neg (by omega), Len_ev, if_pos hp, Option.bind_some, if_pos (by omega), if_pos c, e1, if_pos (by omega), if_pos (by omega)]
    · rw [if_pos (Or.inl c)]
      refine Ev.succ (hj true) (fun k => ?_)
      rw [lying_Check.l0, if_neg (by omega), Len_ev, if_pos hp, Option.bind_some, if_pos (by omega), if_neg c]
  | y :: suf, i, x, h => by
    obtain ⟨g1, g2, g3, _⟩ := drop_atI h
    obtain ⟨f1, f2, f3, _⟩ := drop_atI g3
    have ih := lc_l0 suf (i + 1) y g3
    have e1 : wrap64 (((i + 1 : Nat) : Int) - 1) = (i : Int) := by rw [wrap_dn (by omega) (by omega)]; simp
    have e2 : wrap64 (((i + 1 : Nat) : Int) + 1) = ((i + 1 + 1 : Nat) : Int) := wrap_up (by omega)
    rw [show ascB (x :: y :: suf) = (decide (x < y) && ascB (y :: suf)) from rfl]
    by_cases c : x < y
    · rw [decide_eq_true c, Bool.true_and]
      refine Ev.succ ih (fun k => ?_)
      rw [lying_Check.l0, if_pos (by omega), e1, if_pos (by omega), if_pos (by omega), if_pos (by omega), g2, f2, if_neg (by omega), e2]
    · rw [decide_eq_false c, Bool.false_and, if_pos rfl]
      refine Ev.succ (Ev.const _) (fun k => ?_)
      rw [lying_Check.l0, if_pos (by omega), e1, if_pos (by omega), if_pos (by omega), if_pos (by omega), g2, f2, if_pos (by omega)]
end
theorem drop0 {α : Type} {l : List α} (h : 1 ≤ l.length) : ∃ p suf, l.drop 0 = p :: suf := by
  cases l with
  | nil => simp at h
  | cons p suf => exact ⟨p, suf, rfl⟩
theorem lchk_ev (a : ByteArray) (p : Int) (l : List S39) (d : Int) (v : List Int) : Ev (fun k => lying_Check.f k a p l d v) (lchC a p l d v) := by
  unfold lying_Check.f lchC
  refine Ev.bind (lies_ev a p l d) ?_
  by_cases c : lieC a p l d = 0
  · obtain ⟨c1, c2, c3⟩ := lie_spec c
    have hl := prof_len l c3
    simp only [if_pos c]
    by_cases c4 : v.length < 2
    · simp only [if_pos c4, if_pos (show (v.length : Int) < 2 by omega)]
      exact Ev.const _
    · by_cases c5 : v.length > 65
      · simp only [if_neg c4, if_pos c5, if_neg (show ¬ (v.length : Int) < 2 by omega), if_pos (show (v.length : Int) > 65 by omega)]
        exact Ev.const _
      · simp only [if_neg c4, if_neg c5, if_neg (show ¬ (v.length : Int) < 2 by omega), if_neg (show ¬ (v.length : Int) > 65 by omega)]
        obtain ⟨x, suf, hd⟩ := drop0 (l := v) (by omega)
        have := lc_l0 a p l d v (by omega) (by omega) c3 suf 0 x hd
        rw [← hd, List.drop_zero] at this
        exact this
  · simp only [if_neg c]
    exact Ev.const _
theorem asc_bd : ∀ (v : List Int), ascB v = true → ∀ (i j : Nat), i ≤ j → j < v.length → rd v (i : Int) ≤ rd v (j : Int)
  | v, h, i, j, hij, hj => by
    have key : ∀ (v : List Int), ascB v = true → v.Pairwise (· < ·) := fun v => by
      intro h
      induction v with
      | nil => exact List.Pairwise.nil
      | cons x r ih =>
        cases r with
        | nil => simp
        | cons y r =>
          rw [ascB, Bool.and_eq_true, decide_eq_true_eq] at h
          have h2 := ih h.2
          refine List.Pairwise.cons (fun z hz => ?_) h2
          rcases List.mem_cons.1 hz with rfl | hz
          · exact h.1
          · exact Int.lt_trans h.1 ((List.pairwise_cons.1 h2).1 z hz)
    rw [rdG_get v i (by omega), rdG_get v j hj]
    rcases Nat.lt_or_ge i j with hlt | hge
    · exact Int.le_of_lt (List.pairwise_iff_getElem.1 (key v h) i j (by omega) hj hlt)
    · have : i = j := by omega
      subst this
      exact Int.le_refl _
theorem lch_spec {a : ByteArray} {p : Int} {l : List S39} {d : Int} {v : List Int} (h : lchC a p l d v = 0) : lieC a p l d = 0 ∧ (2 ≤ v.length ∧ v.length ≤ 65) ∧ ascB v = true ∧ (rd v 0 = 0 ∧ rd v ((v.length : Int) - 1) = lastX l) ∧ (∀ q ∈ l, q.f0 ∈ v) ∧ ∀ x ∈ v, 0 ≤ x ∧ x ≤ lastX l := by
  unfold lchC at h
  split at h
  · rename_i c
    split at h
    · cases h
    split at h
    · cases h
    unfold chkP at h
    split at h
    · cases h
    split at h
    · cases h
    split at h
    · cases h
    rename_i c1 c2 c3 c4 c5
    have hasc : ascB v = true := by simpa using c3
    have he : rd v 0 = 0 ∧ rd v ((v.length : Int) - 1) = lastX l := by
      constructor
      · exact Decidable.not_not.1 (fun e => c4 (.inl e))
      · exact Decidable.not_not.1 (fun e => c4 (.inr e))
    refine ⟨c, ⟨by omega, by omega⟩, hasc, he, fun q hq => ?_, fun x hx => ?_⟩
    · by_cases hm : q.f0 ∈ v
      · exact hm
      · exact absurd (List.any_eq_true.2 ⟨q, hq, by simp [hm]⟩) c5
    · obtain ⟨i, hi, rfl⟩ := List.mem_iff_getElem.1 hx
      have h1 := asc_bd v hasc 0 i (Nat.zero_le _) hi
      have h2 := asc_bd v hasc i (v.length - 1) (by omega) (by omega)
      rw [rdG_get v i hi] at h1 h2
      rw [show ((v.length - 1 : Nat) : Int) = (v.length : Int) - 1 by omega, he.2] at h2
      have h3 : rd v ((0 : Nat) : Int) = 0 := he.1
      rw [h3] at h1
      exact ⟨h1, h2⟩
  · rename_i c
    exact absurd h c
def bspE (a : ByteArray) (p : Int) (l : List S39) (d : Int) (v hs : List Int) : Int × Int × Int :=
  if lchC a p l d v = 0 then (if segC hs = 0 then ((betS l (bungR l) hs (pairsI v)).1, (betS l (bungR l) hs (pairsI v)).2, 0) else (0, 0, segC hs)) else (0, 0, lchC a p l d v)
theorem betw_ev (a : ByteArray) (p : Int) (l : List S39) (d : Int) (v hs : List Int) (h : lieC a p l d = 0) (hv : ∀ x ∈ v, 0 ≤ x ∧ x ≤ lastX l) (hl : v.length ≤ 65) : betw57.f a p l d v hs = some (betS l (bungR l) hs (pairsI v)) := by
  obtain ⟨h1, h2, h3⟩ := lie_spec h
  unfold betw57.f
  rw [if_pos ⟨h1, h2, hv, by omega⟩]
theorem pbet_ev (a : ByteArray) (p : Int) (l : List S39) (d : Int) (v hs : List Int) : Ev (fun k => lying_Between.f k a p l d v hs) (bspE a p l d v hs) := by
  unfold lying_Between.f bspE
  refine Ev.bind (lchk_ev a p l d v) ?_
  by_cases c : lchC a p l d v = 0
  · obtain ⟨c1, c2, _, _, _, c3⟩ := lch_spec c
    simp only [if_pos c, seg56.f, Option.bind_some]
    by_cases c4 : segC hs = 0
    · simp only [if_pos c4, betw_ev a p l d v hs c1 c3 c2.2, Option.bind_some]
      exact Ev.const _
    · simp only [if_neg c4]
      exact Ev.const _
  · simp only [if_neg c]
    exact Ev.const _
def strF (l : List S39) (v : List Int) (x : Int × Int) : S28 := ⟨(betS l (bungR l) [x.1, x.2] (pairsI v)).1, (betS l (bungR l) [x.1, x.2] (pairsI v)).2⟩
def strE (a : ByteArray) (p : Int) (l : List S39) (d : Int) (v hs : List Int) : List S28 × Int :=
  if (bspE a p l d v hs).2.2 = 0 then ((pairsI hs).map (strF l v), 0) else ([], (bspE a p l d v hs).2.2)
theorem bsp_spec {a : ByteArray} {p : Int} {l : List S39} {d : Int} {v hs : List Int} (h : (bspE a p l d v hs).2.2 = 0) : lchC a p l d v = 0 ∧ segC hs = 0 := by
  unfold bspE at h
  split at h
  · rename_i c
    split at h
    · rename_i c2
      exact ⟨c, c2⟩
    · rename_i c2
      exact absurd h c2
  · rename_i c
    exact absurd h c
theorem seg_len {hs : List Int} (h : segC hs = 0) : 2 ≤ hs.length ∧ hs.length ≤ 65 := by
  unfold segC at h
  split at h
  · cases h
  split at h
  · cases h
  omega
theorem str_l0 (a : ByteArray) (p : Int) (l : List S39) (d : Int) (v hs : List Int) (hbe : ∀ x y, betw57.f a p l d v [x, y] = some (betS l (bungR l) [x, y] (pairsI v))) (hh : hs.length ≤ 65) (suf : List Int) :
    ∀ (i : Nat) (x : Int) (out : List S28), hs.drop i = x :: suf → out.length ≤ i → Ev (fun k => lying_Strips.l0 k v hs out ((i + 1 : Nat) : Int) a p l d) (out ++ (pairsI (x :: suf)).map (strF l v), 0) := by
  induction suf with
  | nil =>
    intro i x out hd ho
    obtain ⟨g1, g2, g3, _⟩ := drop_atI hd
    have h4 := drop_end g3
    refine Ev.succ (Ev.const _) (fun k => ?_)
    rw [lying_Strips.l0, if_neg (by omega)]
    simp [pairsI]
  | cons y suf ih =>
    intro i x out hd ho
    obtain ⟨g1, g2, g3, _⟩ := drop_atI hd
    obtain ⟨f1, f2, f3, _⟩ := drop_atI g3
    have e1 : wrap64 (((i + 1 : Nat) : Int) - 1) = (i : Int) := by rw [wrap_dn (by omega) (by omega)]; simp
    have e2 : wrap64 (((i + 1 : Nat) : Int) + 1) = ((i + 1 + 1 : Nat) : Int) := wrap_up (by omega)
    have hc : (hs.take (i + 1 + 1)).drop i = [x, y] := by
      rw [List.drop_take, hd, show i + 1 + 1 - i = 2 by omega]
      rfl
    have ih := ih (i + 1) y (out ++ [strF l v (x, y)]) g3 (by simp; omega)
    rw [pairsI, List.map_cons]
    rw [List.append_assoc] at ih
    refine Ev.succ ih (fun k => ?_)
    rw [lying_Strips.l0, if_pos (by omega), e1, e2, if_pos (by omega), if_pos (by omega), if_pos (by omega)]
    simp only [Int.toNat_natCast, hc, hbe, Option.bind_some]
    rw [if_pos (by omega)]
    rfl
theorem pstr_ev (a : ByteArray) (p : Int) (l : List S39) (d : Int) (v hs : List Int) : Ev (fun k => lying_Strips.f k a p l d v hs) (strE a p l d v hs) := by
  unfold lying_Strips.f strE
  refine Ev.bind (pbet_ev a p l d v hs) ?_
  by_cases c : (bspE a p l d v hs).2.2 = 0
  · obtain ⟨c0, c4⟩ := bsp_spec c
    obtain ⟨c1, c2, _, _, _, c3⟩ := lch_spec c0
    simp only [if_pos c]
    have hh := seg_len c4
    obtain ⟨x, suf, hd⟩ := drop0 (l := hs) (by omega)
    have := str_l0 a p l d v hs (fun x y => betw_ev a p l d v [x, y] c1 c3 c2.2) hh.2 suf 0 x [] hd (Nat.le_refl _)
    rw [← hd, List.drop_zero] at this
    exact this
  · simp only [if_neg c]
    exact Ev.const _
theorem wrap_addl (a b : Int) : wrap64 (wrap64 a + b) = wrap64 (a + b) := by unfold wrap64; omega
theorem wrap_addr (a b : Int) : wrap64 (a + wrap64 b) = wrap64 (a + b) := by unfold wrap64; omega
theorem wrap_q (b : Int) : ∃ q, wrap64 b = b + 18446744073709551616 * q := by
  refine ⟨(wrap64 b - b) / 18446744073709551616, ?_⟩
  unfold wrap64
  omega
theorem wrap_per (a q : Int) : wrap64 (a + 18446744073709551616 * q) = wrap64 a := by unfold wrap64; omega
theorem wrap_mulr (a b : Int) : wrap64 (a * wrap64 b) = wrap64 (a * b) := by
  obtain ⟨q, hq⟩ := wrap_q b
  rw [hq, Int.mul_add, show a * (18446744073709551616 * q) = 18446744073709551616 * (a * q) by rw [← Int.mul_assoc, ← Int.mul_assoc, Int.mul_comm a]]
  exact wrap_per _ _
def isum {α : Type} (f : α → Int) : List α → Int
  | [] => 0
  | x :: r => f x + isum f r
theorem isum_congr {α : Type} {f g : α → Int} : ∀ {l : List α}, (∀ x ∈ l, f x = g x) → isum f l = isum g l
  | [], _ => rfl
  | x :: r, h => by rw [isum, isum, h x (List.mem_cons_self ..), isum_congr (fun y hy => h y (List.mem_cons_of_mem _ hy))]
theorem isum_wrap {α : Type} (f : α → Int) : ∀ (l : List α) (a : Int), wrap64 (a + isum (fun x => wrap64 (f x)) l) = wrap64 (a + isum f l)
  | [], _ => rfl
  | x :: r, a => by
    rw [isum, isum, show a + (wrap64 (f x) + isum (fun x => wrap64 (f x)) r) = (a + wrap64 (f x)) + isum (fun x => wrap64 (f x)) r by omega, isum_wrap f r, show a + wrap64 (f x) + isum f r = (a + isum f r) + wrap64 (f x) by omega, wrap_addr]
    congr 1
    omega
theorem isum_mul {α : Type} (c : Int) (f : α → Int) : ∀ (l : List α), c * isum f l = isum (fun x => c * f x) l
  | [] => by simp [isum]
  | x :: r => by rw [isum, isum, Int.mul_add, isum_mul c f r]
theorem isum_zero {α : Type} : ∀ (l : List α), isum (fun _ => 0) l = 0
  | [] => rfl
  | x :: r => by rw [isum, isum_zero r]; rfl
theorem isum_add {α : Type} (f g : α → Int) : ∀ (l : List α), isum (fun x => f x + g x) l = isum f l + isum g l
  | [] => rfl
  | x :: r => by rw [isum, isum, isum, isum_add f g r]; omega
theorem isum_swap {α β : Type} (F : α → β → Int) : ∀ (l : List α) (m : List β), isum (fun x => isum (F x) m) l = isum (fun y => isum (fun x => F x y) l) m
  | [], m => by rw [show (fun y => isum (fun x => F x y) ([] : List α)) = fun _ => 0 from rfl, isum_zero]; rfl
  | x :: r, m => by
    rw [isum, isum_swap F r m, ← isum_add]
    rfl
theorem fold_addW {α : Type} (g : α → Int × Int) : ∀ (l : List α) (a b : Int), l.foldl (fun s x => addW s (g x)) (wrap64 a, wrap64 b) = (wrap64 (a + isum (fun x => (g x).1) l), wrap64 (b + isum (fun x => (g x).2) l))
  | [], a, b => by simp [isum]
  | x :: r, a, b => by
    rw [List.foldl_cons, addW, wrap_addl, wrap_addl, fold_addW g r, isum, isum]
    congr 2 <;> omega
theorem w0 : wrap64 0 = 0 := by unfold wrap64; omega
theorem fold_addW0 {α : Type} (g : α → Int × Int) (l : List α) : l.foldl (fun s x => addW s (g x)) (0, 0) = (wrap64 (isum (fun x => (g x).1) l), wrap64 (isum (fun x => (g x).2) l)) := by
  have := fold_addW g l 0 0
  rw [w0, Int.zero_add, Int.zero_add] at this
  exact this
theorem area_val (r c : Int) (hs : List Int) (hr : 0 ≤ r ∧ r ≤ 100000) (hc : 0 ≤ c ∧ c ≤ 100000) (h : segC hs = 0) : areaV r c hs = (wrap64 (isum (fun x => (stV r c x).1) (pairsI hs)), wrap64 (isum (fun x => (stV r c x).2) (pairsI hs)), 0) := by
  have m1 : measP r = true := by unfold measP; rw [decide_eq_true hr.1, decide_eq_true hr.2]; rfl
  have m2 : measP c = true := by unfold measP; rw [decide_eq_true hc.1, decide_eq_true hc.2]; rfl
  unfold areaV areaS
  rw [if_pos m1, if_pos m2, if_pos h, fold_addW0]
def slOk (l : List S39) (v : List (Int × Int)) : Prop := ∀ x ∈ v, (0 ≤ (slV l x).2.1 ∧ (slV l x).2.1 ≤ 100000) ∧ (0 ≤ (slV l x).2.2 ∧ (slV l x).2.2 ≤ 100000)
theorem betS_val (l : List S39) (c : Int) (hs : List Int) (v : List (Int × Int)) (hv : slOk l v) (hc : 0 ≤ c ∧ c ≤ 100000) (h : segC hs = 0) :
    betS l c hs v = (wrap64 (isum (fun x => (slV l x).1 * isum (fun y => (stV (slV l x).2.1 c y).1) (pairsI hs)) v), wrap64 (isum (fun x => (slV l x).1 * isum (fun y => (stV (slV l x).2.2 c y).2) (pairsI hs)) v)) := by
  unfold betS
  rw [fold_addW0]
  have e1 : isum (fun x => (betT l c hs x).1) v = isum (fun x => wrap64 ((slV l x).1 * isum (fun y => (stV (slV l x).2.1 c y).1) (pairsI hs))) v := isum_congr fun x hx => by
    unfold betT
    rw [area_val _ c hs (hv x hx).1 hc h]
    exact wrap_mulr _ _
  have e2 : isum (fun x => (betT l c hs x).2) v = isum (fun x => wrap64 ((slV l x).1 * isum (fun y => (stV (slV l x).2.2 c y).2) (pairsI hs))) v := isum_congr fun x hx => by
    unfold betT
    rw [area_val _ c hs (hv x hx).2 hc h]
    exact wrap_mulr _ _
  rw [e1, e2]
  have w := fun (f : Int × Int → Int) => isum_wrap f v 0
  simp only [Int.zero_add] at w
  rw [w, w]
theorem atV_at (l : List S39) (hp : profC l = 0) (x : Int) (h0 : 0 ≤ x ∧ x ≤ lastX l) : atV l x = ((atP x (pairs l)).1, (atP x (pairs l)).2, 0) := by
  unfold atV
  rw [at_ev l x hp h0.1 h0.2]
  rfl
theorem pairsI_mem : ∀ (v : List Int) (x : Int × Int), x ∈ pairsI v → x.1 ∈ v ∧ x.2 ∈ v
  | p :: q :: r, x, h => by
    rw [pairsI] at h
    rcases List.mem_cons.1 h with rfl | h
    · exact ⟨List.mem_cons_self .., List.mem_cons_of_mem _ (List.mem_cons_self ..)⟩
    · have := pairsI_mem (q :: r) x h
      exact ⟨List.mem_cons_of_mem _ this.1, List.mem_cons_of_mem _ this.2⟩
  | [], x, h => by cases h
  | [_], x, h => by cases h
theorem sl_ok (l : List S39) (hp : profC l = 0) (v : List Int) (hv : ∀ x ∈ v, 0 ≤ x ∧ x ≤ lastX l) : slOk l (pairsI v) := fun x hx => by
  obtain ⟨m1, m2⟩ := pairsI_mem v x hx
  have h1 := at_bd l hp x.1 (hv _ m1).1 (hv _ m1).2
  have h2 := at_bd l hp x.2 (hv _ m2).1 (hv _ m2).2
  unfold slV
  rw [atV_at l hp x.1 (hv _ m1), atV_at l hp x.2 (hv _ m2)]
  dsimp only
  omega
end Go.Proofs.Ytefjmcljkmppoaa.K
