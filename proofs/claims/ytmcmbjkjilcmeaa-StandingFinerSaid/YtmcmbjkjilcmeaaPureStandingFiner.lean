/- By hand: the law StandingFiner in plain words. -/
import Derived.Test.YtmcmbjkjilcmeaaPFull
import Derived.Test.YtmcmbjkjilcmeaaSayStandingFiner
import Derived.Test.YtmcmbjkjilcmeaaK30
namespace Go.Proofs.Ytmcmbjkjilcmeaa.K
open Go.RowKit Go.Proofs.YtmcmbjkjilcmeaaW.PrintWords
set_option linter.unusedVariables false
set_option linter.unusedSimpArgs false
theorem lin_spF (a x y u v : Int) (h0 : 0 ≤ a) (h1 : a ≤ x) (e1 : 318 * u ≤ a * 333) (e2 : x * 355 + 338 < 339 * (v + 1)) : u ≤ v := by omega
theorem div_leF (n k : Int) (h : 0 < k) : k * (n / k) ≤ n ∧ n < k * (n / k + 1) := by
  have a1 := Int.mul_ediv_add_emod n k
  have a2 := Int.emod_nonneg n (show k ≠ 0 by omega)
  have a3 := Int.emod_lt_of_pos n h
  rw [Int.mul_add]
  omega
theorem sp_bdF (s : S40) (h0 : 0 ≤ s.f0) (h1 : s.f0 ≤ s.f1) (h2 : s.f1 ≤ 4000000000000000) : ¬ (spE s).1 > (spE s).2 ∧ ¬ wrap64 (318 * (spE s).1) > wrap64 (333 * s.f0) ∧ ¬ wrap64 (339 * (spE s).2) < wrap64 (355 * s.f1) ∧ 0 ≤ (spE s).1 := by
  unfold spE
  dsimp only
  rw [wrap_id2 (s.f0 * 333) (by omega), wrap_id2 (s.f1 * 355) (by omega), wrap_id2 (s.f1 * 355 + 338) (by omega), Int.tdiv_eq_ediv_of_nonneg (by omega), Int.tdiv_eq_ediv_of_nonneg (by omega)]
  have a1 := div_leF (s.f0 * 333) 318 (by decide)
  have a2 := div_leF (s.f1 * 355 + 338) 339 (by decide)
  have a3 : 0 ≤ s.f0 * 333 / 318 := Int.ediv_nonneg (by omega) (by decide)
  have a4 : 0 ≤ (s.f1 * 355 + 338) / 339 := Int.ediv_nonneg (by omega) (by decide)
  obtain ⟨u, hu⟩ : ∃ u, s.f0 * 333 / 318 = u := ⟨_, rfl⟩
  obtain ⟨v, hv⟩ : ∃ v, (s.f1 * 355 + 338) / 339 = v := ⟨_, rfl⟩
  rw [hu] at a1 a3 ⊢
  rw [hv] at a2 a4 ⊢
  clear hu hv
  have hlin := lin_spF s.f0 s.f1 0 u v h0 h1 a1.1 a2.2
  rw [wrap_id2 u (by omega), wrap_id2 v (by omega), wrap_id2 (318 * u) (by omega), wrap_id2 (333 * s.f0) (by omega), wrap_id2 (339 * v) (by omega), wrap_id2 (355 * s.f1) (by omega)]
  exact ⟨by omega, by omega, by omega, a3⟩
theorem less_ev (a b : Int) : cmp_Less_int.f a b = some (decide (a < b)) := by
  unfold cmp_Less_int.f cmp_isNaN_int.f
  simp
theorem half {i j : Nat} (h : i < j) (hj : j ≤ 1000) : wrap64 ((IntKind.u64.wrap (wrap64 ((i : Int) + (j : Int)))) / 2) = (((i + j) / 2 : Nat) : Int) := by
  have e1 : wrap64 ((i : Int) + (j : Int)) = ((i + j : Nat) : Int) := by unfold wrap64; omega
  have e2 : IntKind.u64.wrap ((i + j : Nat) : Int) = ((i + j : Nat) : Int) := by
    simp [IntKind.wrap, IntKind.signed, IntKind.bits]
    omega
  rw [e1, e2]
  unfold wrap64
  omega
theorem bs_l0 (lv : List Int) (m : Int) (hl : lv.length ≤ 1000) (hasc : ascI lv = true) : ∀ (d i j : Nat), j = i + d → j ≤ lv.length → (∀ t, t < i → rd lv (t : Int) < m) → (∀ t, j ≤ t → t < lv.length → m ≤ rd lv (t : Int)) →
    ∃ (p : Nat) (f : Bool), Ev (fun k => slices_BinarySearch_int_int.l0 k lv m (lv.length : Int) (i : Int) (j : Int)) ((p : Int), f) ∧ p ≤ lv.length ∧ (∀ t, t < p → rd lv (t : Int) < m) ∧ (∀ t, p ≤ t → t < lv.length → m ≤ rd lv (t : Int)) ∧ (f = false → p < lv.length → rd lv (p : Int) ≠ m) := by
  have hpw := asc_pw' lv hasc
  intro d
  induction d using Nat.strongRecOn with
  | ind d ih =>
    intro i j hd hj h1 h2
    by_cases c : i < j
    · obtain ⟨h, hh⟩ : ∃ h, (i + j) / 2 = h := ⟨_, rfl⟩
      have e := half c (by omega)
      rw [hh] at e
      have hlt : h < lv.length := by omega
      by_cases cl : rd lv (h : Int) < m
      · obtain ⟨p, f, q1, q2⟩ := ih (j - (h + 1)) (by omega) (h + 1) j (by omega) hj (fun t ht => by
          by_cases ct : t = h
          · subst ct; exact cl
          · have := List.pairwise_iff_getElem.1 hpw t h (by omega) hlt (by omega)
            rw [rdI_get _ h hlt] at cl
            rw [rdI_get _ t (by omega)]
            omega) h2
        refine ⟨p, f, Ev.succ q1 (fun k => ?_), q2⟩
        rw [slices_BinarySearch_int_int.l0, if_pos (by omega), e, if_pos (by omega), if_pos (by omega), less_ev, Option.bind_some, decide_eq_true cl, if_pos rfl, wrap_up (by omega)]
      · obtain ⟨p, f, q1, q2⟩ := ih (h - i) (by omega) i h (by omega) (by omega) h1 (fun t ht ht2 => by
          by_cases ct : t = h
          · subst ct; omega
          · have := List.pairwise_iff_getElem.1 hpw h t hlt ht2 (by omega)
            rw [rdI_get _ h hlt] at cl
            rw [rdI_get _ t ht2]
            omega)
        refine ⟨p, f, Ev.succ q1 (fun k => ?_), q2⟩
        rw [slices_BinarySearch_int_int.l0, if_pos (by omega), e, if_pos (by omega), if_pos (by omega), less_ev, Option.bind_some, decide_eq_false cl, if_neg (by simp)]
    · obtain rfl : j = i := by omega
      by_cases c2 : j < lv.length
      · by_cases c3 : rd lv (j : Int) = m
        · refine ⟨j, true, Ev.succ (Ev.const _) (fun k => ?_), hj, h1, h2, by simp⟩
          rw [slices_BinarySearch_int_int.l0, if_neg (by omega), if_pos (by omega), if_pos (by omega), if_pos (by omega), if_pos c3]
        · refine ⟨j, false, Ev.succ (Ev.const _) (fun k => ?_), hj, h1, h2, fun _ _ => c3⟩
          rw [slices_BinarySearch_int_int.l0, if_neg (by omega), if_pos (by omega), if_pos (by omega), if_pos (by omega), if_neg c3]
          simp [slices_isNaN_int.f]
      · refine ⟨j, false, Ev.succ (Ev.const _) (fun k => ?_), hj, h1, h2, fun _ h => absurd h c2⟩
        rw [slices_BinarySearch_int_int.l0, if_neg (by omega), if_neg (by omega)]
/-! A level between two others. -/
def tLo (l : List S33) (x y : Int) : Int := 3 * (y - x) * (loR l x y * loR l x y)
def tHi (l : List S33) (x y : Int) : Int := 3 * (y - x) * (hiR l x y * hiR l x y)
theorem sq_mono (d a b : Int) (hd : 0 ≤ d) (ha : 0 ≤ a) (h : a ≤ b) : 3 * d * (a * a) ≤ 3 * d * (b * b) := Int.mul_le_mul_of_nonneg_left (Int.mul_le_mul h h ha (by omega)) (by omega)
theorem fine (l : List S33) (hp : profC l = 0) (x m y : Int) (h0 : 0 ≤ x) (h1 : x < m) (h2 : m < y) (h3 : y ≤ lastX l) (hno : ∀ q ∈ l, x < q.f0 → y ≤ q.f0) :
    tLo l x y ≤ tLo l x m + tLo l m y ∧ tHi l x m + tHi l m y ≤ tHi l x y := by
  obtain ⟨s, hs, hl, e1, e2, e3⟩ := at_find l hp m (by omega) (by omega)
  obtain ⟨k1, k2⟩ := pairs_mem l s hs
  have p1 : s.1.f0 ≤ x := by
    apply Int.not_lt.1
    intro h
    have := hno _ k1 h
    omega
  have p2 : y ≤ s.2.f0 := hno _ k2 (by omega)
  obtain ⟨x1, x2⟩ := at_encl l hp s hs x p1 (by omega)
  obtain ⟨y1, y2⟩ := at_encl l hp s hs y (by omega) p2
  obtain ⟨n1, n2, n3, n4⟩ := nm_bd s hl m e1 e2
  obtain ⟨b1, b2, b3, b4, b5, b6, b7⟩ := flo_ce (nmS s m) (htS s) n1 n3 n4
  have hm : atP m (pairs l) = (Int.tdiv (nmS s m) (htS s), Int.tdiv (nmS s m + htS s - 1) (htS s)) := by rw [e3, stv_eq]
  have g1 := nm_lin s x m
  have g2 := nm_lin s m y
  obtain ⟨h, hh⟩ : ∃ h, htS s = h := ⟨_, rfl⟩
  obtain ⟨k, hk⟩ : ∃ k, s.2.f1 - s.1.f1 = k := ⟨_, rfl⟩
  obtain ⟨F, hF⟩ : ∃ F, Int.tdiv (nmS s m) (htS s) = F := ⟨_, rfl⟩
  obtain ⟨C, hC⟩ : ∃ C, Int.tdiv (nmS s m + htS s - 1) (htS s) = C := ⟨_, rfl⟩
  rw [hF] at b4 b6 hm
  rw [hC] at b5 b7 hm
  rw [hh] at x1 x2 y1 y2 n1 b4 b5 b6 b7
  rw [hk] at g1 g2
  have bx := at_bd l hp x h0 (by omega)
  have bm := at_bd l hp m (by omega) (by omega)
  have bY := at_bd l hp y (by omega) h3
  have sx := step_bd l hp x y h0 (by omega) h3
  have sm := step_bd l hp x m h0 h1 (by omega)
  have sy := step_bd l hp m y (by omega) h2 h3
  have hmin : min (nmS s x) (nmS s y) ≤ nmS s m ∧ nmS s m ≤ max (nmS s x) (nmS s y) := by
    by_cases ck : 0 ≤ k
    · have a1 := Int.mul_nonneg ck (show 0 ≤ m - x by omega)
      have a2 := Int.mul_nonneg ck (show 0 ≤ y - m by omega)
      omega
    · have a1 := Int.mul_nonneg (show 0 ≤ -k by omega) (show 0 ≤ m - x by omega)
      have a2 := Int.mul_nonneg (show 0 ≤ -k by omega) (show 0 ≤ y - m by omega)
      rw [Int.neg_mul] at a1 a2
      omega
  have q1 : loR l x y * h ≤ nmS s m := by
    have r1 : loR l x y * h ≤ nmS s x := Int.le_trans (Int.mul_le_mul_of_nonneg_right (Int.min_le_left _ _) (by omega)) x1
    have r2 : loR l x y * h ≤ nmS s y := Int.le_trans (Int.mul_le_mul_of_nonneg_right (Int.min_le_right _ _) (by omega)) y1
    omega
  have q2 : nmS s m ≤ hiR l x y * h := by
    have r1 : nmS s x ≤ hiR l x y * h := Int.le_trans x2 (Int.mul_le_mul_of_nonneg_right (Int.le_max_left _ _) (by omega))
    have r2 : nmS s y ≤ hiR l x y * h := Int.le_trans y2 (Int.mul_le_mul_of_nonneg_right (Int.le_max_right _ _) (by omega))
    omega
  have v1 : loR l x y ≤ F := by
    have := Int.lt_of_mul_lt_mul_right (Int.lt_of_le_of_lt q1 b6) (by omega)
    omega
  have v2 : C ≤ hiR l x y := by
    have := Int.lt_of_mul_lt_mul_right (Int.lt_of_lt_of_le b7 q2) (by omega)
    omega
  have mF : (atP m (pairs l)).1 = F := by rw [hm]
  have mC : (atP m (pairs l)).2 = C := by rw [hm]
  clear b1 b2 b3 b4 b5 b6 b7 g1 g2 q1 q2 hmin x1 x2 y1 y2 n1 n2 n3 n4 e1 e2 e3 hm hF hC hh hk hs hl k1 k2 p1 p2 hno
  have w1 : loR l x y ≤ loR l x m := by unfold loR at v1 ⊢; omega
  have w2 : loR l x y ≤ loR l m y := by unfold loR at v1 ⊢; omega
  have w3 : hiR l x m ≤ hiR l x y := by unfold hiR at v2 ⊢; omega
  have w4 : hiR l m y ≤ hiR l x y := by unfold hiR at v2 ⊢; omega
  have z1 := sq_mono (m - x) _ _ (by omega) sx.1.1 w1
  have z2 := sq_mono (y - m) _ _ (by omega) sx.1.1 w2
  have z3 := sq_mono (m - x) _ _ (by omega) (Int.le_trans sm.1.1 sm.1.2.1) w3
  have z4 := sq_mono (y - m) _ _ (by omega) (Int.le_trans sy.1.1 sy.1.2.1) w4
  have sp1 : ∀ q : Int, 3 * (y - x) * q = 3 * (m - x) * q + 3 * (y - m) * q := fun q => by grind
  unfold tLo tHi
  rw [sp1 (loR l x y * loR l x y), sp1 (hiR l x y * hiR l x y)]
  omega
def loN (l : List S33) (lv : List Int) : Nat → Int
  | 0 => 0
  | j + 1 => loN l lv j + tLo l (rd lv (j : Int)) (rd lv ((j + 1 : Nat) : Int))
def hiN (l : List S33) (lv : List Int) : Nat → Int
  | 0 => 0
  | j + 1 => hiN l lv j + tHi l (rd lv (j : Int)) (rd lv ((j + 1 : Nat) : Int))
theorem sB_N (l : List S33) (hp : profC l = 0) (lv : List Int) (hin : ∀ x ∈ lv, 0 ≤ x ∧ x ≤ lastX l) (hasc : ascI lv = true) : ∀ j : Nat, j < lv.length → (sB l lv j).f0 = loN l lv j ∧ (sB l lv j).f1 = hiN l lv j := by
  intro j
  induction j with
  | zero => intro _; exact ⟨rfl, rfl⟩
  | succ j ih =>
    intro hj
    obtain ⟨i1, i2⟩ := ih (by omega)
    obtain ⟨hs, _⟩ := sB_step l hp lv hin hasc j hj
    rw [hs, loN, hiN, ← i1, ← i2, show ((j + 1 : Nat) : Int) = (j : Int) + 1 by omega]
    exact ⟨rfl, rfl⟩
section
variable (lv : List Int) (p : Nat) (m : Int) (hpl : p < lv.length)
include hpl
theorem ins_lt (i : Nat) (h : i < p) : rd (insI lv p m) (i : Int) = rd lv (i : Int) := by
  have hl := insI_len lv p m (by omega)
  have := ins_get lv p m (by omega) i
  rw [if_pos h, List.getElem?_eq_getElem (by omega), List.getElem?_eq_getElem (by omega)] at this
  rw [rdI_get _ i (by omega), rdI_get _ i (by omega)]
  exact Option.some.inj this
theorem ins_at : rd (insI lv p m) (p : Int) = m := by
  have hl := insI_len lv p m (by omega)
  have := ins_get lv p m (by omega) p
  rw [if_neg (by omega), if_pos rfl, List.getElem?_eq_getElem (by omega)] at this
  rw [rdI_get _ p (by omega)]
  exact Option.some.inj this
theorem ins_gt (i : Nat) (h : p ≤ i) (hi : i < lv.length) : rd (insI lv p m) ((i + 1 : Nat) : Int) = rd lv (i : Int) := by
  have hl := insI_len lv p m (by omega)
  have := ins_get lv p m (by omega) (i + 1)
  rw [if_neg (by omega), if_neg (by omega), List.getElem?_eq_getElem (by omega), Nat.add_sub_cancel, List.getElem?_eq_getElem hi] at this
  rw [rdI_get _ (i + 1) (by omega), rdI_get _ i hi]
  exact Option.some.inj this
end
theorem ins_mem (lv : List Int) (p : Nat) (m x : Int) : x ∈ insI lv p m ↔ x = m ∨ x ∈ lv := by
  unfold insI
  rw [List.mem_append, List.mem_cons]
  constructor
  · rintro (h | h | h)
    · exact .inr (List.mem_of_mem_take h)
    · exact .inl h
    · exact .inr (List.mem_of_mem_drop h)
  · rintro (h | h)
    · exact .inr (.inl h)
    · have := (List.take_append_drop p lv).symm ▸ h
      rcases List.mem_append.1 this with g | g
      · exact .inl g
      · exact .inr (.inr g)
theorem fineN (l : List S33) (hp : profC l = 0) (lv : List Int) (hin : ∀ x ∈ lv, 0 ≤ x ∧ x ≤ lastX l) (hasc : ascI lv = true) (hmis : misP lv l = false) (p : Nat) (m : Int) (h1 : 1 ≤ p) (hpl : p < lv.length) (hlo : rd lv ((p - 1 : Nat) : Int) < m) (hhi : m < rd lv (p : Int)) :
    ∀ d : Nat, p + d < lv.length → loN l lv (p + d) ≤ loN l (insI lv p m) (p + d + 1) ∧ hiN l (insI lv p m) (p + d + 1) ≤ hiN l lv (p + d) := by
  have hpre : ∀ j : Nat, j < p → loN l (insI lv p m) j = loN l lv j ∧ hiN l (insI lv p m) j = hiN l lv j := by
    intro j
    induction j with
    | zero => intro _; exact ⟨rfl, rfl⟩
    | succ j ih =>
      intro hj
      obtain ⟨i1, i2⟩ := ih (by omega)
      rw [loN, loN, hiN, hiN, i1, i2, ins_lt lv p m hpl j (by omega), ins_lt lv p m hpl (j + 1) hj]
      exact ⟨rfl, rfl⟩
  obtain ⟨q, rfl⟩ : ∃ q, p = q + 1 := ⟨p - 1, by omega⟩
  rw [Nat.add_sub_cancel] at hlo
  have hge := lv_ge lv hasc q (by omega)
  have hx := hin _ (rd_mem lv (q : Int) (by omega) (by omega))
  have hy := hin _ (rd_mem lv ((q + 1 : Nat) : Int) (by omega) (by omega))
  have hno : ∀ z ∈ l, rd lv (q : Int) < z.f0 → rd lv ((q + 1 : Nat) : Int) ≤ z.f0 := fun z hz h => by
    have := no_pt l lv hasc hmis q hpl z hz hge h
    rwa [show (q : Int) + 1 = ((q + 1 : Nat) : Int) by omega] at this
  obtain ⟨f1, f2⟩ := fine l hp _ m _ hx.1 hlo hhi hy.2 hno
  intro d
  induction d with
  | zero =>
    intro hd
    obtain ⟨e1, e2⟩ := hpre q (by omega)
    rw [Nat.add_zero, loN, loN, loN, hiN, hiN, hiN, e1, e2, ins_lt lv (q + 1) m hpl q (by omega), ins_at lv (q + 1) m hpl, ins_gt lv (q + 1) m hpl (q + 1) (Nat.le_refl _) hpl]
    omega
  | succ d ih =>
    intro hd
    obtain ⟨i1, i2⟩ := ih (by omega)
    have u1 : loN l lv (q + 1 + (d + 1)) = loN l lv (q + 1 + d) + tLo l (rd lv ((q + 1 + d : Nat) : Int)) (rd lv ((q + 1 + d + 1 : Nat) : Int)) := rfl
    have u2 : hiN l lv (q + 1 + (d + 1)) = hiN l lv (q + 1 + d) + tHi l (rd lv ((q + 1 + d : Nat) : Int)) (rd lv ((q + 1 + d + 1 : Nat) : Int)) := rfl
    have u3 : loN l (insI lv (q + 1) m) (q + 1 + (d + 1) + 1) = loN l (insI lv (q + 1) m) (q + 1 + d + 1) + tLo l (rd (insI lv (q + 1) m) ((q + 1 + d + 1 : Nat) : Int)) (rd (insI lv (q + 1) m) ((q + 1 + d + 1 + 1 : Nat) : Int)) := rfl
    have u4 : hiN l (insI lv (q + 1) m) (q + 1 + (d + 1) + 1) = hiN l (insI lv (q + 1) m) (q + 1 + d + 1) + tHi l (rd (insI lv (q + 1) m) ((q + 1 + d + 1 : Nat) : Int)) (rd (insI lv (q + 1) m) ((q + 1 + d + 1 + 1 : Nat) : Int)) := rfl
    rw [ins_gt lv (q + 1) m hpl (q + 1 + d) (by omega) (by omega), ins_gt lv (q + 1) m hpl (q + 1 + d + 1) (by omega) (by omega)] at u3 u4
    rw [u1, u2, u3, u4]
    exact ⟨Int.add_le_add_right i1 _, Int.add_le_add_right i2 _⟩
theorem pw_ascF : ∀ (lv : List Int), (∀ i : Nat, i + 1 < lv.length → rd lv (i : Int) < rd lv ((i + 1 : Nat) : Int)) → ascI lv = true
  | [], _ => rfl
  | [a], _ => rfl
  | a :: b :: r, h => by
    have h0 := h 0 (by simp)
    have hr := pw_ascF (b :: r) (fun i hi => by
      have := h (i + 1) (by simpa using hi)
      rw [rdI_get _ (i + 1) (by simp at hi ⊢; omega), rdI_get _ (i + 1 + 1) (by simpa using hi)] at this
      rw [rdI_get _ i (by simp at hi ⊢; omega), rdI_get _ (i + 1) (by simpa using hi)]
      simpa using this)
    rw [ascI, hr, decide_eq_true (show a < b from h0)]
    rfl
theorem ins_chk (a : ByteArray) (c : Int) (l : List S33) (d : Int) (lv : List Int) (h : chkC a c l d lv = 0) (p : Nat) (m : Int) (h1 : 1 ≤ p) (hpl : p < lv.length) (hlo : rd lv ((p - 1 : Nat) : Int) < m) (hhi : m < rd lv (p : Int)) (hlen : lv.length < 128) : chkC a c l d (insI lv p m) = 0 := by
  obtain ⟨s1, s2, s3, s4, s5⟩ := chk_in h
  obtain ⟨hasc, hmis⟩ := chkL_asc s4
  have hl := insI_len lv p m (by omega)
  have hx := s5 _ (rd_mem lv ((p - 1 : Nat) : Int) (by omega) (by omega))
  have hy := s5 _ (rd_mem lv (p : Int) (by omega) (by omega))
  have o1 : outL (insI lv p m) (lastX l) = false := by
    rw [outL, List.any_eq_false]
    intro x hx'
    rcases (ins_mem lv p m x).1 hx' with e | g
    · subst e; simp; omega
    · have := s5 x g
      simp; omega
  have o2 : ascI (insI lv p m) = true := pw_ascF _ (fun i hi => by
    rw [hl] at hi
    by_cases c1 : i + 1 < p
    · rw [ins_lt lv p m hpl i (by omega), ins_lt lv p m hpl (i + 1) c1]
      have := asc_lt lv hasc i (by omega)
      rwa [show (i : Int) + 1 = ((i + 1 : Nat) : Int) by omega] at this
    · by_cases c2 : i + 1 = p
      · rw [ins_lt lv p m hpl i (by omega), c2, ins_at lv p m hpl]
        rwa [show i = p - 1 by omega]
      · by_cases c3 : i = p
        · rw [c3, ins_at lv p m hpl, ins_gt lv p m hpl p (Nat.le_refl _) hpl]
          exact hhi
        · obtain ⟨j, rfl⟩ : ∃ j, i = j + 1 := ⟨i - 1, by omega⟩
          rw [ins_gt lv p m hpl j (by omega) (by omega), ins_gt lv p m hpl (j + 1) (by omega) (by omega)]
          have := asc_lt lv hasc j (by omega)
          rwa [show (j : Int) + 1 = ((j + 1 : Nat) : Int) by omega] at this)
  have o3 : misP (insI lv p m) l = false := by
    rw [misP, List.any_eq_false] at hmis ⊢
    intro q hq
    have hq2 := hmis q hq
    have r0 : rd (insI lv p m) 0 = rd lv 0 := ins_lt lv p m hpl 0 (by omega)
    have r1 : rd (insI lv p m) (((insI lv p m).length : Int) - 1) = rd lv ((lv.length : Int) - 1) := by
      rw [hl, show ((lv.length + 1 : Nat) : Int) - 1 = ((lv.length - 1 + 1 : Nat) : Int) by omega, ins_gt lv p m hpl (lv.length - 1) (by omega) (by omega), show ((lv.length - 1 : Nat) : Int) = (lv.length : Int) - 1 by omega]
    rw [r0, r1]
    simp only [Bool.and_eq_true, decide_eq_true_eq, Bool.not_eq_true', decide_eq_false_iff_not, not_and, Classical.not_not] at hq2 ⊢
    intro g1 g2
    exact (ins_mem lv p m _).2 (.inr (hq2 g1 g2))
  unfold chkC chkL
  rw [if_pos s1, hl, if_neg (by omega), if_neg (by omega), if_neg (by rw [o1]; simp), if_neg (by rw [o2]; simp), if_neg (by rw [o3]; simp)]
theorem sp_mono (s t : S40) (h0 : 0 ≤ s.f0) (h1 : s.f0 ≤ t.f0) (h2 : t.f0 ≤ 4000000000000000) (g0 : 0 ≤ t.f1) (g1 : t.f1 ≤ s.f1) (g2 : s.f1 ≤ 4000000000000000) : (spE s).1 ≤ (spE t).1 ∧ (spE t).2 ≤ (spE s).2 := by
  unfold spE
  dsimp only
  rw [wrap_id2 (s.f0 * 333) (by omega), wrap_id2 (t.f0 * 333) (by omega), wrap_id2 (s.f1 * 355) (by omega), wrap_id2 (t.f1 * 355) (by omega), wrap_id2 (s.f1 * 355 + 338) (by omega), wrap_id2 (t.f1 * 355 + 338) (by omega)]
  rw [Int.tdiv_eq_ediv_of_nonneg (by omega), Int.tdiv_eq_ediv_of_nonneg (by omega), Int.tdiv_eq_ediv_of_nonneg (by omega), Int.tdiv_eq_ediv_of_nonneg (by omega)]
  have a1 := div_leF (s.f0 * 333) 318 (by decide)
  have a2 := div_leF (t.f0 * 333) 318 (by decide)
  have a3 := div_leF (s.f1 * 355 + 338) 339 (by decide)
  have a4 := div_leF (t.f1 * 355 + 338) 339 (by decide)
  have b1 : s.f0 * 333 / 318 ≤ t.f0 * 333 / 318 := Int.ediv_le_ediv (by decide) (by omega)
  have b2 : (t.f1 * 355 + 338) / 339 ≤ (s.f1 * 355 + 338) / 339 := Int.ediv_le_ediv (by decide) (by omega)
  have c1 : 0 ≤ s.f0 * 333 / 318 := Int.ediv_nonneg (by omega) (by decide)
  have c2 : 0 ≤ (t.f1 * 355 + 338) / 339 := Int.ediv_nonneg (by omega) (by decide)
  rw [wrap_id2 _ (by omega), wrap_id2 _ (by omega), wrap_id2 _ (by omega), wrap_id2 _ (by omega)]
  exact ⟨b1, b2⟩
theorem bs_ev (lv : List Int) (m : Int) (hl : lv.length ≤ 1000) (hasc : ascI lv = true) :
    ∃ (p : Nat) (f : Bool), Ev (fun k => slices_BinarySearch_int_int.f k lv m) ((p : Int), f) ∧ p ≤ lv.length ∧ (∀ t, t < p → rd lv (t : Int) < m) ∧ (∀ t, p ≤ t → t < lv.length → m ≤ rd lv (t : Int)) ∧ (f = false → p < lv.length → rd lv (p : Int) ≠ m) :=
  bs_l0 lv m hl hasc lv.length 0 lv.length (by omega) (Nat.le_refl _) (fun t h => absurd h (by omega)) (fun t h1 h2 => absurd h1 (by omega))
theorem sB_in (l : List S33) (hp : profC l = 0) (lv : List Int) (hin : ∀ x ∈ lv, 0 ≤ x ∧ x ≤ lastX l) (hasc : ascI lv = true) (h2 : 2 ≤ lv.length) : 0 ≤ (sB l lv (lv.length - 1)).f0 ∧ (sB l lv (lv.length - 1)).f0 ≤ (sB l lv (lv.length - 1)).f1 ∧ (sB l lv (lv.length - 1)).f1 ≤ 4000000000000000 := by
  obtain ⟨j, hj⟩ : ∃ j, lv.length - 1 = j + 1 := ⟨lv.length - 2, by omega⟩
  rw [hj]
  obtain ⟨hst, g1, g2, g3⟩ := sB_step l hp lv hin hasc j (by omega)
  have hx := hin _ (rd_mem lv (j : Int) (by omega) (by omega))
  have hy := hin _ (rd_mem lv ((j : Int) + 1) (by omega) (by omega))
  have hz := hin _ (rd_mem lv 0 (by omega) (by omega))
  have hlt := asc_lt lv hasc j (by omega)
  have d := last_bd l hp
  exact ⟨g1, g2, by omega⟩
theorem finer_in (a : ByteArray) (c : Int) (l : List S33) (d : Int) (lv : List Int) (m : Int) (p : Nat) (h : chkC a c l d lv = 0) (h1 : 1 ≤ p) (hpl : p < lv.length) (hlo : rd lv ((p - 1 : Nat) : Int) < m) (hhi : m < rd lv (p : Int)) (hlen : lv.length < 128) (hl : l.length ≤ 1000) :
    Ev (fun k => spilelaw12_StandingFiner.j1 k lv m (p : Int) false a c l d (spE (sB l lv (lv.length - 1))).1 (spE (sB l lv (lv.length - 1))).2) true := by
  have hI := ins_chk a c l d lv h p m h1 hpl hlo hhi hlen
  have hil := insI_len lv p m (by omega)
  obtain ⟨s1, s2, s3, s4, s5⟩ := chk_in h
  obtain ⟨t1, t2, t3, t4, t5⟩ := chk_in hI
  obtain ⟨hasc, hmis⟩ := chkL_asc s4
  obtain ⟨hasc', _⟩ := chkL_asc t4
  have hp := std_prof s1
  obtain ⟨b1, b2, b3⟩ := sB_in l hp lv s5 hasc s2
  obtain ⟨c1, c2, c3⟩ := sB_in l hp (insI lv p m) t5 hasc' t2
  have hf := fineN l hp lv s5 hasc hmis p m h1 hpl hlo hhi (lv.length - 1 - p) (by omega)
  rw [show p + (lv.length - 1 - p) = lv.length - 1 by omega] at hf
  obtain ⟨n1, n2⟩ := sB_N l hp lv s5 hasc (lv.length - 1) (by omega)
  obtain ⟨m1, m2⟩ := sB_N l hp (insI lv p m) t5 hasc' (lv.length - 1 + 1) (by omega)
  rw [← n1, ← n2, ← m1, ← m2] at hf
  rw [show (insI lv p m).length - 1 = lv.length - 1 + 1 by omega] at c1 c2 c3
  have hb := sbet_ev a c l d (insI lv p m)
  unfold betE at hb
  rw [if_pos hI, show (insI lv p m).length - 1 = lv.length - 1 + 1 by omega] at hb
  have hins : insert31.f lv (p : Int) [m] = some (insI lv p m) := by
    unfold insert31.f
    dsimp only
    rw [if_pos (by omega), Int.toNat_natCast]
  have q4 : lv.length ≤ 1000000 := by omega
  have q5 : l.length ≤ 1000000 := by omega
  clear h hI s1 s2 s3 s4 s5 t1 t2 t3 t4 t5 hmis hasc hasc' hp n1 n2 m1 m2
  obtain ⟨s, hs⟩ : ∃ s, sB l lv (lv.length - 1) = s := ⟨_, rfl⟩
  obtain ⟨t, ht⟩ : ∃ t, sB l (insI lv p m) (lv.length - 1 + 1) = t := ⟨_, rfl⟩
  rw [hs] at hf b1 b2 b3 ⊢
  rw [ht] at hf c1 c2 c3 hb
  obtain ⟨e1, e2⟩ := sp_mono s t b1 hf.1 (by omega) (by omega) hf.2 b3
  obtain ⟨u1, _⟩ := sp_bdF t c1 c2 c3
  refine Ev.succ (g' := fun k => (spilelaw12_own.f k a c l d).bind fun bt662 => ((standing_Between.f k bt662.1 bt662.2.1 bt662.2.2.1 bt662.2.2.2 (insI lv p m)).bind fun bt677 => (if bt677.2.2 = 0 then (if (spE s).1 ≤ bt677.1 then (if bt677.1 ≤ bt677.2.1 then (some (decide (bt677.2.1 ≤ (spE s).2))) else (none)) else (none)) else (none)))) ?_ (fun k => ?_)
  · refine Ev.bind (own_ev a c l d q5) ?_
    refine Ev.bind hb ?_
    simp only [if_true, if_pos e1, if_pos (Int.not_lt.1 u1), decide_eq_true e2]
    exact Ev.const _
  · rw [spilelaw12_StandingFiner.j1, if_neg (by simp)]
    congr 1
    funext bt
    rw [cloneI_ev _ q4, Option.bind_some, hins, Option.bind_some]
theorem finer_pure (a : ByteArray) (c : Int) (l : List S33) (d : Int) (lv : List Int) (m : Int) : ∃ k, spilelaw12_StandingFiner.f k a c l d lv m = some true := by
  refine Ev.one ?_
  unfold spilelaw12_StandingFiner.f
  refine Ev.bind awake_ev ?_
  simp only [if_true]
  refine Ev.bind (few_ev a c l d lv) ?_
  cases hf : fewP a l lv with
  | false => exact (Ev.const true).congr (fun k => by rw [if_neg (by simp)])
  | true =>
    obtain ⟨f1, f2, f3⟩ := few_spec hf
    simp only [if_true, cloneI_ev lv (by omega), Option.bind_some]
    refine Ev.bind (own_ev a c l d (by omega)) ?_
    refine Ev.bind (sbet_ev a c l d lv) ?_
    unfold betE
    by_cases h : chkC a c l d lv = 0
    · obtain ⟨h1, h2, h3, h4, h5⟩ := chk_in h
      obtain ⟨hasc, hmis⟩ := chkL_asc h4
      simp only [if_pos h, if_true]
      obtain ⟨p, f, g1, g2, g3, g4, g5⟩ := bs_ev lv m (by omega) hasc
      rw [decide_eq_false (show ¬ (lv.length : Int) < 2 by omega)]
      have ht : Ev (fun k => spilelaw12_StandingFiner.j1 k lv m (p : Int) true a c l d (spE (sB l lv (lv.length - 1))).1 (spE (sB l lv (lv.length - 1))).2) true := Ev.succ (Ev.const _) (fun k => by rw [spilelaw12_StandingFiner.j1, if_pos rfl])
      have e1 : wrap64 ((lv.length : Int) - 1) = ((lv.length - 1 : Nat) : Int) := wrap_dn (by omega) (by omega)
      refine Ev.succ (g' := fun k => (slices_BinarySearch_int_int.f k lv m).bind fun bt658 => (if bt658.2 = true then (spilelaw12_StandingFiner.j1 k lv m bt658.1 true a c l d (spE (sB l lv (lv.length - 1))).1 (spE (sB l lv (lv.length - 1))).2) else (if m < (rd lv 0) then (spilelaw12_StandingFiner.j1 k lv m bt658.1 true a c l d (spE (sB l lv (lv.length - 1))).1 (spE (sB l lv (lv.length - 1))).2) else (if m > (rd lv ((lv.length - 1 : Nat) : Int)) then (spilelaw12_StandingFiner.j1 k lv m bt658.1 true a c l d (spE (sB l lv (lv.length - 1))).1 (spE (sB l lv (lv.length - 1))).2) else (spilelaw12_StandingFiner.j1 k lv m bt658.1 (decide ((lv.length : Int) ≥ 128)) a c l d (spE (sB l lv (lv.length - 1))).1 (spE (sB l lv (lv.length - 1))).2))))) ?_ (fun k => ?_)
      · refine Ev.bind g1 ?_
        cases f with
        | true => simp only [if_true]; exact ht
        | false =>
          by_cases c1 : m < rd lv 0
          · simp only [Bool.false_eq_true, if_false, if_pos c1]; exact ht
          · by_cases c2 : m > rd lv ((lv.length - 1 : Nat) : Int)
            · simp only [Bool.false_eq_true, if_false, if_neg c1, if_pos c2]; exact ht
            · by_cases c3 : (lv.length : Int) ≥ 128
              · simp only [Bool.false_eq_true, if_false, if_neg c1, if_neg c2, decide_eq_true c3]; exact ht
              · simp only [Bool.false_eq_true, if_false, if_neg c1, if_neg c2, decide_eq_false c3]
                have p2 : p < lv.length := by
                  apply Nat.lt_of_not_le
                  intro hge
                  have := g3 (lv.length - 1) (by omega)
                  exact c2 this
                have p1 : 1 ≤ p := by
                  apply Nat.lt_of_not_le
                  intro hge
                  have hp0 : p = 0 := by omega
                  have := g5 rfl p2
                  have g40 := g4 0 (by omega) (by omega)
                  rw [hp0] at this
                  have e0 : rd lv ((0 : Nat) : Int) = rd lv 0 := rfl
                  rw [e0] at this g40
                  omega
                have q3 := g5 rfl p2
                have q4 := g4 p (Nat.le_refl _) p2
                exact finer_in a c l d lv m p h p1 p2 (g3 (p - 1) (by omega)) (by omega) (by omega) (by omega)
      · rw [spilelaw12_StandingFiner.j0, if_neg (by simp), e1]
        congr 1
        funext bt
        rw [if_pos (show 0 < (lv.length : Int) by omega), if_pos (show (0 : Int) ≤ ((lv.length - 1 : Nat) : Int) by omega), if_pos (show ((lv.length - 1 : Nat) : Int) < (lv.length : Int) by omega)]
    · simp only [if_neg h]
      refine Ev.succ (Ev.const true) (fun k => ?_)
      rw [spilelaw12_StandingFiner.j0, if_pos rfl, if_neg h]
      rfl
end Go.Proofs.Ytmcmbjkjilcmeaa.K
namespace Go.Proofs.Ytmcmbjkjilcmeaa.Pure
theorem StandingFiner : K.StandingFinerPure := fun x0 x1 x2 _ _ _ => K.finer_pure x0.f0 x0.f1 x0.f2 x0.f3 x1 x2
end Go.Proofs.Ytmcmbjkjilcmeaa.Pure
