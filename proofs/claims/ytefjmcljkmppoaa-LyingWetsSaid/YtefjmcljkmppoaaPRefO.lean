/- By hand: the reference's chords, strips and sums of lying casks, in plain words; the sums are the program's. -/
import Derived.Test.YtefjmcljkmppoaaPRefC
import Derived.Test.YtefjmcljkmppoaaK16
import Derived.Test.YtefjmcljkmppoaaK16
import Derived.Test.YtefjmcljkmppoaaK17
import Derived.Test.YtefjmcljkmppoaaK18
namespace Go.Proofs.Ytefjmcljkmppoaa.K
open Go.RowKit Go.Proofs.YtefjmcljkmppoaaW.PrintWords
set_option linter.unusedVariables false
set_option linter.unusedSimpArgs false
theorem num_eq (a b c d x : Int) : a * (d - c) + (b - a) * (x - c) = a * (d - x) + b * (x - c) := by
  simp only [Int.mul_sub, Int.sub_mul]
  omega
theorem rad_l0 (l : List S39) (hl : l.length ≤ 1000) (hp : profC l = 0) (x : Int) (h0 : 0 ≤ x ∧ x ≤ 100000) : ∀ (suf : List S39) (i : Nat) (p : S39), l.drop i = p :: suf →
    ∃ r : Int × Int, Ev (fun k => spileref08_radius.l0 k l x ((i + 1 : Nat) : Int)) r ∧ r.2 ≠ 0 ∧ (wrap64 (Int.tdiv r.1 r.2), wrap64 (Int.tdiv (wrap64 ((wrap64 (r.1 + r.2)) - 1)) r.2)) = atP x (pairs (p :: suf))
  | [], i, p, h => by
    obtain ⟨h1, h2, h3⟩ := drop_atP h
    have h4 := drop_end h3
    refine ⟨(0, 1), Ev.succ (Ev.const _) (fun k => by rw [spileref08_radius.l0, if_neg (by omega)]), by decide, ?_⟩
    simp only [show wrap64 (0 + 1) = 1 by unfold wrap64; omega, Int.tdiv_one]
    rw [show wrap64 0 = 0 by unfold wrap64; omega, show wrap64 (1 - 1) = 0 by unfold wrap64; omega, show wrap64 0 = 0 by unfold wrap64; omega]
    rfl
  | q :: suf, i, p, h => by
    obtain ⟨h1, h2, h3⟩ := drop_atP h
    obtain ⟨g1, g2, g3⟩ := drop_atP h3
    obtain ⟨r, ih, hr2, hr⟩ := rad_l0 l hl hp x h0 suf (i + 1) q h3
    have e1 : wrap64 (((i + 1 : Nat) : Int) - 1) = (i : Int) := by rw [wrap_dn (by omega) (by omega)]; simp
    have e2 : wrap64 (((i + 1 : Nat) : Int) + 1) = ((i + 1 + 1 : Nat) : Int) := wrap_up (by omega)
    have p1 : ((i + 1 : Nat) : Int) < (l.length : Int) := by omega
    have p2 : (0 : Int) ≤ ((i + 1 : Nat) : Int) := by omega
    have p3 : (0 : Int) ≤ (i : Int) := by omega
    have p4 : (i : Int) < (l.length : Int) := by omega
    have hm : (p, q) ∈ pairs l := by
      have := pairs_get l i (by omega)
      rw [← rdP_get l i (by omega), ← rdP_get l (i + 1) (by omega), h2, g2] at this
      exact List.mem_of_getElem? this
    obtain ⟨⟨m1, m2, m3⟩, m4, m5⟩ := prof_len1 l hp (p, q) hm
    dsimp only at m1 m2 m3 m4 m5
    by_cases c : x ≤ q.f0
    · have a1 := mul_bd p.f1 (q.f0 - p.f0) m4 ⟨by omega, by omega⟩
      have b1 : -10000000000 ≤ (q.f1 - p.f1) * (x - p.f0) ∧ (q.f1 - p.f1) * (x - p.f0) ≤ 10000000000 ∨ True := .inr trivial
      have a2 := mul_bd q.f1 (x - p.f0) m5 ⟨by omega, by omega⟩
      have a3 := mul_bd p.f1 (x - p.f0) m4 ⟨by omega, by omega⟩
      have a4 := mul_bd p.f1 (q.f0 - x) m4 ⟨by omega, by omega⟩
      have s1 : (q.f1 - p.f1) * (x - p.f0) = q.f1 * (x - p.f0) - p.f1 * (x - p.f0) := Int.sub_mul _ _ _
      have hn := num_eq p.f1 q.f1 p.f0 q.f0 x
      have w1 : wrap64 (q.f0 - p.f0) = q.f0 - p.f0 := wrap_id _ (by omega)
      have w2 : wrap64 (p.f1 * (q.f0 - p.f0)) = p.f1 * (q.f0 - p.f0) := wrap_id _ (by omega)
      have w3 : wrap64 (q.f1 - p.f1) = q.f1 - p.f1 := wrap_id _ (by omega)
      have w4 : wrap64 (x - p.f0) = x - p.f0 := wrap_id _ (by omega)
      have w5 : wrap64 ((q.f1 - p.f1) * (x - p.f0)) = (q.f1 - p.f1) * (x - p.f0) := wrap_id _ (by omega)
      have w6 : wrap64 (p.f1 * (q.f0 - p.f0) + (q.f1 - p.f1) * (x - p.f0)) = p.f1 * (q.f0 - x) + q.f1 * (x - p.f0) := by rw [hn]; exact wrap_id _ (by omega)
      refine ⟨(p.f1 * (q.f0 - x) + q.f1 * (x - p.f0), q.f0 - p.f0), Ev.succ (Ev.const _) (fun k => ?_), by dsimp only; omega, ?_⟩
      · rw [spileref08_radius.l0, if_pos p1, e1, if_pos p3, if_pos p4, if_pos p2, g2, h2, if_pos c, w1, w2, w3, w4, w5, w6]
      · rw [pairs, atP, if_neg (by dsimp only; omega)]
        dsimp only
        rw [wrap_id (p.f1 * (q.f0 - x) + q.f1 * (x - p.f0) + (q.f0 - p.f0)) (by omega), wrap_id (p.f1 * (q.f0 - x) + q.f1 * (x - p.f0) + (q.f0 - p.f0) - 1) (by omega), wrap_tdiv _ _ (by omega), wrap_tdiv _ _ (by omega)]
        rfl
    · refine ⟨r, Ev.succ ih (fun k => by rw [spileref08_radius.l0, if_pos p1, e1, if_pos p3, if_pos p4, if_pos p2, g2, if_neg c, e2]), hr2, ?_⟩
      rw [hr, pairs, atP, if_pos (by dsimp only; omega)]
theorem rad_ev (l : List S39) (hp : profC l = 0) (x : Int) (h0 : 0 ≤ x ∧ x ≤ 100000) : Ev (fun k => spileref08_Radius.f k l x) (atP x (pairs l)) := by
  have hl := prof_len l hp
  obtain ⟨p, suf, hd⟩ : ∃ p suf, l.drop 0 = p :: suf := by
    cases l with
    | nil => simp at hl
    | cons p suf => exact ⟨p, suf, rfl⟩
  obtain ⟨r, h1, h2, h3⟩ := rad_l0 l (by omega) hp x h0 suf 0 p hd
  rw [← hd, List.drop_zero] at h3
  unfold spileref08_Radius.f spileref08_radius.f
  refine Ev.bind h1 ?_
  rw [← h3]
  exact (Ev.const _).congr (fun k => by rw [if_neg h2])
theorem floor_l0 (n : Int) (hn : 0 ≤ n ∧ n ≤ 4611686018427387904) : ∀ (j : Nat) (lo : Int), j ≤ 30 → 0 ≤ lo → lo + P2 (j + 1) ≤ 2147483648 → Ev (fun k => spileref06_Floor.l0 k n lo (P2 j)) (bis (j + 1) n lo)
  | j, lo, hj, h0, h1 => by
    have hp := P2_pos j
    rw [P2_succ] at h1
    have hs := sq_bd (lo + P2 j) (by omega) (by omega)
    have w1 : wrap64 (lo + P2 j) = lo + P2 j := by unfold wrap64; omega
    have w2 : wrap64 ((lo + P2 j) * (lo + P2 j)) = (lo + P2 j) * (lo + P2 j) := by unfold wrap64; omega
    have hd := div_test n (lo + P2 j) hn (by omega)
    have tail : ∀ lo' : Int, 0 ≤ lo' → lo' + P2 j ≤ 2147483648 → Ev (fun k => spileref06_Floor.l0 k n lo' (wrap64 (Int.tdiv (P2 j) 2))) (bis j n lo') := fun lo' g0 g1 => by
      match j, hj with
      | 0, _ =>
        rw [show wrap64 (Int.tdiv (P2 0) 2) = 0 by rw [show P2 0 = 1 from rfl, show Int.tdiv 1 2 = 0 from rfl]; unfold wrap64; omega]
        exact Ev.succ (Ev.const _) (fun k => by rw [spileref06_Floor.l0, if_neg (by decide)]; rfl)
      | j + 1, hj =>
        have hp' := P2_pos j
        have e : wrap64 (Int.tdiv (P2 (j + 1)) 2) = P2 j := by
          rw [P2_succ] at g1 ⊢
          rw [Int.mul_tdiv_cancel_left _ (by decide)]
          unfold wrap64
          omega
        rw [e]
        exact floor_l0 n hn j lo' (by omega) g0 g1
    rw [bis]
    by_cases c : lo + P2 j ≤ wrap64 (Int.tdiv n (lo + P2 j))
    · rw [if_pos c]
      refine Ev.succ (tail (lo + P2 j) (by omega) (by omega)) (fun k => ?_)
      rw [spileref06_Floor.l0, if_pos (by omega), w1, w2, if_pos (hd.1 c)]
    · rw [if_neg c]
      refine Ev.succ (tail lo h0 (by omega)) (fun k => ?_)
      rw [spileref06_Floor.l0, if_pos (by omega), w1, w2, if_neg (fun h => c (hd.2 h))]
theorem floor_ev (n : Int) (hn : 0 ≤ n ∧ n ≤ 4611686018427387904) : Ev (fun k => spileref06_Floor.f k n) (isq n) := by
  have := floor_l0 n hn 30 0 (by decide) (by decide) (by decide)
  exact this
theorem ceil_ev (n : Int) (hn : 0 ≤ n ∧ n ≤ 1000000000000000000) : Ev (fun k => spileref06_Ceiling.f k n) (rtV n).2 := by
  have h := isq_spec n hn
  have h2 := isq_sq n hn
  unfold spileref06_Ceiling.f
  refine Ev.bind (floor_ev n ⟨hn.1, by omega⟩) ?_
  refine (Ev.const _).congr (fun k => ?_)
  rw [show wrap64 (isq n * isq n) = isq n * isq n by unfold wrap64; omega, show wrap64 (isq n + 1) = isq n + 1 by unfold wrap64; omega]
  unfold rtV
  by_cases c : isq n * isq n = n
  · rw [if_pos c, if_neg (by omega)]
  · rw [if_neg c, if_pos (by omega)]
theorem rchord_ev (r c a : Int) (hr : 0 ≤ r ∧ r ≤ 100000) (hc : 0 ≤ c ∧ c ≤ 200000) (ha : 0 ≤ a ∧ a ≤ 200000) : Ev (fun k => spileref07_chord.f k r c a) (chV r (a - c)) := by
  have w1 : wrap64 (a - c) = a - c := by unfold wrap64; omega
  have w2 : wrap64 (-r) = -r := by unfold wrap64; omega
  unfold spileref07_chord.f
  rw [w1]
  by_cases hy : a - c > r ∨ -(a - c) > r
  · have h0 : Ev (fun k => spileref06_Bounds.f k r (a - c)) ((0, 0) : Int × Int) := by
      refine Ev.succ (Ev.const _) (fun k => ?_)
      unfold spileref06_Bounds.f
      by_cases c1 : a - c > r
      · rw [if_pos c1, spileref06_Bounds.j0, if_pos rfl]
      · rw [if_neg c1, w2, decide_eq_true (by omega), spileref06_Bounds.j0, if_pos rfl]
    refine Ev.bind h0 ?_
    unfold chV
    rw [if_pos hy]
    exact (Ev.const _).congr (fun k => by rw [show wrap64 (2 * ((0, 0) : Int × Int).1) = 0 by unfold wrap64; omega])
  · have hb := rr_bd r (a - c) hr hy
    have hrt := rt_bd r (a - c) hr hy
    have w3 : wrap64 (r * r) = r * r := by unfold wrap64; omega
    have w4 : wrap64 ((a - c) * (a - c)) = (a - c) * (a - c) := by unfold wrap64; omega
    have w5 : wrap64 (r * r - (a - c) * (a - c)) = r * r - (a - c) * (a - c) := by unfold wrap64; omega
    have h0 : Ev (fun k => spileref06_Bounds.f k r (a - c)) (rtV (r * r - (a - c) * (a - c))) := by
      have h1 : Ev (fun k => (spileref06_Floor.f k (r * r - (a - c) * (a - c))).bind fun t405 => ((spileref06_Ceiling.f k (r * r - (a - c) * (a - c))).bind fun t406 => (some (t405, t406)))) (rtV (r * r - (a - c) * (a - c))) := by
        refine Ev.bind (floor_ev _ ⟨hb.1, by omega⟩) ?_
        refine Ev.bind (ceil_ev _ ⟨hb.1, by omega⟩) ?_
        rw [← rtV_1]
        exact Ev.const _
      refine Ev.succ h1 (fun k => ?_)
      unfold spileref06_Bounds.f
      rw [if_neg (by omega), w2, decide_eq_false (by omega), spileref06_Bounds.j0, if_neg (by simp), w3, w4, w5]
    refine Ev.bind h0 ?_
    unfold chV
    rw [if_neg hy, show wrap64 (2 * (rtV (r * r - (a - c) * (a - c))).1) = 2 * (rtV (r * r - (a - c) * (a - c))).1 by unfold wrap64; omega, show wrap64 (2 * (rtV (r * r - (a - c) * (a - c))).2) = 2 * (rtV (r * r - (a - c) * (a - c))).2 by unfold wrap64; omega]
    exact Ev.const _
theorem rof_ev (r c a b : Int) (hr : 0 ≤ r ∧ r ≤ 100000) (hc : 0 ≤ c ∧ c ≤ 200000) (ha : 0 ≤ a ∧ a ≤ 200000) (hb : 0 ≤ b ∧ b ≤ 200000) : Ev (fun k => spileref07_Of.f k r c a b) (stV r c (a, b)) := by
  have h := stV_eq r c (a, b)
  dsimp only at h
  unfold segment_circle_strip.f at h
  rw [pchord_ev r c a hr hc ha, pchord_ev r c b hr hc hb] at h
  simp only [Option.bind_some] at h
  unfold spileref07_Of.f
  refine Ev.bind (rchord_ev r c a hr hc ha) ?_
  refine Ev.bind (rchord_ev r c b hr hc hb) ?_
  rw [h]
  exact Ev.const _
def ofT (l : List S39) (c : Int) (h x : Int × Int) : Int × Int := (wrap64 ((slV l x).1 * (stV (slV l x).2.1 c h).1), wrap64 ((slV l x).1 * (stV (slV l x).2.2 c h).2))
def ofS (l : List S39) (c : Int) (v : List (Int × Int)) (h : Int × Int) : Int × Int := v.foldl (fun s x => addW s (ofT l c h x)) (0, 0)
def btS (l : List S39) (c : Int) (v hs : List (Int × Int)) : Int × Int := hs.foldl (fun s h => addW s (ofS l c v h)) (0, 0)
theorem ofS_val (l : List S39) (c : Int) (v : List (Int × Int)) (h : Int × Int) : ofS l c v h = (wrap64 (isum (fun x => (slV l x).1 * (stV (slV l x).2.1 c h).1) v), wrap64 (isum (fun x => (slV l x).1 * (stV (slV l x).2.2 c h).2) v)) := by
  unfold ofS
  rw [fold_addW0]
  have w := fun (f : Int × Int → Int) => isum_wrap f v 0
  simp only [Int.zero_add] at w
  unfold ofT
  dsimp only
  rw [w, w]
theorem btS_eq (l : List S39) (c : Int) (hs : List Int) (v : List (Int × Int)) (hv : slOk l v) (hc : 0 ≤ c ∧ c ≤ 100000) (h : segC hs = 0) : btS l c v (pairsI hs) = betS l c hs v := by
  rw [betS_val l c hs v hv hc h]
  unfold btS
  rw [fold_addW0]
  simp only [ofS_val]
  have w := fun (f : Int × Int → Int) => isum_wrap f (pairsI hs) 0
  simp only [Int.zero_add] at w
  rw [w, w]
  simp only [isum_mul]
  rw [isum_swap (fun x y => (slV l x).1 * (stV (slV l x).2.1 c y).1) v (pairsI hs), isum_swap (fun x y => (slV l x).1 * (stV (slV l x).2.2 c y).2) v (pairsI hs)]
theorem le_2 (c : Int) (h : 0 ≤ c ∧ c ≤ 100000) : 0 ≤ c ∧ c ≤ 200000 := ⟨h.1, by omega⟩
theorem ix_4 (i L : Nat) (h : i + 1 < L) : ((i + 1 : Nat) : Int) < (L : Int) ∧ (0 : Int) ≤ (i : Int) ∧ (i : Int) < (L : Int) ∧ (0 : Int) ≤ ((i + 1 : Nat) : Int) := by omega
theorem mn_bd (p q : Int) (hp : 0 ≤ p ∧ p ≤ 100000) (hq : 0 ≤ q ∧ q ≤ 100000) : 0 ≤ mn p q ∧ mn p q ≤ 100000 := by
  unfold mn
  split
  · exact hq
  · exact hp
theorem mx_bd (p q : Int) (hp : 0 ≤ p ∧ p ≤ 100000) (hq : 0 ≤ q ∧ q ≤ 100000) : 0 ≤ mx p q ∧ mx p q ≤ 100000 := by
  unfold mx
  split
  · exact hq
  · exact hp
theorem rof_l0 (a : ByteArray) (p : Int) (l : List S39) (d : Int) (v : List Int) (hl : v.length ≤ 1000) (hat : ∀ x ∈ v, ∃ r : Int × Int, atV l x = (r.1, r.2, 0) ∧ (0 ≤ r.1 ∧ r.1 ≤ r.2 ∧ r.2 ≤ 100000) ∧ Ev (fun k => spileref08_Radius.f k l x) r) (c : Int) (hc : 0 ≤ c ∧ c ≤ 100000) (h : Int × Int) (h1 : 0 ≤ h.1 ∧ h.1 ≤ 200000) (h2 : 0 ≤ h.2 ∧ h.2 ≤ 200000) (suf : List Int) :
    ∀ (i : Nat) (x : Int) (s : Int × Int), v.drop i = x :: suf → Ev (fun k => spileref11_Of.l0 k v h.1 h.2 c ((i + 1 : Nat) : Int) a p l d s.1 s.2) ((pairsI (x :: suf)).foldl (fun s x => addW s (ofT l c h x)) s) := by
  induction suf with
  | nil =>
    intro i x s hd
    obtain ⟨g1, g2, g3, _⟩ := drop_atI hd
    have h4 := drop_end g3
    exact Ev.succ (Ev.const _) (fun k => by rw [spileref11_Of.l0, if_neg (by omega)]; rfl)
  | cons y suf ih =>
    intro i x s hd
    obtain ⟨g1, g2, g3, _⟩ := drop_atI hd
    obtain ⟨f1, f2, f3, _⟩ := drop_atI g3
    have e1 : wrap64 (((i + 1 : Nat) : Int) - 1) = (i : Int) := by rw [wrap_dn (by omega) (by omega)]; simp
    have e2 : wrap64 (((i + 1 : Nat) : Int) + 1) = ((i + 1 + 1 : Nat) : Int) := wrap_up (by omega)
    have hmx : x ∈ v := by rw [← g2, rdG_get v i g1]; exact List.getElem_mem g1
    have hmy : y ∈ v := by rw [← f2, rdG_get v (i + 1) f1]; exact List.getElem_mem f1
    have hc2 := le_2 c hc
    obtain ⟨k1, k2, k3, k4⟩ := ix_4 i v.length f1
    obtain ⟨⟨p1, p2⟩, ap, bp, ep⟩ := hat x hmx
    obtain ⟨⟨q1, q2⟩, aq, bq, eq⟩ := hat y hmy
    dsimp only at ap bp aq bq
    have hs : slV l (x, y) = (wrap64 (y - x), mn p1 q1, mx p2 q2) := by
      unfold slV
      rw [ap, aq, mn_min, mx_max]
    have hlo := mn_bd p1 q1 ⟨bp.1, Int.le_trans bp.2.1 bp.2.2⟩ ⟨bq.1, Int.le_trans bq.2.1 bq.2.2⟩
    have hhi := mx_bd p2 q2 ⟨Int.le_trans bp.1 bp.2.1, bp.2.2⟩ ⟨Int.le_trans bq.1 bq.2.1, bq.2.2⟩
    have ih := ih (i + 1) y (addW s (ofT l c h (x, y))) g3
    rw [pairsI, List.foldl_cons]
    have ho : addW s (ofT l c h (x, y)) = (wrap64 (s.1 + wrap64 (wrap64 (y - x) * (stV (mn p1 q1) c h).1)), wrap64 (s.2 + wrap64 (wrap64 (y - x) * (stV (mx p2 q2) c h).2))) := by
      unfold addW ofT
      rw [hs]
    rw [ho] at ih ⊢
    refine Ev.succ (Ev.bind (h := fun k bt423 => ((spileref08_Radius.f k l y).bind fun bt426 => ((spileref07_Of.f k (mn bt423.1 bt426.1) c h.1 h.2).bind fun bt432 => ((spileref07_Of.f k (mx bt423.2 bt426.2) c h.1 h.2).bind fun bt434 => spileref11_Of.l0 k v h.1 h.2 c (wrap64 (((i + 1 : Nat) : Int) + 1)) a p l d (wrap64 (s.1 + wrap64 (wrap64 (y - x) * bt432.1))) (wrap64 (s.2 + wrap64 (wrap64 (y - x) * bt434.2))))))) ep ?_) (fun k => ?_)
    · refine Ev.bind eq ?_
      refine Ev.bind (rof_ev _ c h.1 h.2 hlo hc2 h1 h2) ?_
      refine Ev.bind (rof_ev _ c h.1 h.2 hhi hc2 h1 h2) ?_
      rw [e2]
      exact ih
    · rw [spileref11_Of.l0, if_pos k1, e1, if_pos k2, if_pos k3, g2, f2]
      simp only [if_pos k4]
theorem rofs_ev (a : ByteArray) (p : Int) (l : List S39) (d : Int) (hp : profC l = 0) (v : List Int) (hl : 1 ≤ v.length ∧ v.length ≤ 1000) (hv : ∀ x ∈ v, 0 ≤ x ∧ x ≤ lastX l) (h : Int × Int) (h1 : 0 ≤ h.1 ∧ h.1 ≤ 200000) (h2 : 0 ≤ h.2 ∧ h.2 ≤ 200000) :
    Ev (fun k => spileref11_Of.f k a p l d v h.1 h.2) (ofS l (bungR l) (pairsI v) h) := by
  unfold spileref11_Of.f
  refine Ev.bind (radius_ev a p l d hp) ?_
  obtain ⟨x, suf, hd⟩ := drop0 (l := v) hl.1
  have hb := last_bd l hp
  have := rof_l0 a p l d v hl.2 (fun x hx => ⟨atP x (pairs l), atV_at l hp x (hv x hx), at_bd l hp x (hv x hx).1 (hv x hx).2, rad_ev l hp x ⟨(hv x hx).1, Int.le_trans (hv x hx).2 hb.2⟩⟩) (bungR l) (bungR_bd l hp) h h1 h2 suf 0 x (0, 0) hd
  rw [← hd, List.drop_zero] at this
  exact this
theorem rbt_l0 (a : ByteArray) (p : Int) (l : List S39) (d : Int) (v hs : List Int) (hl : hs.length ≤ 1000) (hof : ∀ x ∈ hs, ∀ y ∈ hs, Ev (fun k => spileref11_Of.f k a p l d v x y) (ofS l (bungR l) (pairsI v) (x, y))) (suf : List Int) :
    ∀ (i : Nat) (x : Int) (s : Int × Int), hs.drop i = x :: suf → Ev (fun k => spileref11_between.l0 k v hs ((i + 1 : Nat) : Int) a p l d s.1 s.2) ((pairsI (x :: suf)).foldl (fun s h => addW s (ofS l (bungR l) (pairsI v) h)) s) := by
  induction suf with
  | nil =>
    intro i x s hd
    obtain ⟨g1, g2, g3, _⟩ := drop_atI hd
    have h4 := drop_end g3
    exact Ev.succ (Ev.const _) (fun k => by rw [spileref11_between.l0, if_neg (by omega)]; rfl)
  | cons y suf ih =>
    intro i x s hd
    obtain ⟨g1, g2, g3, _⟩ := drop_atI hd
    obtain ⟨f1, f2, f3, _⟩ := drop_atI g3
    have e1 : wrap64 (((i + 1 : Nat) : Int) - 1) = (i : Int) := by rw [wrap_dn (by omega) (by omega)]; simp
    have e2 : wrap64 (((i + 1 : Nat) : Int) + 1) = ((i + 1 + 1 : Nat) : Int) := wrap_up (by omega)
    have hmx : x ∈ hs := by rw [← g2, rdG_get hs i g1]; exact List.getElem_mem g1
    have hmy : y ∈ hs := by rw [← f2, rdG_get hs (i + 1) f1]; exact List.getElem_mem f1
    have ih := ih (i + 1) y (addW s (ofS l (bungR l) (pairsI v) (x, y))) g3
    rw [pairsI, List.foldl_cons]
    refine Ev.succ (Ev.bind (h := fun k bt => spileref11_between.l0 k v hs (wrap64 (((i + 1 : Nat) : Int) + 1)) a p l d (wrap64 (s.1 + bt.1)) (wrap64 (s.2 + bt.2))) (hof x hmx y hmy) ?_) (fun k => ?_)
    · rw [e2]
      exact ih
    · rw [spileref11_between.l0, if_pos (by omega), e1, if_pos (by omega), if_pos (by omega), if_pos (by omega), g2, f2]
theorem rbt_ev (a : ByteArray) (p : Int) (l : List S39) (d : Int) (hp : profC l = 0) (v hs : List Int) (hl : 1 ≤ v.length ∧ v.length ≤ 1000) (hv : ∀ x ∈ v, 0 ≤ x ∧ x ≤ lastX l) (hh : 1 ≤ hs.length ∧ hs.length ≤ 1000) (hb : ∀ x ∈ hs, 0 ≤ x ∧ x ≤ 200000) :
    Ev (fun k => spileref11_between.f k a p l d v hs) (btS l (bungR l) (pairsI v) (pairsI hs)) := by
  unfold spileref11_between.f
  obtain ⟨x, suf, hd⟩ := drop0 (l := hs) hh.1
  have := rbt_l0 a p l d v hs hh.2 (fun x hx y hy => rofs_ev a p l d hp v hl hv (x, y) (hb x hx) (hb y hy)) suf 0 x (0, 0) hd
  rw [← hd, List.drop_zero] at this
  exact this
end Go.Proofs.Ytefjmcljkmppoaa.K
