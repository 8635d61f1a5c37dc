/- By hand: the reference's wet and dry spaces of lying casks, in plain words. -/
import Derived.Test.YtefjmcljkmppoaaPLyW
import Derived.Test.YtefjmcljkmppoaaPRefO
import Derived.Test.YtefjmcljkmppoaaK14
import Derived.Test.YtefjmcljkmppoaaK18
namespace Go.Proofs.Ytefjmcljkmppoaa.K
open Go.RowKit Go.Proofs.YtefjmcljkmppoaaW.PrintWords
set_option linter.unusedVariables false
set_option linter.unusedSimpArgs false
theorem gv0 (h n : Int) (i : Nat) : gvH 0 h n i = wrap64 (Int.tdiv (wrap64 ((i : Int) * h)) n) := by
  unfold gvH
  rw [Int.zero_add]
  unfold wrap64
  omega
theorem hei_l0 (h n : Int) (hn : 1 ≤ n ∧ n ≤ 64) (suf : List Nat) : ∀ (i : Nat) (out : List Int), (List.range (n.toNat + 1)).drop i = suf → out.length ≤ i → Ev (fun k => spileref07_Heights.l0 k h n out (i : Int)) (out ++ suf.map (gvH 0 h n), 0) := by
  induction suf with
  | nil =>
    intro i out hd ho
    have h4 := drop_end hd
    rw [List.length_range] at h4
    refine Ev.succ (Ev.const _) (fun k => ?_)
    rw [spileref07_Heights.l0, if_neg (by omega), List.map_nil, List.append_nil]
  | cons j suf ih =>
    intro i out hd ho
    obtain ⟨h1, rfl, h3⟩ := range_at hd
    have ih := ih (j + 1) (out ++ [gvH 0 h n j]) h3 (by simp; omega)
    rw [List.append_assoc] at ih
    refine Ev.succ ih (fun k => ?_)
    rw [spileref07_Heights.l0, if_pos (by omega), if_neg (by omega), if_pos (by omega), wrap_up (by omega), gv0]
theorem hei_ev (h n : Int) (hh : 0 ≤ h ∧ h ≤ 200000) (hn : 1 ≤ n ∧ n ≤ 64) : Ev (fun k => spileref07_Heights.f k h n) (htL 0 h n, 0) := by
  have h0 := hei_l0 h n hn _ 0 [] List.drop_zero (Nat.le_refl _)
  refine Ev.succ h0 (fun k => ?_)
  unfold spileref07_Heights.f
  rw [if_neg (by omega), if_neg (by omega), if_neg (by omega), decide_eq_false (by omega), spileref07_Heights.j0, if_neg (by simp)]
  rfl
def wetE (a : ByteArray) (p : Int) (l : List S39) (d dip m n : Int) : List Int × Int :=
  if lieC a p l d = 0 then (if dipBad (bungR l) dip m n then ([], 2) else finS (slcL l m)) else ([], lieC a p l d)
theorem rwet0_ev (a : ByteArray) (p : Int) (l : List S39) (d dip m n : Int) (ha : a.size ≤ 1000) : Ev (fun k => spileref11_wet.f k a p l d dip m n) (wetE a p l d dip m n) := by
  unfold spileref11_wet.f wetE
  refine Ev.bind (is_ev a p l d ha) ?_
  by_cases c : lieC a p l d = 0
  · obtain ⟨c1, c2, c3⟩ := lie_spec c
    have hR := bungR_bd l c3
    have hr := radius_ev a p l d c3
    have hslc : slcE l m = if m < 1 ∨ m > 64 then ([], 2) else finS (slcL l m) := by unfold slcE; rw [if_pos c3]
    have hps := rslc_ev l m
    rw [hslc] at hps
    obtain ⟨R, eR⟩ : ∃ R, bungR l = R := ⟨_, rfl⟩
    rw [eR] at hR hr ⊢
    simp only [c, if_true]
    clear c c1 c2 c3 hslc eR
    have w1 : wrap64 (2 * R) = 2 * R := by unfold wrap64; omega
    have hj2 : Ev (fun k => spileref11_wet.j0 k m true a p l d) ([], 2) := Ev.succ (Ev.const _) (fun k => by rw [spileref11_wet.j0, if_pos rfl])
    have hj1 : ¬ (m < 1 ∨ m > 64) → Ev (fun k => spileref11_wet.j0 k m false a p l d) (finS (slcL l m)) := fun q => by
      rw [if_neg q] at hps
      exact Ev.succ (Ev.bind (h := fun k bt => some (bt.1, bt.2)) hps (Ev.const _)) (fun k => by rw [spileref11_wet.j0, if_neg (by simp)])
    by_cases q1 : dip < 0
    · rw [if_pos (show dipBad R dip m n from .inl q1)]
      exact hj2.congr (fun k => by rw [if_pos q1])
    have tail : Ev (fun k => if dip > 2 * R then spileref11_wet.j0 k m true a p l d else (if m < 1 then spileref11_wet.j0 k m true a p l d else (if m > 64 then spileref11_wet.j0 k m true a p l d else (if n < 1 then spileref11_wet.j0 k m true a p l d else spileref11_wet.j0 k m (decide (n > 64)) a p l d)))) (if dipBad R dip m n then ([], 2) else finS (slcL l m)) := by
      by_cases q2 : dip > 2 * R
      · rw [if_pos (show dipBad R dip m n from .inr (.inl q2))]
        exact hj2.congr (fun k => by rw [if_pos q2])
      by_cases q3 : m < 1
      · rw [if_pos (show dipBad R dip m n from .inr (.inr (.inl q3)))]
        exact hj2.congr (fun k => by rw [if_neg q2, if_pos q3])
      by_cases q4 : m > 64
      · rw [if_pos (show dipBad R dip m n from .inr (.inr (.inr (.inl q4))))]
        exact hj2.congr (fun k => by rw [if_neg q2, if_neg q3, if_pos q4])
      by_cases q5 : n < 1
      · rw [if_pos (show dipBad R dip m n from .inr (.inr (.inr (.inr (.inl q5)))))]
        exact hj2.congr (fun k => by rw [if_neg q2, if_neg q3, if_neg q4, if_pos q5])
      by_cases q6 : n > 64
      · rw [if_pos (show dipBad R dip m n from .inr (.inr (.inr (.inr (.inr q6)))))]
        exact hj2.congr (fun k => by rw [if_neg q2, if_neg q3, if_neg q4, if_neg q5, decide_eq_true q6])
      rw [if_neg (show ¬ dipBad R dip m n by unfold dipBad; omega)]
      exact (hj1 (by omega)).congr (fun k => by rw [if_neg q2, if_neg q3, if_neg q4, if_neg q5, decide_eq_false q6])
    refine Ev.congr (Ev.bind (h := fun k t388 => if dip > (wrap64 (2 * t388)) then spileref11_wet.j0 k m true a p l d else (if m < 1 then spileref11_wet.j0 k m true a p l d else (if m > 64 then spileref11_wet.j0 k m true a p l d else (if n < 1 then spileref11_wet.j0 k m true a p l d else spileref11_wet.j0 k m (decide (n > 64)) a p l d)))) hr ?_) (fun k => by rw [if_neg q1])
    rw [w1]
    exact tail
  · simp only [if_neg c]
    exact Ev.const _
theorem dipB_spec {R dip m n : Int} (h : ¬ dipBad R dip m n) : (0 ≤ dip ∧ dip ≤ 2 * R) ∧ (1 ≤ m ∧ m ≤ 64) ∧ (1 ≤ n ∧ n ≤ 64) := by
  unfold dipBad at h
  omega
theorem rbt_ht (a : ByteArray) (p : Int) (l : List S39) (d m : Int) (hp : profC l = 0) (hm : 1 ≤ m ∧ m ≤ 64) (hlen : (slcL l m).length ≤ 65) (from_ h n : Int) (hf : 0 ≤ from_) (hs : from_ + h ≤ 200000) (hh : 0 ≤ h) (hn : 1 ≤ n ∧ n ≤ 64) :
    Ev (fun k => spileref11_between.f k a p l d (slcL l m) (htL from_ h n)) (betS l (bungR l) (htL from_ h n) (pairsI (slcL l m))) := by
  have hb := slc_bd l hp m hm
  rw [← btS_eq l (bungR l) (htL from_ h n) _ (sl_ok l hp _ hb) (bungR_bd l hp) (ht_seg from_ h n hf hs hh hn)]
  have hlh := htL_len from_ h n
  exact rbt_ev a p l d hp (slcL l m) (htL from_ h n) ⟨len_pos (slc_ne l m), Nat.le_trans hlen (by decide)⟩ hb ⟨by rw [hlh]; exact Nat.le_add_left _ _, by rw [hlh]; have := hn.2; omega⟩ (ht_bd from_ h n hf hs hh hn)
theorem rwet_ev (a : ByteArray) (p : Int) (l : List S39) (d dip m n : Int) (ha : a.size ≤ 1000) : Ev (fun k => spileref11_Wet.f k a p l d dip m n) (cutE a p l d dip m n false) := by
  unfold spileref11_Wet.f cutE
  refine Ev.bind (rwet0_ev a p l d dip m n ha) ?_
  unfold wetE
  by_cases c : lieC a p l d = 0
  · have c3 := (lie_spec c).2.2
    have hR := bungR_bd l c3
    by_cases cb : dipBad (bungR l) dip m n
    · simp only [if_pos c, if_pos cb]
      exact (Ev.const _).congr (fun k => by rw [if_neg (by decide)])
    · obtain ⟨b1, b2, b3⟩ := dipB_spec cb
      simp only [if_pos c, if_neg cb, finS]
      by_cases q : (slcL l m).length > 65
      · simp only [if_pos q]
        exact (Ev.const _).congr (fun k => by rw [if_neg (by decide)])
      · simp only [if_neg q]
        have h1 := rbt_ht a p l d m c3 b2 (Nat.le_of_not_lt q) 0 dip n (Int.le_refl _) (by rw [Int.zero_add]; exact Int.le_trans b1.2 (by have := hR.2; omega)) b1.1 b3
        refine Ev.congr (Ev.bind (h := fun k bt450 => (spileref11_between.f k a p l d (slcL l m) bt450.1).bind fun bt454 => some (bt454.1, bt454.2, 0)) (hei_ev dip n ⟨b1.1, Int.le_trans b1.2 (by have := hR.2; omega)⟩ b3) (Ev.bind h1 (Ev.const _))) (fun k => by simp only [if_true])
  · simp only [if_neg c]
    exact Ev.const _
theorem set_at (pre suf : List Int) (x z : Int) : (pre ++ x :: suf).set pre.length z = pre ++ z :: suf := by
  rw [List.set_append_right _ _ (Nat.le_refl _), Nat.sub_self]
  rfl
theorem rd_at (pre suf : List Int) (x : Int) : rd (pre ++ x :: suf) (pre.length : Int) = x := by
  rw [rdG_get _ _ (by simp)]
  simp
theorem dry_l0 (a : ByteArray) (p : Int) (l : List S39) (d dip : Int) (v hs : List Int) (r : Int × Int) (hb : Ev (fun k => spileref11_between.f k a p l d v hs) r) (suf : List Int) :
    ∀ (pre : List Int), pre.length + suf.length ≤ 1000 → pre ++ suf.map (fun x => wrap64 (x + dip)) = hs → Ev (fun k => spileref11_Dry.l0 k dip v (pre ++ suf) (pre.length : Int) a p l d) (r.1, r.2, 0) := by
  induction suf with
  | nil =>
    intro pre hl he
    rw [List.map_nil] at he
    refine Ev.succ (Ev.bind (h := fun k bt => some (bt.1, bt.2, 0)) hb (Ev.const _)) (fun k => ?_)
    rw [spileref11_Dry.l0, if_neg (by simp), he]
  | cons x suf ih =>
    intro pre hl he
    rw [List.length_cons] at hl
    have ih := ih (pre ++ [wrap64 (x + dip)]) (by rw [List.length_append, List.length_singleton]; omega) (by rw [← he]; simp)
    rw [List.append_assoc, List.length_append, List.length_singleton] at ih
    refine Ev.succ ih (fun k => ?_)
    have k1 : (pre.length : Int) < ((pre ++ x :: suf).length : Int) := by rw [List.length_append, List.length_cons]; omega
    rw [spileref11_Dry.l0, if_pos k1, if_pos (Int.natCast_nonneg _), rd_at, Int.toNat_natCast, set_at, wrap_up (by omega)]
    rfl
theorem ht_add (dip h n : Int) : (htL 0 h n).map (fun x => wrap64 (x + dip)) = htL dip h n := by
  unfold htL
  rw [List.map_map]
  apply List.map_congr_left
  intro i hi
  show wrap64 (gvH 0 h n i + dip) = gvH dip h n i
  unfold gvH
  rw [Int.zero_add, wrap_addl, Int.add_comm]
theorem rdry_ev (a : ByteArray) (p : Int) (l : List S39) (d dip m n : Int) (ha : a.size ≤ 1000) : Ev (fun k => spileref11_Dry.f k a p l d dip m n) (cutE a p l d dip m n true) := by
  unfold spileref11_Dry.f cutE
  refine Ev.bind (rwet0_ev a p l d dip m n ha) ?_
  unfold wetE
  by_cases c : lieC a p l d = 0
  · have c3 := (lie_spec c).2.2
    have hR := bungR_bd l c3
    by_cases cb : dipBad (bungR l) dip m n
    · simp only [if_pos c, if_pos cb]
      exact (Ev.const _).congr (fun k => by rw [if_neg (by decide)])
    · obtain ⟨b1, b2, b3⟩ := dipB_spec cb
      simp only [if_pos c, if_neg cb, finS]
      by_cases q : (slcL l m).length > 65
      · simp only [if_pos q]
        exact (Ev.const _).congr (fun k => by rw [if_neg (by decide)])
      · simp only [if_neg q, if_true]
        have hh : 0 ≤ 2 * bungR l - dip ∧ 2 * bungR l - dip ≤ 200000 := ⟨by have := b1.2; omega, by have := hR.2; have := b1.1; omega⟩
        have w1 : wrap64 (wrap64 (2 * bungR l) - dip) = 2 * bungR l - dip := by
          have := hR.1
          have := hR.2
          have := b1.1
          have := b1.2
          unfold wrap64
          omega
        have h1 := rbt_ht a p l d m c3 b2 (Nat.le_of_not_lt q) dip (2 * bungR l - dip) n b1.1 (by have := hR.2; omega) hh.1 b3
        have h2 := dry_l0 a p l d dip (slcL l m) (htL dip (2 * bungR l - dip) n) _ h1 (htL 0 (2 * bungR l - dip) n) [] (by rw [htL_len]; have := b3.2; simp; omega) (ht_add dip (2 * bungR l - dip) n)
        refine Ev.congr (Ev.bind (h := fun k t462 => (spileref07_Heights.f k (wrap64 ((wrap64 (2 * t462)) - dip)) n).bind fun bt463 => spileref11_Dry.l0 k dip (slcL l m) bt463.1 0 a p l d) (radius_ev a p l d c3) ?_) (fun k => rfl)
        rw [w1]
        exact Ev.bind (hei_ev (2 * bungR l - dip) n hh b3) h2
  · simp only [if_neg c]
    exact Ev.const _
end Go.Proofs.Ytefjmcljkmppoaa.K
