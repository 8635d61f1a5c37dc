/- By hand: the plain law of LiabilityGrows: the greatest liability grows with days, exposures and alcohol, and the bonds make the whole. -/
import Derived.Test.YthboaobgipodiaaSayLiabilityGrows
import Derived.Test.YthboaobgipodiaaPGrow
import Derived.Test.YthboaobgipodiaaPAwake
namespace Go.Proofs.Ythboaobgipodiaa.K
open Go.RowKit Go.Proofs.YthboaobgipodiaaW.PrintWords
set_option linter.unusedVariables false
set_option linter.unusedSimpArgs false

theorem grows_l0 (a : Int) (l : List S60) (x : List S35) (day more : Int) (A : List Int) (N : Int) (H : List S42) (hH : H.length ≤ 1000) (hp : H.Pairwise (fun b c => b.f0 < c.f0)) (hz : ∀ b ∈ H, b.f1 = 0 ∧ 0 ≤ b.f2) (r : Bool)
    (hr : Ev (fun k => spilelaw51_LiabilityGrows.j5 k x day more A N 0 N ((x.length : Int) == 0) a l) r) : ∀ (n i : Nat) (s : Int), i + n = H.length → 0 ≤ s → s + isum ((H.drop i).map (·.f2)) = N → N ≤ 4611686018427387904 →
    Ev (fun k => spilelaw51_LiabilityGrows.l0 k x day more A N H 0 s H (H.length : Int) (i : Int) a l) r
  | 0, i, s, hn, h0, hs, hN => by
    rw [List.drop_eq_nil_of_le (by omega)] at hs
    have e : s = N := by simpa [isum] using hs
    exact Ev.succ hr (fun k => by rw [spilelaw51_LiabilityGrows.l0, if_neg (by omega), if_pos rfl, if_pos e, e])
  | n + 1, i, s, hn, h0, hs, hN => by
    have hi : i < H.length := by omega
    have h1 : (i : Int) < (H.length : Int) := by omega
    have h00 : (0 : Int) ≤ (i : Int) := by omega
    obtain ⟨z1, z2⟩ := hz H[i] (List.getElem_mem hi)
    rw [List.drop_eq_getElem_cons hi, List.map_cons, isum] at hs
    have hnn := isum_nonneg ((H.drop (i + 1)).map (·.f2)) (fun z hm => by
      obtain ⟨b, hb, rfl⟩ := List.mem_map.1 hm
      exact (hz b (List.mem_of_mem_drop hb)).2)
    have hw : wrap64 (s + H[i].f2) = s + H[i].f2 := wrap_big _ (by omega) (by omega)
    have ih := grows_l0 a l x day more A N H hH hp hz r hr n (i + 1) (s + H[i].f2) (by omega) (by omega) (by omega) hN
    have e : ∀ k, spilelaw51_LiabilityGrows.l0 (k + 1) x day more A N H 0 s H (H.length : Int) (i : Int) a l = spilelaw51_LiabilityGrows.j4 k x day more A N H 0 s H (H.length : Int) (i : Int) false a l H[i].f0 H[i].f1 H[i].f2 := by
      intro k
      rw [spilelaw51_LiabilityGrows.l0, if_pos h1, if_pos h00, if_pos h1, rd42_get H i hi, if_pos z1]
      by_cases c : i = 0
      · subst c
        rw [if_neg (by simp)]
      · have hp' : i - 1 < H.length := by omega
        have hw1 : wrap64 ((i : Int) - 1) = ((i - 1 : Nat) : Int) := by rw [wrap_at _ (by omega) (by omega)]; omega
        have hlt := List.pairwise_iff_getElem.1 hp (i - 1) i hp' hi (by omega)
        rw [if_pos (by omega), hw1, if_pos (by omega), if_pos (by omega), rd42_get H (i - 1) hp', decide_eq_false (by omega)]
    refine Ev.succ (Ev.succ ih (fun k => ?_)) e
    rw [spilelaw51_LiabilityGrows.j4, if_neg (by decide), hw, w1 hi hH]
theorem grows_j5 (a : Int) (l : List S60) (day more : Int) (y : S35) (x : List S35) (ha : asksP a l (y :: x) day = 0) (hl : l.length ≤ 1000) (hm : -9223372036854775808 ≤ more ∧ more ≤ 9223372036854775807) :
    Ev (fun k => spilelaw51_LiabilityGrows.j5 k (y :: x) day more ((y :: x).map (gP a l day)) (gsum a l day 0 (y :: x)) 0 (gsum a l day 0 (y :: x)) false a l) true := by
  obtain ⟨t1, t2, t3⟩ := asks_zero ha
  obtain ⟨c1, c2⟩ := lchk_to t2
  obtain ⟨s1, s2, s3⟩ := gsum_eq t1 t3 (y :: x) 0 c2 (Int.le_refl _) (by omega)
  have c1' : x.length + 1 ≤ 16 := by simpa using c1
  have hy := c2 y List.mem_cons_self
  obtain ⟨u1, u2, u3⟩ := gsum_eq t1 t3 x 0 (fun z hz => c2 z (List.mem_cons_of_mem _ hz)) (Int.le_refl _) (by omega)
  have hg := gP_in t1 t3 hy
  rw [List.map_cons, isum] at s1
  have hrd : Go.Proofs.YthboaobgipodiaaW.PrintWords.rd ((y :: x).map (gP a l day)) 0 = gP a l day y := rfl
  have hw : wrap64 (gsum a l day 0 (y :: x) - gP a l day y) = gsum a l day 0 x := by
    rw [wrap_big _ (by omega) (by omega)]
    omega
  have hxl : (0 : Int) < (((y :: x).map (gP a l day)).length : Int) := by simp only [List.map_cons, List.length_cons]; omega
  have hxl2 : (0 : Int) < ((y :: x).length : Int) := by simp only [List.length_cons]; omega
  have j6t : Ev (fun k => spilelaw51_LiabilityGrows.j6 k (y :: x) day more ((y :: x).map (gP a l day)) (gsum a l day 0 (y :: x)) (gsum a l day 0 x) 0 true a l) true :=
    Ev.succ (Ev.const _) (fun k => by rw [spilelaw51_LiabilityGrows.j6, if_pos rfl, if_pos rfl, if_pos hxl, hrd, hw, beq_self_eq_true])
  have e : ∀ k, spilelaw51_LiabilityGrows.j5 (k + 1) (y :: x) day more ((y :: x).map (gP a l day)) (gsum a l day 0 (y :: x)) 0 (gsum a l day 0 (y :: x)) false a l =
      (liability_Greatest.f k a l x day).bind fun bt801 => (if bt801.2.2 = 0 then (if bt801.2.1 = gsum a l day 0 x then (if more < 0 then (spilelaw51_LiabilityGrows.j6 k (y :: x) day more ((y :: x).map (gP a l day)) (gsum a l day 0 (y :: x)) bt801.2.1 bt801.2.2 true a l) else (spilelaw51_LiabilityGrows.j6 k (y :: x) day more ((y :: x).map (gP a l day)) (gsum a l day 0 (y :: x)) bt801.2.1 bt801.2.2 (decide (y.f4 > (wrap64 (10737418240000 - more)))) a l)) else (spilelaw51_LiabilityGrows.j6 k (y :: x) day more ((y :: x).map (gP a l day)) (gsum a l day 0 (y :: x)) bt801.2.1 bt801.2.2 true a l)) else (spilelaw51_LiabilityGrows.j6 k (y :: x) day more ((y :: x).map (gP a l day)) (gsum a l day 0 (y :: x)) bt801.2.1 bt801.2.2 true a l)) := by
    intro k
    rw [spilelaw51_LiabilityGrows.j5, if_neg (by decide), ct_f a l hl, Option.bind_some, if_pos (by simp only [List.length_cons]; omega), cl13_f _ (by simp only [List.drop_succ_cons, List.drop_zero]; omega), Option.bind_some]
    simp only [if_pos hxl, if_pos hxl2, hrd, hw]
    rfl
  refine Ev.succ (Ev.bind (G_ev a l x day) ?_) e
  have hgt : GP a l x day = (x.map (gP a l day), gsum a l day 0 x, 0) := by unfold GP; rw [if_pos (asks_tail ha)]
  rw [hgt]
  simp only [if_true]
  by_cases hneg : more < 0
  · simp only [if_pos hneg]
    exact j6t
  · simp only [if_neg hneg]
    have hw2 : wrap64 (10737418240000 - more) = 10737418240000 - more := by unfold wrap64; omega
    rw [hw2]
    by_cases hbig : y.f4 > 10737418240000 - more
    · rw [decide_eq_true hbig]
      exact j6t
    · rw [decide_eq_false hbig]
      obtain ⟨x0, x1, x2, x3, x4⟩ := xok_iff.1 hy
      have hw3 : wrap64 (y.f4 + more) = y.f4 + more := wrap_big _ (by omega) (by omega)
      have hy' : xok ⟨y.f0, y.f1, y.f2, y.f3, y.f4 + more⟩ = true := xok_iff.2 ⟨x0, x1, x2, x3, by show 1 ≤ y.f4 + more ∧ y.f4 + more ≤ 10737418240000; omega⟩
      have ha' := asks_head (y' := ⟨y.f0, y.f1, y.f2, y.f3, y.f4 + more⟩) ha rfl hy'
      have e6 : ∀ k, spilelaw51_LiabilityGrows.j6 (k + 1) (y :: x) day more ((y :: x).map (gP a l day)) (gsum a l day 0 (y :: x)) (gsum a l day 0 x) 0 false a l =
          (liability_Greatest.f k a l (⟨y.f0, y.f1, y.f2, y.f3, y.f4 + more⟩ :: x) day).bind fun bt818 => (if bt818.2.2 = 0 then (some (decide (bt818.2.1 ≥ gsum a l day 0 (y :: x)))) else none) := by
        intro k
        rw [spilelaw51_LiabilityGrows.j6, if_neg (by decide), cl13_f _ (by simp only [List.length_cons]; omega), Option.bind_some, if_pos hxl2, ct_f a l hl, Option.bind_some]
        have hr0 : rd_T35 (y :: x) 0 = y := rfl
        rw [hr0, hw3]
        rfl
      refine Ev.succ (Ev.bind (G_ev a l _ day) ?_) e6
      obtain ⟨_, t2', _⟩ := asks_zero ha'
      obtain ⟨_, c2'⟩ := lchk_to t2'
      obtain ⟨v1, v2, v3⟩ := gsum_eq t1 t3 _ 0 c2' (Int.le_refl _) (by simp only [List.length_cons]; omega)
      rw [List.map_cons, isum] at v1
      have hmo := gP_more t1 t3 hy hy' (by omega)
      have hg' : GP a l (⟨y.f0, y.f1, y.f2, y.f3, y.f4 + more⟩ :: x) day = ((⟨y.f0, y.f1, y.f2, y.f3, y.f4 + more⟩ :: x).map (gP a l day), gsum a l day 0 (⟨y.f0, y.f1, y.f2, y.f3, y.f4 + more⟩ :: x), 0) := by unfold GP; rw [if_pos ha']
      rw [hg']
      simp only [if_true]
      rw [decide_eq_true (show gsum a l day 0 (⟨y.f0, y.f1, y.f2, y.f3, y.f4 + more⟩ :: x) ≥ gsum a l day 0 (y :: x) by omega)]
      exact Ev.const _
theorem grows_j1 (a : Int) (l : List S60) (day later more : Int) (x : List S35) (ha : asksP a l x day = 0) (hb : asksP a l x later = 0) (hle : day ≤ later) (hl : l.length ≤ 1000) (hm : -9223372036854775808 ≤ more ∧ more ≤ 9223372036854775807) :
    Ev (fun k => spilelaw51_LiabilityGrows.j1 k x day more (x.map (gP a l day)) (gsum a l day 0 x) 0 (x.map (gP a l later)) (gsum a l later 0 x) 0 false a l) true := by
  obtain ⟨t1, t2, t3⟩ := asks_zero ha
  obtain ⟨_, _, t3'⟩ := asks_zero hb
  obtain ⟨c1, c2⟩ := lchk_to t2
  obtain ⟨s1, s2, s3⟩ := gsum_eq t1 t3 x 0 c2 (Int.le_refl _) (by omega)
  obtain ⟨u1, u2, u3⟩ := gsum_eq t1 t3' x 0 c2 (Int.le_refl _) (by omega)
  have hmo := isum_mono (f := gP a l day) (g := gP a l later) x (fun y hy => gP_day t1 t3 t3' (c2 y hy) hle)
  have hps : (x.map fun y => (y.f1, gP a l day y)).map (·.2) = x.map (gP a l day) := by rw [List.map_map]; rfl
  obtain ⟨b1, b2, b3⟩ := bonds_spec (ps := x.map fun y => (y.f1, gP a l day y)) (fun p hp => by
    obtain ⟨y, hy, rfl⟩ := List.mem_map.1 hp
    exact (gP_in t1 t3 (c2 y hy)).1) (by rw [hps]; omega)
  rw [hps] at b3
  have e1 : ∀ k, spilelaw51_LiabilityGrows.j1 (k + 1) x day more (x.map (gP a l day)) (gsum a l day 0 x) 0 (x.map (gP a l later)) (gsum a l later 0 x) 0 false a l = spilelaw51_LiabilityGrows.j2 k x day more (x.map (gP a l day)) (gsum a l day 0 x) false a l := by
    intro k
    rw [spilelaw51_LiabilityGrows.j1, if_neg (by decide), if_pos (by simp), if_pos (by simp), decide_eq_false (by omega)]
  have e2 : ∀ k, spilelaw51_LiabilityGrows.j2 (k + 1) x day more (x.map (gP a l day)) (gsum a l day 0 x) false a l = (liability_Bonds.f k a l x day).bind fun bt783 => spilelaw51_LiabilityGrows.l0 k x day more (x.map (gP a l day)) (gsum a l day 0 x) bt783.1 bt783.2 0 bt783.1 (bt783.1.length : Int) 0 a l := by
    intro k
    rw [spilelaw51_LiabilityGrows.j2, if_neg (by decide), ct_f a l hl, Option.bind_some, cl13_f x (by omega), Option.bind_some]
  refine Ev.succ (Ev.succ (Ev.bind (B_ev a l x day) ?_) e2) e1
  have hB : BP a l x day = (bonds (x.map fun y => (y.f1, gP a l day y)), 0) := by unfold BP; rw [if_pos ha]
  rw [hB]
  have hbl : (bonds (x.map fun y => (y.f1, gP a l day y))).length ≤ 1000 := by
    have : ∀ ps : List (Int × Int), (bkeys ps).length ≤ ps.length := by
      intro ps
      induction ps with
      | nil => exact Nat.le_refl _
      | cons p ps ih =>
        have hi : ∀ (z : Int) (ks : List Int), (insU z ks).length ≤ ks.length + 1 := by
          intro z ks
          induction ks with
          | nil => exact Nat.le_refl _
          | cons k ks ih =>
            unfold insU
            split
            · simp
            · split
              · simp
              · simp only [List.length_cons]
                omega
        have := hi p.1 (bkeys ps)
        show (insU p.1 (bkeys ps)).length ≤ ps.length + 1
        omega
    have h2 := this (x.map fun y => (y.f1, gP a l day y))
    unfold bonds
    rw [List.length_map] at h2 ⊢
    omega
  refine grows_l0 a l x day more _ _ _ hbl b1 b2 true ?_ _ 0 0 (Nat.zero_add _) (Int.le_refl _) (by rw [List.drop_zero, b3]; omega) (by omega)
  cases x with
  | nil => exact Ev.succ (Ev.const _) (fun k => by rw [spilelaw51_LiabilityGrows.j5, if_pos (by rfl), if_pos rfl, beq_self_eq_true])
  | cons y x =>
    have : (((y :: x).length : Int) == 0) = false := beq_eq_false_iff_ne.mpr (by simp only [List.length_cons]; omega)
    rw [this]
    exact grows_j5 a l day more y x ha hl hm
theorem grows_pure : LiabilityGrowsPure := by
  intro x0 x1 x2 x3 x4 _ _ _ _ h4
  have hm : -9223372036854775808 ≤ x4 ∧ x4 ≤ 9223372036854775807 := by
    have := h4
    simpa [ok3, Lit.wf, IntKind.min, IntKind.max, IntKind.signed, IntKind.bits] using this
  refine Ev.one (g := fun k => spilelaw51_LiabilityGrows.f k x0.f0 x0.f1 x1 x2 x3 x4) ?_
  unfold spilelaw51_LiabilityGrows.f
  refine Ev.bind awake_ev ?_
  simp only [if_true, few_f, Option.bind_some]
  have hout : Ev (fun k => spilelaw51_LiabilityGrows.j0 k x1 x2 x3 x4 true x0.f0 x0.f1) true := Ev.succ (Ev.bind awake_ev (Ev.const _)) (fun k => by rw [spilelaw51_LiabilityGrows.j0, if_pos (by rfl)])
  cases hf : fewB x0.f1 x1 with
  | false => exact hout
  | true =>
    simp only [if_true]
    by_cases hlt : x3 < x2
    · rw [decide_eq_true hlt]
      exact hout
    · rw [decide_eq_false hlt]
      obtain ⟨h1, h2⟩ := few_len hf
      have e : ∀ k, spilelaw51_LiabilityGrows.j0 (k + 1) x1 x2 x3 x4 false x0.f0 x0.f1 = (liability_Greatest.f k x0.f0 x0.f1 x1 x2).bind fun bt759 => (liability_Greatest.f k x0.f0 x0.f1 x1 x3).bind fun bt771 => (if bt759.2.2 = 0 then (spilelaw51_LiabilityGrows.j1 k x1 x2 x4 bt759.1 bt759.2.1 bt759.2.2 bt771.1 bt771.2.1 bt771.2.2 (bt771.2.2 != 0) x0.f0 x0.f1) else (spilelaw51_LiabilityGrows.j1 k x1 x2 x4 bt759.1 bt759.2.1 bt759.2.2 bt771.1 bt771.2.1 bt771.2.2 true x0.f0 x0.f1)) := by
        intro k
        rw [spilelaw51_LiabilityGrows.j0, if_neg (by decide)]
        simp only [ct_f x0.f0 x0.f1 (by omega), cl13_f x1 (by omega), Option.bind_some]
      refine Ev.succ (Ev.bind (G_ev _ _ _ _) (Ev.bind (G_ev _ _ _ _) ?_)) e
      by_cases ha : asksP x0.f0 x0.f1 x1 x2 = 0
      · have hga : GP x0.f0 x0.f1 x1 x2 = (x1.map (gP x0.f0 x0.f1 x2), gsum x0.f0 x0.f1 x2 0 x1, 0) := by unfold GP; rw [if_pos ha]
        rw [hga]
        simp only [if_true]
        by_cases hb : asksP x0.f0 x0.f1 x1 x3 = 0
        · have hgb : GP x0.f0 x0.f1 x1 x3 = (x1.map (gP x0.f0 x0.f1 x3), gsum x0.f0 x0.f1 x3 0 x1, 0) := by unfold GP; rw [if_pos hb]
          rw [hgb]
          exact grows_j1 x0.f0 x0.f1 x2 x3 x4 x1 ha hb (by omega) (by omega) hm
        · have hgb : GP x0.f0 x0.f1 x1 x3 = ([], 0, asksP x0.f0 x0.f1 x1 x3) := by unfold GP; rw [if_neg hb]
          rw [hgb]
          have hne : (asksP x0.f0 x0.f1 x1 x3 != 0) = true := bne_iff_ne.mpr hb
          rw [hne]
          exact Ev.succ (Ev.const _) (fun k => by rw [spilelaw51_LiabilityGrows.j1, if_pos rfl, if_pos rfl, if_neg hb]; rfl)
      · have hga : GP x0.f0 x0.f1 x1 x2 = ([], 0, asksP x0.f0 x0.f1 x1 x2) := by unfold GP; rw [if_neg ha]
        rw [hga]
        simp only [if_neg ha]
        exact Ev.succ (Ev.const _) (fun k => by rw [spilelaw51_LiabilityGrows.j1, if_pos rfl, if_neg ha, if_pos rfl])
end Go.Proofs.Ythboaobgipodiaa.K
namespace Go.Proofs.Ythboaobgipodiaa.Pure
theorem LiabilityGrows : K.LiabilityGrowsPure := K.grows_pure
end Go.Proofs.Ythboaobgipodiaa.Pure
