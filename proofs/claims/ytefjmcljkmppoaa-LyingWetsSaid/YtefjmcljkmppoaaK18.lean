import Derived.Test.YtefjmcljkmppoaaK0
import Derived.Test.YtefjmcljkmppoaaGPu
import Derived.Test.YtefjmcljkmppoaaGShort
import Derived.Test.YtefjmcljkmppoaaGJoin
import Derived.Test.YtefjmcljkmppoaaGSym
import Derived.Test.YtefjmcljkmppoaaK12
import Derived.Test.YtefjmcljkmppoaaK14
import Derived.Test.YtefjmcljkmppoaaK17
namespace Go.Proofs.Ytefjmcljkmppoaa.K
open Go.RowKit Go.Proofs.YtefjmcljkmppoaaW.PrintWords Go.Proofs.YtefjmcljkmppoaaW.PrintLast Go.Proofs.YtefjmcljkmppoaaW.PrintMore
attribute [local go_sem] max2_int min2_int max_two min_two max_three min_three max_four min_four   -- for this text's walks alone
set_option linter.unusedVariables false
set_option linter.unusedSimpArgs false
def spileref11_between.l0 : Nat → List Int → List Int → Int → ByteArray → Int → List (S39) → Int → Int → Int → Option (Int × Int)
 | 0, _, _, _, _, _, _, _, _, _ => none
 | k + 1, x1, x2, x8, x437000, x437001, x437002, x437003, x439000, x439001 => if x8 < (x2.length : Int) then (if 0 ≤ (wrap64 (x8 - 1)) then (if (wrap64 (x8 - 1)) < (x2.length : Int) then (if 0 ≤ x8 then ((spileref11_Of.f k x437000 x437001 x437002 x437003 x1 (rd x2 (wrap64 (x8 - 1))) (rd x2 x8)).bind fun bt441 => (spileref11_between.l0 k x1 x2 (wrap64 (x8 + 1)) x437000 x437001 x437002 x437003 (wrap64 (x439000 + bt441.1)) (wrap64 (x439001 + bt441.2)))) else (none)) else (none)) else (none)) else (some (x439000, x439001))
def spileref11_between.f (k : Nat) (a0_0 : ByteArray) (a0_1 : Int) (l0_2 : List (S39)) (a0_3 : Int) (l1 : List Int) (l2 : List Int) : Option (Int × Int) := spileref11_between.l0 k l1 l2 1 a0_0 a0_1 l0_2 a0_3 0 0
def spileref11_between.T5 : Bool × List (List Nat × List Nat) := (true, [([], []), ([], []), ([], []), ([], []), ([3], [3]), ([2, 4], [2, 4]), ([5], [5]), ([], []), ([], []), ([7, 8], [7, 8]), ([9], [9]), ([0, 1, 6, 10], [0, 1, 6, 10]), ([], []), ([12, 11, 11, 0, 1, 2, 3, 4, 5, 6, 7, 8, 9, 10, 11, 12], [11, 12])])
def spileref11_between.B5 : List Nat := [0, 0, 0, 0, 8, 28, 60, 0, 0, 384, 896, 2047, 0, 8191]
theorem spileref11_between.tab5 : rtab .any (opsOf Try.f46 5) = spileref11_between.T5 := by kernel_rfl
theorem spileref11_between.bits5 : waitsOk spileref11_between.T5.2 spileref11_between.B5 = true := by kernel_rfl
set_option maxHeartbeats 8000000 in
set_option maxRecDepth 100000 in
theorem spileref11_between.calls (k : Nat) (a0_0 : ByteArray) (a0_1 : Int) (A0_2 : Option Addr) (c0_2 : Nat) (l0_2 : List (S39)) (a0_3 : Int) (A1 : Option Addr) (c1 : Nat) (l1 : List Int) (A2 : Option Addr) (c2 : Nat) (l2 : List Int) (r1 : Int) (r2 : Int) (w : World) (hr0_2 : Kd.C k39 w A0_2 l0_2.length l0_2) (hc0_2 : l0_2.length ≤ c0_2) (hr1 : Kd.C (Kd.int .i64) w A1 l1.length l1) (hc1 : l1.length ≤ c1) (hr2 : Kd.C (Kd.int .i64) w A2 l2.length l2) (hc2 : l2.length ≤ c2) (h : spileref11_between.f k a0_0 a0_1 l0_2 a0_3 l1 l2 = some (r1, r2)) :
  Calls Try.prog 46 #[.agg #[.string a0_0, .int .i64 a0_1, .slice A0_2 l0_2.length c0_2, .int .i64 a0_3], .slice A1 l1.length c1, .slice A2 l2.length c2] w fun e w' => e = .returned (.agg #[.int .i64 r1, .int .i64 r2]) ∧ Below w.heap.size w w' := by
 have hu24 := Try.underlying24
 have hu28 := Try.underlying28
 have HR0_2 := Aside0.mk hr0_2
 have HC0_2 := Aside0.mk hc0_2
 clear hr0_2 hc0_2
 have HR1 := Aside0.mk hr1
 have HC1 := Aside0.mk hc1
 clear hr1 hc1
 have HR2 := Aside0.mk hr2
 have HC2 := Aside0.mk hc2
 clear hr2 hc2
 have HB := Aside0.mk (Below.refl w.heap.size w)
 have H : (spileref11_between.l0 k l1 l2 1 a0_0 a0_1 l0_2 a0_3 0 0) = some (r1, r2) := h
 clear h
 have H' := Aside0.mk H
 clear H
 go_enter Try.func46, Try.ntmps46
 go_wp2_with (first | ((with_reducible refine gqD (N := 3) rfl ?_); refine GS.bx (N := 3) (cs := #[.string a0_0, .int .i64 a0_1, .slice A0_2 l0_2.length c0_2, .int .i64 a0_3]) (t := 24) ?_; intro gb436 hg w4 hbox hb; have q_ := GS.q4 (GS.kH HB hb) (Aside0.mk hbox) (GS.kZ hg HB) (GS.kZ hg HB); clear HB; obtain ⟨HB, BK436, GW436, GE436⟩ := q_; clear hb hbox hg) | ((with_reducible refine gqD (N := 6) rfl ?_); refine GS.bx (N := 6) (cs := #[.int .i64 0, .int .i64 0]) (t := 28) ?_; intro gb437 hg w5 hbox hb; have q_ := GS.q7 (GS.kB BK436 hb) (GS.kH HB hb) (Aside0.mk hbox) (GS.kZ hg HB) (GS.kZ hg HB) (Aside0.mk ((by rw [hg]; exact Nat.ne_of_lt (blk_lt (GS.bqX BK436.out)) : gb436 ≠ gb437))) (Aside0.mk ((by rw [hg]; exact Nat.ne_of_gt (blk_lt (GS.bqX BK436.out)) : gb437 ≠ gb436))); clear BK436 HB; obtain ⟨BK436, HB, BK437, GW437, GE437, NB436_437, NB437_436⟩ := q_; clear hb hbox hg) | ((with_reducible refine gqD (N := 7) rfl ?_); refine GS.bx (N := 7) (cs := #[.int .i64 0, .int .i64 0]) (t := 28) ?_; intro gb438 hg w6 hbox hb; have q_ := GS.q10 (GS.kB BK436 hb) (GS.kB BK437 hb) (GS.kH HB hb) (Aside0.mk hbox) (GS.kZ hg HB) (GS.kZ hg HB) (Aside0.mk ((by rw [hg]; exact Nat.ne_of_lt (blk_lt (GS.bqX BK436.out)) : gb436 ≠ gb438))) (Aside0.mk ((by rw [hg]; exact Nat.ne_of_gt (blk_lt (GS.bqX BK436.out)) : gb438 ≠ gb436))) (Aside0.mk ((by rw [hg]; exact Nat.ne_of_lt (blk_lt (GS.bqX BK437.out)) : gb437 ≠ gb438))) (Aside0.mk ((by rw [hg]; exact Nat.ne_of_gt (blk_lt (GS.bqX BK437.out)) : gb438 ≠ gb437))); clear BK436 BK437 HB; obtain ⟨BK436, BK437, HB, BK438, GW438, GE438, NB436_438, NB438_436, NB437_438, NB438_437⟩ := q_; clear hb hbox hg; have hnb7 := NB438_436.out; have hnc7 := NB436_438.out; have hnb8 := NB438_437.out; have hnc8 := NB437_438.out; obtain ⟨hcz9_0, hcz9_1, hfz9_0, hfz9_1⟩ := GS.c2 BK438.out))
 go_loopg [8] k (fun kq v8 w' => ∃ (x8_1 : Int) (x439000_1 : Int) (x439001_1 : Int), v8 = .int .i64 x8_1 ∧ Aside0 (spileref11_between.l0 kq l1 l2 x8_1 a0_0 a0_1 l0_2 a0_3 x439000_1 x439001_1 = some (r1, r2)) ∧ Aside0 (kq ≤ k) ∧ Aside0 (w'.heap[gb436]? = some (.cells #[.string a0_0, .int .i64 a0_1, (.slice A0_2 l0_2.length c0_2), .int .i64 a0_3] 24 (0, 0))) ∧ Aside0 (w'.heap[gb437]? = some (.cells #[.int .i64 0, .int .i64 0] 28 (0, 0))) ∧ Aside0 (w'.heap[gb438]? = some (.cells #[.int .i64 x439000_1, .int .i64 x439001_1] 28 (0, 0))) ∧ Aside0 (Below w.heap.size w w'))
 case atStart => exact ⟨(1), (0), (0), (by first | rfl | (simp; done) | (simp [*]; done)), H', ⟨Nat.le_refl _⟩, ⟨GS.bqX BK436.out⟩, ⟨GS.bqX BK437.out⟩, ⟨GS.bqZ BK438.out⟩, ⟨GS.lB HB.out⟩⟩
 case round =>
  clear H'
  try clear hcz9_0
  try clear hcz9_1
  try clear hfz9_0
  try clear hfz9_1
  obtain ⟨x8_1, x439000_1, x439001_1, rfl, HA, HK1, BK436, BK437, BK438, HB⟩ := hrel
  cases gk with
  | zero => exact absurd HA.out (by simp [spileref11_between.l0])
  | succ k1 =>
   have H := HA.out
   clear HA
   simp only [spileref11_between.l0] at H
   by_cases c10 : x8_1 < (l2.length : Int)
   ·rw [if_pos c10] at H
    have c10b0 : decide (x8_1 < (l2.length : Int)) = true := decide_eq_true c10
    clear c10
    obtain ⟨ji11, hji11⟩ : ∃ j_ : Int, (wrap64 (x8_1 - 1)) = j_ := ⟨_, rfl⟩
    replace H : (if 0 ≤ (ji11) then (if (ji11) < (l2.length : Int) then (if 0 ≤ x8_1 then ((spileref11_Of.f k1 a0_0 a0_1 l0_2 a0_3 l1 (rd l2 (ji11)) (rd l2 x8_1)).bind fun bt441 => (spileref11_between.l0 k1 l1 l2 (wrap64 (x8_1 + 1)) a0_0 a0_1 l0_2 a0_3 (wrap64 (x439000_1 + bt441.1)) (wrap64 (x439001_1 + bt441.2)))) else (none)) else (none)) else (none)) = some (r1, r2) := by first | (rw [hji11] at H; exact H) | (simp only [hji11] at H ⊢; exact H)
    have hji11w : (IntKind.i64.wrap (x8_1 - 1)) = ji11 := (i64_w _).trans hji11
    by_cases c12 : 0 ≤ (ji11)
    ·rw [if_pos c12] at H
     have c12b0 : decide (0 ≤ (ji11)) = true := decide_eq_true c12
     clear c12
     by_cases c13 : (ji11) < (l2.length : Int)
     ·rw [if_pos c13] at H
      have c13b0 : decide ((ji11) < (l2.length : Int)) = true := decide_eq_true c13
      clear c13
      by_cases c14 : 0 ≤ x8_1
      ·rw [if_pos c14] at H
       have c14b0 : decide (0 ≤ x8_1) = true := decide_eq_true c14
       clear c14
       replace H := Option.bind_eq_some_iff.mp H
       obtain ⟨⟨t441, t442⟩, A150, H⟩ := H
       try (set_option simprocs false in dsimp only at H)
       have A15 := Aside0.mk A150
       clear A150
       have H' := Aside0.mk H
       clear H
       try go_wp2
       have q_ := GS.q4 (Aside0.mk (bqD BK436.out)) (Aside0.mk (bqD BK437.out)) (Aside0.mk (bqD BK438.out)) (Aside0.mk (lqD HB.out))
       clear BK436 BK437 BK438 HB
       obtain ⟨BK436, BK437, BK438, HB⟩ := q_
       have p439 : 0 ≤ ((ji11) : Int) := of_decide_eq_true (by first | (with_reducible assumption) | assumption)
       have q439 : (ji11) < (l2.length : Int) := of_decide_eq_true (by first | (with_reducible assumption) | assumption)
       obtain ⟨ad439, e439, hx439_0⟩ := Kd.at_int HR2.out (ji11) p439 q439
       have hw439_0 := hx439_0
       cases e439
       replace hx439_0 := (HB.out.cell (World.block_lt_of_cell? w _ hx439_0)).trans hx439_0
       replace p439 := eq_true p439
       replace q439 := eq_true q439
       have p440 : 0 ≤ (x8_1 : Int) := of_decide_eq_true (by first | (with_reducible assumption) | assumption)
       have q440 : x8_1 < (l2.length : Int) := of_decide_eq_true (by first | (with_reducible assumption) | assumption)
       obtain ⟨ad440, e440, hx440_0⟩ := Kd.at_int HR2.out x8_1 p440 q440
       have hw440_0 := hx440_0
       obtain rfl : ad439 = ad440 := (by injection e440)
       replace hx440_0 := (HB.out.cell (World.block_lt_of_cell? w _ hx440_0)).trans hx440_0
       replace p440 := eq_true p440
       replace q440 := eq_true q440
       refine start_ (n := 14) (S := fun w' => True) (ds := []) #[false, false, false, false, false, false, false, false, false, false, false, false, false, false] (by kernel_rfl) rfl rfl trivial (fun hHeld => ?_); refine with_tabW spileref11_between.tab5 spileref11_between.bits5 (fun HT_ HW_ => ?_)
       generalize wr.drew = w16 at BK436 BK437 BK438 HB hx439_0 hx440_0 hHeld ⊢
       refine GS.pu 1 (some 18) HT_.out ?_
       refine GS.pu 2 (some 19) HT_.out ?_
       refine GS.pu 3 (some 20) HT_.out ?_
       refine GS.pu 7 (some 24) HT_.out ?_
       refine GS.pu 8 (some 25) HT_.out ?_
       refine inv_at [0, 4, 5, 6, 9, 10, 11, 12, 13] (fun a0_ b a w' => ∃ (gb443 : Nat) (m12_ : Value), a = putSel a0_ b [(0, 17, .agg #[.string a0_0, .int .i64 a0_1, .slice A0_2 l0_2.length c0_2, .int .i64 a0_3]), (4, 21, .int .i64 ji11), (5, 22, .pointer (some (ad439.add ((ji11)).toNat))), (6, 23, .int .i64 (rd l2 (ji11))), (9, 26, .pointer (some (ad439.add (x8_1).toNat))), (10, 27, .int .i64 (rd l2 x8_1)), (11, 28, .agg #[.int .i64 t441, .int .i64 t442]), (12, 9, m12_)] ∧ (w'.heap[gb436]? = some (.cells #[.string a0_0, .int .i64 a0_1, .slice A0_2 l0_2.length c0_2, .int .i64 a0_3] 24 (0, 0))) ∧ (w'.heap[gb437]? = some (.cells #[.int .i64 0, .int .i64 0] 28 (0, 0))) ∧ (w'.heap[gb438]? = some (.cells #[.int .i64 x439000_1, .int .i64 x439001_1] 28 (0, 0))) ∧ (Below w.heap.size w w') ∧ (b 12 = true → b 13 = false → w'.heap[gb443]? = some (.cells #[.int .i64 0, .int .i64 0] 28 (0, 0))) ∧ (b 12 = true → w.heap.size ≤ gb443) ∧ (b 12 = true → w.heap.size ≤ gb443) ∧ (b 12 = true → gb436 ≠ gb443) ∧ (b 12 = true → gb443 ≠ gb436) ∧ (b 12 = true → gb437 ≠ gb443) ∧ (b 12 = true → gb443 ≠ gb437) ∧ (b 12 = true → gb438 ≠ gb443) ∧ (b 12 = true → gb443 ≠ gb438) ∧ (b 13 = true → w'.heap[gb443]? = some (.cells #[.int .i64 t441, .int .i64 t442] 28 (0, 0))) ∧ (b 12 = true → (m12_ : Value) = .pointer (some ⟨gb443, 0, none⟩))) HT_.out HW_.out (by kernel_rfl) (by kernel_rfl) ?_ ?_ ?_
       ·exact ⟨0, .bool false, by simp only [putSel, Bool.false_eq_true, if_false], BK436.out, BK437.out, BK438.out, HB.out, fun h_ => absurd h_ (by decide), fun h_ => absurd h_ (by decide), fun h_ => absurd h_ (by decide), fun h_ => absurd h_ (by decide), fun h_ => absurd h_ (by decide), fun h_ => absurd h_ (by decide), fun h_ => absurd h_ (by decide), fun h_ => absurd h_ (by decide), fun h_ => absurd h_ (by decide), fun h_ => absurd h_ (by decide), fun h_ => absurd h_ (by decide)⟩
       ·skip
        clear BK436 BK437 BK438 HB
        refine steps_cons ?_ ?_
        ·rintro b a w' ⟨gb443, m12_, ha, Q_BK436, Q_BK437, Q_BK438, Q_HB, Q_BK443, Q_GW443, Q_GE443, Q_NB436_443, Q_NB443_436, Q_NB437_443, Q_NB443_437, Q_NB438_443, Q_NB443_438, Q_BK443_e13, Q_X12_⟩ hb_ hon hoff
         refine ⟨_, rfl, fun K hK => ?_⟩
         have e3 : a.tmps[3]? = some (.pointer (some ⟨gb436, 0, none⟩)) := by rw [ha]; exact (putSel_off rfl).trans rfl
         replace ha := Aside0.mk ha
         have BK436 := Aside0.mk Q_BK436
         have BK437 := Aside0.mk Q_BK437
         have BK438 := Aside0.mk Q_BK438
         have HB := Aside0.mk Q_HB
         have hc0_ : w'.cell? ⟨gb436, 0, none⟩ = some (.string a0_0) := (bqC BK436.out 0).trans rfl
         have hc1_ : w'.cell? ⟨gb436, 1, none⟩ = some (.int .i64 a0_1) := (bqC BK436.out 1).trans rfl
         have hc2_ : w'.cell? ⟨gb436, 2, none⟩ = some (.slice A0_2 l0_2.length c0_2) := (bqC BK436.out 2).trans rfl
         have hc3_ : w'.cell? ⟨gb436, 3, none⟩ = some (.int .i64 a0_3) := (bqC BK436.out 3).trans rfl
         refine value_ (w1 := w') (v := .agg #[.string a0_0, .int .i64 a0_1, .slice A0_2 l0_2.length c0_2, .int .i64 a0_3]) (by rfl) rfl ?_ ?_
         ·go_simp
          (try simp only [i64_w])
          try rfl
         refine hK.out _ _ ⟨gb443, m12_, (by rw [ha.out]; exact putSel_upk 0 hb_ rfl rfl rfl), Q_BK436, Q_BK437, Q_BK438, Q_HB, Q_BK443, Q_GW443, Q_GE443, Q_NB436_443, Q_NB443_436, Q_NB437_443, Q_NB443_437, Q_NB438_443, Q_NB443_438, fun h0_ => absurd ((hoff 13 (by kernel_rfl)).symm.trans h0_) (by decide), Q_X12_⟩
        refine steps_cons ?_ ?_
        ·rintro b a w' ⟨gb443, m12_, ha, Q_BK436, Q_BK437, Q_BK438, Q_HB, Q_BK443, Q_GW443, Q_GE443, Q_NB436_443, Q_NB443_436, Q_NB437_443, Q_NB443_437, Q_NB438_443, Q_NB443_438, Q_BK443_e13, Q_X12_⟩ hb_ hon hoff
         refine ⟨_, rfl, fun K hK => ?_⟩
         have e20 : a.tmps[20]? = some (.int .i64 x8_1) := by rw [ha]; exact (putSel_off rfl).trans rfl
         replace ha := Aside0.mk ha
         have BK436 := Aside0.mk Q_BK436
         have BK437 := Aside0.mk Q_BK437
         have BK438 := Aside0.mk Q_BK438
         have HB := Aside0.mk Q_HB
         refine value_ (w1 := w') (v := .int .i64 ji11) (by rfl) rfl ?_ ?_
         ·go_simp
          (try simp only [i64_w])
          try rfl
         refine hK.out _ _ ⟨gb443, m12_, (by rw [ha.out]; exact putSel_upk 1 hb_ rfl rfl rfl), Q_BK436, Q_BK437, Q_BK438, Q_HB, Q_BK443, Q_GW443, Q_GE443, Q_NB436_443, Q_NB443_436, Q_NB437_443, Q_NB443_437, Q_NB438_443, Q_NB443_438, fun h0_ => absurd ((hoff 13 (by kernel_rfl)).symm.trans h0_) (by decide), Q_X12_⟩
        refine steps_cons ?_ ?_
        ·rintro b a w' ⟨gb443, m12_, ha, Q_BK436, Q_BK437, Q_BK438, Q_HB, Q_BK443, Q_GW443, Q_GE443, Q_NB436_443, Q_NB443_436, Q_NB437_443, Q_NB443_437, Q_NB438_443, Q_NB443_438, Q_BK443_e13, Q_X12_⟩ hb_ hon hoff
         refine ⟨_, rfl, fun K hK => ?_⟩
         have e19 : a.tmps[19]? = some (.slice (some ad439) l2.length c2) := by rw [ha]; exact (putSel_off rfl).trans rfl
         have e21 : a.tmps[21]? = some (.int .i64 ji11) := by rw [ha]; exact putSel_on (e := (4, 21, .int .i64 ji11)) 1 rfl rfl (hon 4 (by kernel_rfl)) rfl
         replace ha := Aside0.mk ha
         have BK436 := Aside0.mk Q_BK436
         have BK437 := Aside0.mk Q_BK437
         have BK438 := Aside0.mk Q_BK438
         have HB := Aside0.mk Q_HB
         have hs0_ : w'.cell? (ad439.add ((ji11)).toNat) = some (.int .i64 (rd l2 (ji11))) := ((HB.out.cell (World.block_lt_of_cell? w _ hw439_0)).trans hw439_0)
         refine value_ (w1 := w') (v := .pointer (some (ad439.add ((ji11)).toNat))) (by rfl) rfl ?_ ?_
         ·go_simp
          (try simp only [i64_w])
          try rfl
         refine hK.out _ _ ⟨gb443, m12_, (by rw [ha.out]; exact putSel_upk 2 hb_ rfl rfl rfl), Q_BK436, Q_BK437, Q_BK438, Q_HB, Q_BK443, Q_GW443, Q_GE443, Q_NB436_443, Q_NB443_436, Q_NB437_443, Q_NB443_437, Q_NB438_443, Q_NB443_438, fun h0_ => absurd ((hoff 13 (by kernel_rfl)).symm.trans h0_) (by decide), Q_X12_⟩
        refine steps_cons ?_ ?_
        ·rintro b a w' ⟨gb443, m12_, ha, Q_BK436, Q_BK437, Q_BK438, Q_HB, Q_BK443, Q_GW443, Q_GE443, Q_NB436_443, Q_NB443_436, Q_NB437_443, Q_NB443_437, Q_NB438_443, Q_NB443_438, Q_BK443_e13, Q_X12_⟩ hb_ hon hoff
         refine ⟨_, rfl, fun K hK => ?_⟩
         have e22 : a.tmps[22]? = some (.pointer (some (ad439.add ((ji11)).toNat))) := by rw [ha]; exact putSel_on (e := (5, 22, .pointer (some (ad439.add ((ji11)).toNat)))) 2 rfl rfl (hon 5 (by kernel_rfl)) rfl
         replace ha := Aside0.mk ha
         have BK436 := Aside0.mk Q_BK436
         have BK437 := Aside0.mk Q_BK437
         have BK438 := Aside0.mk Q_BK438
         have HB := Aside0.mk Q_HB
         have hs0_ : w'.cell? (ad439.add ((ji11)).toNat) = some (.int .i64 (rd l2 (ji11))) := ((HB.out.cell (World.block_lt_of_cell? w _ hw439_0)).trans hw439_0)
         refine value_ (w1 := w') (v := .int .i64 (rd l2 (ji11))) (by rfl) rfl ?_ ?_
         ·go_simp
          (try simp only [i64_w])
          try rfl
         refine hK.out _ _ ⟨gb443, m12_, (by rw [ha.out]; exact putSel_upk 3 hb_ rfl rfl rfl), Q_BK436, Q_BK437, Q_BK438, Q_HB, Q_BK443, Q_GW443, Q_GE443, Q_NB436_443, Q_NB443_436, Q_NB437_443, Q_NB443_437, Q_NB438_443, Q_NB443_438, fun h0_ => absurd ((hoff 13 (by kernel_rfl)).symm.trans h0_) (by decide), Q_X12_⟩
        refine steps_cons ?_ ?_
        ·rintro b a w' ⟨gb443, m12_, ha, Q_BK436, Q_BK437, Q_BK438, Q_HB, Q_BK443, Q_GW443, Q_GE443, Q_NB436_443, Q_NB443_436, Q_NB437_443, Q_NB443_437, Q_NB438_443, Q_NB443_438, Q_BK443_e13, Q_X12_⟩ hb_ hon hoff
         refine ⟨_, rfl, fun K hK => ?_⟩
         have e24 : a.tmps[24]? = some (.slice (some ad439) l2.length c2) := by rw [ha]; exact (putSel_off rfl).trans rfl
         have e25 : a.tmps[25]? = some (.int .i64 x8_1) := by rw [ha]; exact (putSel_off rfl).trans rfl
         replace ha := Aside0.mk ha
         have BK436 := Aside0.mk Q_BK436
         have BK437 := Aside0.mk Q_BK437
         have BK438 := Aside0.mk Q_BK438
         have HB := Aside0.mk Q_HB
         have hs1_ : w'.cell? (ad439.add (x8_1).toNat) = some (.int .i64 (rd l2 x8_1)) := ((HB.out.cell (World.block_lt_of_cell? w _ hw440_0)).trans hw440_0)
         refine value_ (w1 := w') (v := .pointer (some (ad439.add (x8_1).toNat))) (by rfl) rfl ?_ ?_
         ·go_simp
          (try simp only [i64_w])
          try rfl
         refine hK.out _ _ ⟨gb443, m12_, (by rw [ha.out]; exact putSel_upk 4 hb_ rfl rfl rfl), Q_BK436, Q_BK437, Q_BK438, Q_HB, Q_BK443, Q_GW443, Q_GE443, Q_NB436_443, Q_NB443_436, Q_NB437_443, Q_NB443_437, Q_NB438_443, Q_NB443_438, fun h0_ => absurd ((hoff 13 (by kernel_rfl)).symm.trans h0_) (by decide), Q_X12_⟩
        refine steps_cons ?_ ?_
        ·rintro b a w' ⟨gb443, m12_, ha, Q_BK436, Q_BK437, Q_BK438, Q_HB, Q_BK443, Q_GW443, Q_GE443, Q_NB436_443, Q_NB443_436, Q_NB437_443, Q_NB443_437, Q_NB438_443, Q_NB443_438, Q_BK443_e13, Q_X12_⟩ hb_ hon hoff
         refine ⟨_, rfl, fun K hK => ?_⟩
         have e26 : a.tmps[26]? = some (.pointer (some (ad439.add (x8_1).toNat))) := by rw [ha]; exact putSel_on (e := (9, 26, .pointer (some (ad439.add (x8_1).toNat)))) 4 rfl rfl (hon 9 (by kernel_rfl)) rfl
         replace ha := Aside0.mk ha
         have BK436 := Aside0.mk Q_BK436
         have BK437 := Aside0.mk Q_BK437
         have BK438 := Aside0.mk Q_BK438
         have HB := Aside0.mk Q_HB
         have hs1_ : w'.cell? (ad439.add (x8_1).toNat) = some (.int .i64 (rd l2 x8_1)) := ((HB.out.cell (World.block_lt_of_cell? w _ hw440_0)).trans hw440_0)
         refine value_ (w1 := w') (v := .int .i64 (rd l2 x8_1)) (by rfl) rfl ?_ ?_
         ·go_simp
          (try simp only [i64_w])
          try rfl
         refine hK.out _ _ ⟨gb443, m12_, (by rw [ha.out]; exact putSel_upk 5 hb_ rfl rfl rfl), Q_BK436, Q_BK437, Q_BK438, Q_HB, Q_BK443, Q_GW443, Q_GE443, Q_NB436_443, Q_NB443_436, Q_NB437_443, Q_NB443_437, Q_NB438_443, Q_NB443_438, fun h0_ => absurd ((hoff 13 (by kernel_rfl)).symm.trans h0_) (by decide), Q_X12_⟩
        refine steps_cons ?_ ?_
        ·rintro b a w' ⟨gb443, m12_, ha, Q_BK436, Q_BK437, Q_BK438, Q_HB, Q_BK443, Q_GW443, Q_GE443, Q_NB436_443, Q_NB443_436, Q_NB437_443, Q_NB443_437, Q_NB438_443, Q_NB443_438, Q_BK443_e13, Q_X12_⟩ hb_ hon hoff
         refine ⟨_, rfl, fun K hK => ?_⟩
         have e17 : a.tmps[17]? = some (.agg #[.string a0_0, .int .i64 a0_1, .slice A0_2 l0_2.length c0_2, .int .i64 a0_3]) := by rw [ha]; exact putSel_on (e := (0, 17, .agg #[.string a0_0, .int .i64 a0_1, .slice A0_2 l0_2.length c0_2, .int .i64 a0_3])) 0 rfl rfl (hon 0 (by kernel_rfl)) rfl
         have e18 : a.tmps[18]? = some (.slice A1 l1.length c1) := by rw [ha]; exact (putSel_off rfl).trans rfl
         have e23 : a.tmps[23]? = some (.int .i64 (rd l2 (ji11))) := by rw [ha]; exact putSel_on (e := (6, 23, .int .i64 (rd l2 (ji11)))) 3 rfl rfl (hon 6 (by kernel_rfl)) rfl
         have e27 : a.tmps[27]? = some (.int .i64 (rd l2 x8_1)) := by rw [ha]; exact putSel_on (e := (10, 27, .int .i64 (rd l2 x8_1))) 5 rfl rfl (hon 10 (by kernel_rfl)) rfl
         replace ha := Aside0.mk ha
         have BK436 := Aside0.mk Q_BK436
         have BK437 := Aside0.mk Q_BK437
         have BK438 := Aside0.mk Q_BK438
         have HB := Aside0.mk Q_HB
         refine goes_ Try.func59 (by kernel_rfl) rfl #[.agg #[.string a0_0, .int .i64 a0_1, .slice A0_2 l0_2.length c0_2, .int .i64 a0_3], .slice A1 l1.length c1, .int .i64 (rd l2 (ji11)), .int .i64 (rd l2 x8_1)] (by rfl) rfl rfl (by (try simp only [List.map_toArray, List.map_cons, List.map_nil]); first | done | (go_simp; done) | (simp only [hji11]; rfl) | rfl | (simp only [List.length_drop, List.length_take]; rfl)) ?_
         with_reducible refine (spileref11_Of.calls k1 a0_0 a0_1 _ _ l0_2 a0_3 _ _ l1 (rd l2 (ji11)) (rd l2 x8_1) t441 t442 _ ?side1 ?side2 ?side3 ?side4 A15.out).mono ?_
         (case side1 => exact GS.rC (Kd.C_below HR0_2.out HB.out))
         (case side2 => exact HC0_2.out)
         (case side3 => exact GS.rC (Kd.C_below HR1.out HB.out))
         (case side4 => exact HC1.out)
         rintro e w17 ⟨rfl, hb⟩
         refine ⟨_, rfl, ?_⟩
         have n0_ := Aside0.mk (bqB (GS.bqX BK436.out) hb)
         have n1_ := Aside0.mk (bqB (GS.bqX BK437.out) hb)
         have n2_ := Aside0.mk (bqB (GS.bqX BK438.out) hb)
         have n3_ := Aside0.mk (lqT (GS.lB HB.out) hb)
         have z_BK443 := fun (h0_ : b 12 = true) (h1_ : b 13 = false) => (show w17.heap[gb443]? = some (.cells #[.int .i64 0, .int .i64 0] 28 (0, 0)) from by first | exact (bqB (GS.bqX (Q_BK443 h0_ h1_)) hb))
         clear BK436
         clear BK437
         clear BK438
         clear HB
         have BK436 := n0_
         have BK437 := n1_
         have BK438 := n2_
         have HB := n3_
         clear n0_ n1_ n2_ n3_
         (try clear hb)
         refine hK.out _ _ ⟨gb443, m12_, (by rw [ha.out]; exact putSel_upk 6 hb_ rfl rfl rfl), (GS.bqX BK436.out), (GS.bqX BK437.out), (GS.bqX BK438.out), (GS.lB HB.out), z_BK443, Q_GW443, Q_GE443, Q_NB436_443, Q_NB443_436, Q_NB437_443, Q_NB443_437, Q_NB438_443, Q_NB443_438, fun h0_ => absurd ((hoff 13 (by kernel_rfl)).symm.trans h0_) (by decide), Q_X12_⟩
        refine steps_cons ?_ ?_
        ·rintro b a w' ⟨gb443, m12_, ha, Q_BK436, Q_BK437, Q_BK438, Q_HB, Q_BK443, Q_GW443, Q_GE443, Q_NB436_443, Q_NB443_436, Q_NB437_443, Q_NB443_437, Q_NB438_443, Q_NB443_438, Q_BK443_e13, Q_X12_⟩ hb_ hon hoff
         refine ⟨_, rfl, fun K hK => ?_⟩
         replace ha := Aside0.mk ha
         have BK436 := Aside0.mk Q_BK436
         have BK437 := Aside0.mk Q_BK437
         have BK438 := Aside0.mk Q_BK438
         have HB := Aside0.mk Q_HB
         refine box_step ?hg (N := 9) ?hd (cs := #[.int .i64 0, .int .i64 0]) (t := 28) ?hr ?_; (case hd => rfl); (case hg => rfl); (case hr => first | (go_simp; done) | (go_simp; rfl))
         intro gb443 hg w17 hbox hb
         have q_ := GS.q13 (GS.kB BK436 hb) (GS.kB BK437 hb) (GS.kB BK438 hb) (GS.kH HB hb) (Aside0.mk hbox) (GS.kZ hg HB) (GS.kZ hg HB) (Aside0.mk ((by rw [hg]; exact Nat.ne_of_lt (blk_lt (GS.bqX BK436.out)) : gb436 ≠ gb443))) (Aside0.mk ((by rw [hg]; exact Nat.ne_of_gt (blk_lt (GS.bqX BK436.out)) : gb443 ≠ gb436))) (Aside0.mk ((by rw [hg]; exact Nat.ne_of_lt (blk_lt (GS.bqX BK437.out)) : gb437 ≠ gb443))) (Aside0.mk ((by rw [hg]; exact Nat.ne_of_gt (blk_lt (GS.bqX BK437.out)) : gb443 ≠ gb437))) (Aside0.mk ((by rw [hg]; exact Nat.ne_of_lt (blk_lt (GS.bqX BK438.out)) : gb438 ≠ gb443))) (Aside0.mk ((by rw [hg]; exact Nat.ne_of_gt (blk_lt (GS.bqX BK438.out)) : gb443 ≠ gb438)))
         clear BK436 BK437 BK438 HB
         obtain ⟨BK436, BK437, BK438, HB, BK443, GW443, GE443, NB436_443, NB443_436, NB437_443, NB443_437, NB438_443, NB443_438⟩ := q_
         clear hb hbox hg
         refine hK.out _ _ ⟨gb443, (.pointer (some ⟨gb443, 0, none⟩)), (by rw [ha.out]; exact putSel_upk 7 hb_ rfl rfl rfl), (GS.bqX BK436.out), (GS.bqX BK437.out), (GS.bqX BK438.out), (GS.lB HB.out), fun _ _ => (GS.bqX BK443.out), fun _ => GW443.out, fun _ => GE443.out, fun _ => NB436_443.out, fun _ => NB443_436.out, fun _ => NB437_443.out, fun _ => NB443_437.out, fun _ => NB438_443.out, fun _ => NB443_438.out, fun h0_ => absurd ((hoff 13 (by kernel_rfl)).symm.trans h0_) (by decide), fun _ => rfl⟩
        refine steps_cons ?_ ?_
        ·rintro b a w' ⟨gb443, m12_, ha, Q_BK436, Q_BK437, Q_BK438, Q_HB, Q_BK443, Q_GW443, Q_GE443, Q_NB436_443, Q_NB443_436, Q_NB437_443, Q_NB443_437, Q_NB438_443, Q_NB443_438, Q_BK443_e13, Q_X12_⟩ hb_ hon hoff
         refine ⟨_, rfl, fun K hK => ?_⟩
         have e9 : a.tmps[9]? = some (m12_) := by rw [ha]; exact putSel_on (e := (12, 9, m12_)) 7 rfl rfl (hon 12 (by kernel_rfl)) rfl
         rw [Q_X12_ (hon 12 (by kernel_rfl))] at e9
         have e28 : a.tmps[28]? = some (.agg #[.int .i64 t441, .int .i64 t442]) := by rw [ha]; exact putSel_on (e := (11, 28, .agg #[.int .i64 t441, .int .i64 t442])) 6 rfl rfl (hon 11 (by kernel_rfl)) rfl
         replace ha := Aside0.mk ha
         have BK436 := Aside0.mk Q_BK436
         have BK437 := Aside0.mk Q_BK437
         have BK438 := Aside0.mk Q_BK438
         have HB := Aside0.mk Q_HB
         have BK443 := Aside0.mk (Q_BK443 (hon 12 (by kernel_rfl)) hb_)
         have GW443 := Aside0.mk (Q_GW443 (hon 12 (by kernel_rfl)))
         have GE443 := Aside0.mk (Q_GE443 (hon 12 (by kernel_rfl)))
         have NB436_443 := Aside0.mk (Q_NB436_443 (hon 12 (by kernel_rfl)))
         have NB443_436 := Aside0.mk (Q_NB443_436 (hon 12 (by kernel_rfl)))
         have NB437_443 := Aside0.mk (Q_NB437_443 (hon 12 (by kernel_rfl)))
         have NB443_437 := Aside0.mk (Q_NB443_437 (hon 12 (by kernel_rfl)))
         have NB438_443 := Aside0.mk (Q_NB438_443 (hon 12 (by kernel_rfl)))
         have NB443_438 := Aside0.mk (Q_NB443_438 (hon 12 (by kernel_rfl)))
         have hs20 : w'.cell? ⟨gb443, 0, none⟩ = some (.int .i64 0) := (bqC BK443.out 0).trans rfl
         have hfs20 := bqF BK443.out 0
         have hns20_0 := NB436_443.out
         have hns20_1 := NB437_443.out
         have hns20_2 := NB438_443.out
         have hms20_0 := NB443_436.out
         have hms20_1 := NB443_437.out
         have hms20_2 := NB443_438.out
         have hs21 : w'.cell? ⟨gb443, 1, none⟩ = some (.int .i64 0) := (bqC BK443.out 1).trans rfl
         have hfs21 := bqF BK443.out 1
         have hns21_0 := NB436_443.out
         have hns21_1 := NB437_443.out
         have hns21_2 := NB438_443.out
         have hms21_0 := NB443_436.out
         have hms21_1 := NB443_437.out
         have hms21_2 := NB443_438.out
         refine skip_ (w1 := ?_) (by rfl) rfl ?_ ?_
         rotate_left
         ·go_simp
          rfl
         refine hK.out _ _ ⟨gb443, m12_, (by rw [ha.out]; exact putSel_none (v := undef) rfl), (GS.bqX BK436.out), (GS.bqX BK437.out), (GS.bqX BK438.out), (GS.lB HB.out), fun _ h1_ => absurd ((up_self b 13).symm.trans h1_) (by decide), fun _ => GW443.out, fun _ => GE443.out, fun _ => NB436_443.out, fun _ => NB443_436.out, fun _ => NB437_443.out, fun _ => NB443_437.out, fun _ => NB438_443.out, fun _ => NB443_438.out, fun _ => (GS.bqZ BK443.out), Q_X12_⟩
        exact steps_nil
       rintro b a w21 hall ⟨gb443, m12_, ha, Q_BK436, Q_BK437, Q_BK438, Q_HB, Q_BK443, Q_GW443, Q_GE443, Q_NB436_443, Q_NB443_436, Q_NB437_443, Q_NB443_437, Q_NB438_443, Q_NB443_438, Q_BK443_e13, Q_X12_⟩
       clear BK436 BK437 BK438 HB
       have hb0_ := hall 0 (by kernel_rfl)
       have hb4_ := hall 4 (by kernel_rfl)
       have hb5_ := hall 5 (by kernel_rfl)
       have hb6_ := hall 6 (by kernel_rfl)
       have hb9_ := hall 9 (by kernel_rfl)
       have hb10_ := hall 10 (by kernel_rfl)
       have hb11_ := hall 11 (by kernel_rfl)
       have hb12_ := hall 12 (by kernel_rfl)
       have hb13_ := hall 13 (by kernel_rfl)
       subst ha
       obtain rfl := Q_X12_ hb12_
       simp only [putSel, hb0_, hb4_, hb5_, hb6_, hb9_, hb10_, hb11_, hb12_, hb13_, if_true, Act.put, List.setIfInBounds_toArray, List.set_cons_zero, List.set_cons_succ]
       have BK436 := Aside0.mk Q_BK436
       clear Q_BK436
       have BK437 := Aside0.mk Q_BK437
       clear Q_BK437
       have BK438 := Aside0.mk Q_BK438
       clear Q_BK438
       have HB := Aside0.mk Q_HB
       clear Q_HB
       clear Q_BK443
       have GW443 := Aside0.mk (Q_GW443 hb12_)
       clear Q_GW443
       have GE443 := Aside0.mk (Q_GE443 hb12_)
       clear Q_GE443
       have NB436_443 := Aside0.mk (Q_NB436_443 hb12_)
       clear Q_NB436_443
       have NB443_436 := Aside0.mk (Q_NB443_436 hb12_)
       clear Q_NB443_436
       have NB437_443 := Aside0.mk (Q_NB437_443 hb12_)
       clear Q_NB437_443
       have NB443_437 := Aside0.mk (Q_NB443_437 hb12_)
       clear Q_NB443_437
       have NB438_443 := Aside0.mk (Q_NB438_443 hb12_)
       clear Q_NB438_443
       have NB443_438 := Aside0.mk (Q_NB443_438 hb12_)
       clear Q_NB443_438
       have BK443 := Aside0.mk (Q_BK443_e13 hb13_)
       clear Q_BK443_e13
       clear hall hb0_ hb4_ hb5_ hb6_ hb9_ hb10_ hb11_ hb12_ hb13_
       try go_wp2
       have q_ := GS.q5 (Aside0.mk (bqD BK436.out)) (Aside0.mk (bqD BK437.out)) (Aside0.mk (bqD BK438.out)) (Aside0.mk (bqD BK443.out)) (Aside0.mk (lqD HB.out))
       clear BK436 BK437 BK438 BK443 HB
       obtain ⟨BK436, BK437, BK438, BK443, HB⟩ := q_
       refine start_ (n := 14) (S := fun w' => w'.cell? ⟨gb443, 0, none⟩ = some (.int .i64 t441) ∧ w'.cell? ⟨gb443, 1, none⟩ = some (.int .i64 t442)) (ds := []) #[false, false, false, false, false, false, false, false, false, false, false, false, false, false] (by kernel_rfl) rfl rfl ⟨(bqC BK443.out 0).trans rfl, (bqC BK443.out 1).trans rfl⟩ (fun hHeld => ?_)
       generalize w21.drew = w22 at BK436 BK437 BK438 BK443 HB hHeld ⊢
       refine pure_ (i := 0) (N := some 29) (v := ?_) (a' := ?_) #[true, false, false, false, false, false, false, false, false, false, false, false, false, false] rfl rfl (by kernel_rfl) (fun _ _ _ h => h) (Or.inl ⟨by rfl, ?_⟩) ?_ ?_
       rotate_left
       ·intro w'
        go_simp
        with_reducible rfl
       rotate_left
       ·simp only [Act.put, List.setIfInBounds_toArray, List.set_cons_zero, List.set_cons_succ, i64_w, i32_w]
        rfl
       refine pure_ (i := 2) (N := some 31) (v := ?_) (a' := ?_) #[true, false, true, false, false, false, false, false, false, false, false, false, false, false] rfl rfl (by kernel_rfl) (fun _ _ _ h => h) (Or.inl ⟨by rfl, ?_⟩) ?_ ?_
       rotate_left
       ·intro w'
        go_simp
        with_reducible rfl
       rotate_left
       ·simp only [Act.put, List.setIfInBounds_toArray, List.set_cons_zero, List.set_cons_succ, i64_w, i32_w]
        rfl
       refine pure_ (i := 5) (N := some 34) (v := ?_) (a' := ?_) #[true, false, true, false, false, true, false, false, false, false, false, false, false, false] rfl rfl (by kernel_rfl) (fun _ _ _ h => h) (Or.inl ⟨by rfl, ?_⟩) ?_ ?_
       rotate_left
       ·intro w'
        go_simp
        with_reducible rfl
       rotate_left
       ·simp only [Act.put, List.setIfInBounds_toArray, List.set_cons_zero, List.set_cons_succ, i64_w, i32_w]
        rfl
       refine pure_ (i := 7) (N := some 36) (v := ?_) (a' := ?_) #[true, false, true, false, false, true, false, true, false, false, false, false, false, false] rfl rfl (by kernel_rfl) (fun _ _ _ h => h) (Or.inl ⟨by rfl, ?_⟩) ?_ ?_
       rotate_left
       ·intro w'
        go_simp
        with_reducible rfl
       rotate_left
       ·simp only [Act.put, List.setIfInBounds_toArray, List.set_cons_zero, List.set_cons_succ, i64_w, i32_w]
        rfl
       refine take_ (i := 3) (N := some 32) (v := ?_) (a' := ?_) #[true, false, true, true, false, true, false, true, false, false, false, false, false, false] rfl rfl (by kernel_rfl) (fun _ _ _ h => h) (Or.inl ⟨by rfl, ?_⟩) hHeld ?_ ?_
       rotate_left
       ·rintro w' ⟨hsa, hsb⟩
        go_simp
        with_reducible rfl
       rotate_left
       ·simp only [Act.put, List.setIfInBounds_toArray, List.set_cons_zero, List.set_cons_succ, i64_w, i32_w]
        rfl
       refine take_ (i := 8) (N := some 37) (v := ?_) (a' := ?_) #[true, false, true, true, false, true, false, true, true, false, false, false, false, false] rfl rfl (by kernel_rfl) (fun _ _ _ h => h) (Or.inl ⟨by rfl, ?_⟩) hHeld ?_ ?_
       rotate_left
       ·rintro w' ⟨hsa, hsb⟩
        go_simp
        with_reducible rfl
       rotate_left
       ·simp only [Act.put, List.setIfInBounds_toArray, List.set_cons_zero, List.set_cons_succ, i64_w, i32_w]
        rfl
       have hsA0 : w22.cell? ⟨gb438, 0, none⟩ = some (.int .i64 x439000_1) := (bqC BK438.out 0).trans rfl
       have hsA1 : w22.cell? ⟨gb438, 1, none⟩ = some (.int .i64 x439001_1) := (bqC BK438.out 1).trans rfl
       refine GS.joinA 4 #[true, true, true, true, true, true, true, true, true, true, false, false, false, false] [(30, .int .i64 x439000_1), (33, .int .i64 (wrap64 (x439000_1 + t441))), (35, .int .i64 x439001_1), (38, .int .i64 (wrap64 (x439001_1 + t442)))] ?_ (fun hX => ?_)
       rotate_left
       ·refine two_ (i := 1) (j := 6) (Ni := some 30) (Nj := some 35) #[true, true, true, true, false, true, false, true, true, false, false, false, false, false] #[true, false, true, true, false, true, true, true, true, false, false, false, false, false] rfl rfl rfl rfl (by kernel_rfl) (by decide) (by decide) (fun K hK => ?_) (fun K hK => ?_)
        ·refine value_ (w1 := w22) (v := .int .i64 x439000_1) (by rfl) rfl ?_ ?_
         ·go_simp
          (try rfl)
         refine hK.out _ _ hHeld (fun hHeld => ?_)
         clear hK K
         refine norm_ (a' := ?_) ?_ ?_
         rotate_left
         ·show Act.put _ (some 30) _ = _
          simp only [Act.put, List.setIfInBounds_toArray, List.set_cons_zero, List.set_cons_succ, i64_w, i32_w]
          rfl
         refine pure_ (i := 4) (N := some 33) (v := ?_) (a' := ?_) #[true, true, true, true, true, true, false, true, true, false, false, false, false, false] rfl rfl (by kernel_rfl) (fun _ _ _ h => h) (Or.inl ⟨by rfl, ?_⟩) ?_ ?_
         rotate_left
         ·intro w'
          go_simp
          with_reducible rfl
         rotate_left
         ·simp only [Act.put, List.setIfInBounds_toArray, List.set_cons_zero, List.set_cons_succ, i64_w, i32_w]
          rfl
         refine one_ (i := 6) (N := some 35) #[true, true, true, true, true, true, true, true, true, false, false, false, false, false] rfl rfl (by kernel_rfl) (by decide) (fun K hK => ?_)
         refine value_ (w1 := w22) (v := .int .i64 x439001_1) (by rfl) rfl ?_ ?_
         ·go_simp
          (try rfl)
         refine hK.out _ _ hHeld (fun hHeld => ?_)
         clear hK K
         refine norm_ (a' := ?_) ?_ ?_
         rotate_left
         ·show Act.put _ (some 35) _ = _
          simp only [Act.put, List.setIfInBounds_toArray, List.set_cons_zero, List.set_cons_succ, i64_w, i32_w]
          rfl
         refine pure_ (i := 9) (N := some 38) (v := ?_) (a' := ?_) #[true, true, true, true, true, true, true, true, true, true, false, false, false, false] rfl rfl (by kernel_rfl) (fun _ _ _ h => h) (Or.inl ⟨by rfl, ?_⟩) ?_ ?_
         rotate_left
         ·intro w'
          go_simp
          with_reducible rfl
         rotate_left
         ·simp only [Act.put, List.setIfInBounds_toArray, List.set_cons_zero, List.set_cons_succ, i64_w, i32_w]
          rfl
         refine norm_ ?_ hX
         simp only [GS.putL, List.foldl, List.setIfInBounds_toArray, List.set_cons_zero, List.set_cons_succ]
        ·refine value_ (w1 := w22) (v := .int .i64 x439001_1) (by rfl) rfl ?_ ?_
         ·go_simp
          (try rfl)
         refine hK.out _ _ hHeld (fun hHeld => ?_)
         clear hK K
         refine norm_ (a' := ?_) ?_ ?_
         rotate_left
         ·show Act.put _ (some 35) _ = _
          simp only [Act.put, List.setIfInBounds_toArray, List.set_cons_zero, List.set_cons_succ, i64_w, i32_w]
          rfl
         refine pure_ (i := 9) (N := some 38) (v := ?_) (a' := ?_) #[true, false, true, true, false, true, true, true, true, true, false, false, false, false] rfl rfl (by kernel_rfl) (fun _ _ _ h => h) (Or.inl ⟨by rfl, ?_⟩) ?_ ?_
         rotate_left
         ·intro w'
          go_simp
          with_reducible rfl
         rotate_left
         ·simp only [Act.put, List.setIfInBounds_toArray, List.set_cons_zero, List.set_cons_succ, i64_w, i32_w]
          rfl
         refine one_ (i := 1) (N := some 30) #[true, true, true, true, false, true, true, true, true, true, false, false, false, false] rfl rfl (by kernel_rfl) (by decide) (fun K hK => ?_)
         refine value_ (w1 := w22) (v := .int .i64 x439000_1) (by rfl) rfl ?_ ?_
         ·go_simp
          (try rfl)
         refine hK.out _ _ hHeld (fun hHeld => ?_)
         clear hK K
         refine norm_ (a' := ?_) ?_ ?_
         rotate_left
         ·show Act.put _ (some 30) _ = _
          simp only [Act.put, List.setIfInBounds_toArray, List.set_cons_zero, List.set_cons_succ, i64_w, i32_w]
          rfl
         refine pure_ (i := 4) (N := some 33) (v := ?_) (a' := ?_) #[true, true, true, true, true, true, true, true, true, true, false, false, false, false] rfl rfl (by kernel_rfl) (fun _ _ _ h => h) (Or.inl ⟨by rfl, ?_⟩) ?_ ?_
         rotate_left
         ·intro w'
          go_simp
          with_reducible rfl
         rotate_left
         ·simp only [Act.put, List.setIfInBounds_toArray, List.set_cons_zero, List.set_cons_succ, i64_w, i32_w]
          rfl
         refine norm_ ?_ hX
         simp only [GS.putL, List.foldl, List.setIfInBounds_toArray, List.set_cons_zero, List.set_cons_succ]
       simp only [GS.putL, List.foldl, List.setIfInBounds_toArray, List.set_cons_zero, List.set_cons_succ]
       clear hsA0 hsA1
       refine pure_ (i := 10) (N := some 39) (v := ?_) (a' := ?_) #[true, true, true, true, true, true, true, true, true, true, true, false, false, false] rfl rfl (by kernel_rfl) (fun _ _ _ h => h) (Or.inl ⟨by rfl, ?_⟩) ?_ ?_
       rotate_left
       ·intro w'
        go_simp
        with_reducible rfl
       rotate_left
       ·simp only [Act.put, List.setIfInBounds_toArray, List.set_cons_zero, List.set_cons_succ, i64_w, i32_w]
        rfl
       refine one_ (i := 11) (N := none) #[true, true, true, true, true, true, true, true, true, true, true, true, false, false] rfl rfl (by kernel_rfl) (by decide) (fun K hK => ?_)
       have hs23 : w22.cell? ⟨gb438, 0, none⟩ = some (.int .i64 x439000_1) := (bqC BK438.out 0).trans rfl
       have hfs23 := bqF BK438.out 0
       have hns23_0 := NB436_438.out
       have hns23_1 := NB437_438.out
       have hns23_3 := NB443_438.out
       have hms23_0 := NB438_436.out
       have hms23_1 := NB438_437.out
       have hms23_3 := NB438_443.out
       refine skip_ (w1 := ?_) (by rfl) rfl ?_ ?_
       rotate_left
       ·go_simp
        rfl
       refine hK.out _ _ ⟨(bqC ((Below.heap_setCell _ _ _ gb443 NB443_438.out).trans BK443.out) 0).trans rfl, (bqC ((Below.heap_setCell _ _ _ gb443 NB443_438.out).trans BK443.out) 1).trans rfl⟩ (fun hHeld => ?_)
       clear hK K
       refine pure_ (i := 12) (N := some 40) (v := ?_) (a' := ?_) #[true, true, true, true, true, true, true, true, true, true, true, true, true, false] rfl rfl (by kernel_rfl) (fun _ _ _ h => h) (Or.inl ⟨by rfl, ?_⟩) ?_ ?_
       rotate_left
       ·intro w'
        go_simp
        with_reducible rfl
       rotate_left
       ·simp only [Act.put, List.setIfInBounds_toArray, List.set_cons_zero, List.set_cons_succ, i64_w, i32_w]
        rfl
       refine one_ (i := 13) (N := none) #[true, true, true, true, true, true, true, true, true, true, true, true, true, true] rfl rfl (by kernel_rfl) (by decide) (fun K hK => ?_)
       have hs24 : w22.cell? ⟨gb438, 1, none⟩ = some (.int .i64 x439001_1) := (bqC BK438.out 1).trans rfl
       have hfs24 := bqF BK438.out 1
       have hns24_0 := NB436_438.out
       have hns24_1 := NB437_438.out
       have hns24_3 := NB443_438.out
       have hms24_0 := NB438_436.out
       have hms24_1 := NB438_437.out
       have hms24_3 := NB438_443.out
       refine skip_ (w1 := ?_) (by rfl) rfl ?_ ?_
       rotate_left
       ·go_simp
        rfl
       refine hK.out _ _ ⟨(bqC ((Below.heap_setCell _ _ _ gb443 NB443_438.out).trans ((Below.heap_setCell _ _ _ gb443 NB443_438.out).trans BK443.out)) 0).trans rfl, (bqC ((Below.heap_setCell _ _ _ gb443 NB443_438.out).trans ((Below.heap_setCell _ _ _ gb443 NB443_438.out).trans BK443.out)) 1).trans rfl⟩ (fun hHeld => ?_)
       clear hK K
       refine done_ (by kernel_rfl) ?_
       try go_wp2
       go_roundg k1
       case measure => have := HK1.out; omega
       case rel => exact ⟨(wrap64 (x8_1 + 1)), (wrap64 (x439000_1 + t441)), (wrap64 (x439001_1 + t442)), (by first | rfl | (simp; done) | (simp [*]; done)), H', ⟨by have := HK1.out; omega⟩, ⟨GS.bqX BK436.out⟩, ⟨GS.bqX BK437.out⟩, ⟨GS.bqZ BK438.out⟩, ⟨GS.lB HB.out⟩⟩
      ·rw [if_neg c14] at H
       exact absurd H (by simp)
     ·rw [if_neg c13] at H
      exact absurd H (by simp)
    ·rw [if_neg c12] at H
     exact absurd H (by simp)
   ·rw [if_neg c10] at H
    have c10b0 : decide (x8_1 < (l2.length : Int)) = false := decide_eq_false c10
    clear c10
    simp only [Option.some.injEq, Prod.mk.injEq] at H
    obtain ⟨rfl, rfl⟩ := H
    have hnb25 := NB438_436.out
    have hnc25 := NB436_438.out
    have hnb26 := NB438_437.out
    have hnc26 := NB437_438.out
    obtain ⟨hcz27_0, hcz27_1, hfz27_0, hfz27_1⟩ := GS.c2 BK438.out
    have hnb28 := NB437_436.out
    have hnc28 := NB436_437.out
    obtain ⟨hcz29_0, hcz29_1, hfz29_0, hfz29_1⟩ := GS.c2 BK437.out
    go_wp2
    refine bodyPost_ret (results_cell_row rfl _ _ gb437 28 #[.int .i64 x439000_1, .int .i64 x439001_1] (0, 0) _ rfl (GS.bqZ BK437.out) Try.underlying28 rfl (by kernel_rfl)) rfl ?_
    exact ⟨by first | rfl | (simp [errW_none, errW_some] <;> rfl) | (simp [*, errW_none, errW_some] <;> rfl), GS.lB HB.out⟩
def spileref11_Wet.f (k : Nat) (a0_0 : ByteArray) (a0_1 : Int) (l0_2 : List (S39)) (a0_3 : Int) (a1 : Int) (a2 : Int) (a3 : Int) : Option (Int × Int × Int) := (spileref11_wet.f k a0_0 a0_1 l0_2 a0_3 a1 a2 a3).bind fun bt446 => (if bt446.2 = 0 then ((spileref07_Heights.f k a1 a3).bind fun bt450 => ((spileref11_between.f k a0_0 a0_1 l0_2 a0_3 bt446.1 bt450.1).bind fun bt454 => (some (bt454.1, bt454.2, 0)))) else (some (0, 0, bt446.2)))
set_option maxHeartbeats 8000000 in
set_option maxRecDepth 100000 in
theorem spileref11_Wet.calls (k : Nat) (a0_0 : ByteArray) (a0_1 : Int) (A0_2 : Option Addr) (c0_2 : Nat) (l0_2 : List (S39)) (a0_3 : Int) (a1 : Int) (a2 : Int) (a3 : Int) (r1 : Int) (r2 : Int) (r3 : Int) (w : World) (hr0_2 : Kd.C k39 w A0_2 l0_2.length l0_2) (hc0_2 : l0_2.length ≤ c0_2) (h : spileref11_Wet.f k a0_0 a0_1 l0_2 a0_3 a1 a2 a3 = some (r1, r2, r3)) :
  Calls Try.prog 14 #[.agg #[.string a0_0, .int .i64 a0_1, .slice A0_2 l0_2.length c0_2, .int .i64 a0_3], .int .i64 a1, .int .i64 a2, .int .i64 a3] w fun e w' => e = .returned (.tuple #[.agg #[.int .i64 r1, .int .i64 r2], .int .i64 r3]) ∧ Below w.heap.size w w' := by
 have hu24 := Try.underlying24
 have hu28 := Try.underlying28
 have HR0_2 := Aside0.mk hr0_2
 have HC0_2 := Aside0.mk hc0_2
 clear hr0_2 hc0_2
 have HB := Aside0.mk (Below.refl w.heap.size w)
 have H : ((spileref11_wet.f k a0_0 a0_1 l0_2 a0_3 a1 a2 a3).bind fun bt446 => (if bt446.2 = 0 then ((spileref07_Heights.f k a1 a3).bind fun bt450 => ((spileref11_between.f k a0_0 a0_1 l0_2 a0_3 bt446.1 bt450.1).bind fun bt454 => (some (bt454.1, bt454.2, 0)))) else (some (0, 0, bt446.2)))) = some (r1, r2, r3) := h
 clear h
 replace H := Option.bind_eq_some_iff.mp H
 obtain ⟨⟨t446, t449⟩, A50, H⟩ := H
 try (set_option simprocs false in dsimp only at H)
 have A5 := Aside0.mk A50
 clear A50
 by_cases c6 : t449 = 0
 ·rw [if_pos c6] at H
  have c6b0 : (t449 == 0) = true := beq_iff_eq.mpr c6
  have c6b1 : (t449 != 0) = false := bne_eq_false_iff_eq.mpr c6
  clear c6
  replace H := Option.bind_eq_some_iff.mp H
  obtain ⟨⟨t450, t451⟩, A70, H⟩ := H
  try (set_option simprocs false in dsimp only at H)
  have A7 := Aside0.mk A70
  clear A70
  replace H := Option.bind_eq_some_iff.mp H
  obtain ⟨⟨t454, t455⟩, A80, H⟩ := H
  replace H : (some (t454, t455, 0)) = some (r1, r2, r3) := H
  have A8 := Aside0.mk A80
  clear A80
  simp only [Option.some.injEq, Prod.mk.injEq] at H
  obtain ⟨rfl, rfl, rfl⟩ := H
  go_enter Try.func14, Try.ntmps14
  go_wp2_with (first | ((with_reducible refine gqD (N := 4) rfl ?_); refine GS.bx (N := 4) (cs := #[.string a0_0, .int .i64 a0_1, .slice A0_2 l0_2.length c0_2, .int .i64 a0_3]) (t := 24) ?_; intro gb444 hg w9 hbox hb; have q_ := GS.q4 (GS.kH HB hb) (Aside0.mk hbox) (GS.kZ hg HB) (GS.kZ hg HB); clear HB; obtain ⟨HB, BK444, GW444, GE444⟩ := q_; clear hb hbox hg) | ((with_reducible refine gqD (N := 8) rfl ?_); refine GS.bx (N := 8) (cs := #[.int .i64 0, .int .i64 0]) (t := 28) ?_; intro gb445 hg w10 hbox hb; have q_ := GS.q7 (GS.kB BK444 hb) (GS.kH HB hb) (Aside0.mk hbox) (GS.kZ hg HB) (GS.kZ hg HB) (Aside0.mk ((by rw [hg]; exact Nat.ne_of_lt (blk_lt (GS.bqX BK444.out)) : gb444 ≠ gb445))) (Aside0.mk ((by rw [hg]; exact Nat.ne_of_gt (blk_lt (GS.bqX BK444.out)) : gb445 ≠ gb444))); clear BK444 HB; obtain ⟨BK444, HB, BK445, GW445, GE445, NB444_445, NB445_444⟩ := q_; clear hb hbox hg; have hnb11 := NB444_445.out; have hnc11 := NB445_444.out; obtain ⟨hcz12_0, hcz12_1, hcz12_2, hcz12_3, hfz12_0, hfz12_1, hfz12_2, hfz12_3⟩ := GS.c4 BK444.out) | ((with_reducible refine gqC (f := 44) rfl ?_); refine GS.gL (some 19) Try.func44 #[.agg #[.string a0_0, .int .i64 a0_1, .slice A0_2 l0_2.length c0_2, .int .i64 a0_3], .int .i64 a1, .int .i64 a2, .int .i64 a3] ?_; (with_reducible refine (spileref11_wet.calls k a0_0 a0_1 _ _ l0_2 a0_3 a1 a2 a3 t446 t449 _ ?side1 ?side2 A5.out).mono ?_); (case side1 => exact GS.rC (Kd.C_below HR0_2.out HB.out)); (case side2 => exact HC0_2.out); rintro e w13 ⟨v447, rfl, ho0, hb⟩; refine ⟨_, rfl, ?_⟩; have q_ := GS.q4 (GS.kL ho0 HB) (GS.kB BK444 hb) (GS.kB BK445 hb) (GS.kH HB hb); clear BK444 BK445 HB; obtain ⟨HO448, BK444, BK445, HB⟩ := q_; (try clear hb); (try clear hb2); (try clear hk); (try clear hi); (try clear ho0)) | ((with_reducible refine gqC (f := 45) rfl ?_); refine GS.gL (some 29) Try.func45 #[.int .i64 a1, .int .i64 a3] ?_; (with_reducible refine (spileref07_Heights.calls k a1 a3 t450 t451 _ A7.out).mono ?_); rintro e w14 ⟨v452, rfl, ho0, hb⟩; refine ⟨_, rfl, ?_⟩; have q_ := GS.q5 (GS.kE HO448 ho0 hb) (Aside0.mk (Kd.R_lower (Kd.R_new' ho0 (Kd.R_lt (GS.rR HO448.out))) (lqZ (GS.lB HB.out)))) (GS.kB BK444 hb) (GS.kB BK445 hb) (GS.kH HB hb); clear HO448 BK444 BK445 HB; obtain ⟨HO448, HO453, BK444, BK445, HB⟩ := q_; (try clear hb); (try clear hb2); (try clear hk); (try clear hi); (try clear ho0); obtain ⟨hcz15_0, hcz15_1, hcz15_2, hcz15_3, hfz15_0, hfz15_1, hfz15_2, hfz15_3⟩ := GS.c4 BK444.out; obtain ⟨Ao16, co16, eo16⟩ := Kd.R_slice HO448.out; subst eo16; obtain ⟨Ao17, co17, eo17⟩ := Kd.R_slice HO453.out; subst eo17) | ((with_reducible refine gqC (f := 46) rfl ?_); refine GS.gL (some 35) Try.func46 #[.agg #[.string a0_0, .int .i64 a0_1, .slice A0_2 l0_2.length c0_2, .int .i64 a0_3], .slice Ao16 t446.length co16, .slice Ao17 t450.length co17] ?_; (with_reducible refine (spileref11_between.calls k a0_0 a0_1 _ _ l0_2 a0_3 _ _ t446 _ _ t450 t454 t455 _ ?side1 ?side2 ?side3 ?side4 ?side5 ?side6 A8.out).mono ?_); (case side1 => exact GS.rC (Kd.C_below HR0_2.out HB.out)); (case side2 => exact HC0_2.out); (case side3 => repeat (first | exact (Kd.R_reads' HO448.out).2.2 | (with_reducible refine Kd.C_alloc ?_ _) | (with_reducible refine Kd.C_drewN ?_ _) | (with_reducible refine Kd.C_drew ?_))); (case side4 => exact (Kd.R_reads' HO448.out).2.1); (case side5 => repeat (first | exact (Kd.R_reads' HO453.out).2.2 | (with_reducible refine Kd.C_alloc ?_ _) | (with_reducible refine Kd.C_drewN ?_ _) | (with_reducible refine Kd.C_drew ?_))); (case side6 => exact (Kd.R_reads' HO453.out).2.1); rintro e w18 ⟨rfl, hb⟩; refine ⟨_, rfl, ?_⟩; have q_ := GS.q5 (GS.kR HO448 hb) (GS.kR HO453 hb) (GS.kB BK444 hb) (GS.kB BK445 hb) (GS.kH HB hb); clear HO448 HO453 BK444 BK445 HB; obtain ⟨HO448, HO453, BK444, BK445, HB⟩ := q_; (try clear hb); (try clear hb2); (try clear hk); (try clear hi); obtain ⟨hcz19_0, hcz19_1, hfz19_0, hfz19_1⟩ := GS.c2 BK445.out))
  refine bodyPost_ret (results_ct rfl _ _ gb445 28 #[.int .i64 t454, .int .i64 t455] (0, 0) _ rfl (GS.bqZ BK445.out) Try.underlying28 rfl (by kernel_rfl)) rfl ?_
  exact ⟨by first | rfl | (simp [errW_none, errW_some] <;> rfl) | (simp [*, errW_none, errW_some] <;> rfl), GS.lB HB.out⟩
 ·rw [if_neg c6] at H
  have c6b0 : (t449 == 0) = false := beq_eq_false_iff_ne.mpr c6
  have c6b1 : (t449 != 0) = true := bne_iff_ne.mpr c6
  simp only [Option.some.injEq, Prod.mk.injEq] at H
  obtain ⟨rfl, rfl, rfl⟩ := H
  go_enter Try.func14, Try.ntmps14
  go_wp2_with (first | ((with_reducible refine gqD (N := 4) rfl ?_); refine GS.bx (N := 4) (cs := #[.string a0_0, .int .i64 a0_1, .slice A0_2 l0_2.length c0_2, .int .i64 a0_3]) (t := 24) ?_; intro gb444 hg w20 hbox hb; have q_ := GS.q4 (GS.kH HB hb) (Aside0.mk hbox) (GS.kZ hg HB) (GS.kZ hg HB); clear HB; obtain ⟨HB, BK444, GW444, GE444⟩ := q_; clear hb hbox hg) | ((with_reducible refine gqD (N := 8) rfl ?_); refine GS.bx (N := 8) (cs := #[.int .i64 0, .int .i64 0]) (t := 28) ?_; intro gb445 hg w21 hbox hb; have q_ := GS.q7 (GS.kB BK444 hb) (GS.kH HB hb) (Aside0.mk hbox) (GS.kZ hg HB) (GS.kZ hg HB) (Aside0.mk ((by rw [hg]; exact Nat.ne_of_lt (blk_lt (GS.bqX BK444.out)) : gb444 ≠ gb445))) (Aside0.mk ((by rw [hg]; exact Nat.ne_of_gt (blk_lt (GS.bqX BK444.out)) : gb445 ≠ gb444))); clear BK444 HB; obtain ⟨BK444, HB, BK445, GW445, GE445, NB444_445, NB445_444⟩ := q_; clear hb hbox hg; have hnb22 := NB444_445.out; have hnc22 := NB445_444.out; obtain ⟨hcz23_0, hcz23_1, hcz23_2, hcz23_3, hfz23_0, hfz23_1, hfz23_2, hfz23_3⟩ := GS.c4 BK444.out) | ((with_reducible refine gqC (f := 44) rfl ?_); refine GS.gL (some 19) Try.func44 #[.agg #[.string a0_0, .int .i64 a0_1, .slice A0_2 l0_2.length c0_2, .int .i64 a0_3], .int .i64 a1, .int .i64 a2, .int .i64 a3] ?_; (with_reducible refine (spileref11_wet.calls k a0_0 a0_1 _ _ l0_2 a0_3 a1 a2 a3 t446 t449 _ ?side1 ?side2 A5.out).mono ?_); (case side1 => exact GS.rC (Kd.C_below HR0_2.out HB.out)); (case side2 => exact HC0_2.out); rintro e w24 ⟨v447, rfl, ho0, hb⟩; refine ⟨_, rfl, ?_⟩; have q_ := GS.q4 (GS.kL ho0 HB) (GS.kB BK444 hb) (GS.kB BK445 hb) (GS.kH HB hb); clear BK444 BK445 HB; obtain ⟨HO448, BK444, BK445, HB⟩ := q_; (try clear hb); (try clear hb2); (try clear hk); (try clear hi); (try clear ho0); obtain ⟨hcz25_0, hcz25_1, hfz25_0, hfz25_1⟩ := GS.c2 BK445.out))
  refine bodyPost_ret (results_ct rfl _ _ gb445 28 #[.int .i64 0, .int .i64 0] (0, 0) _ rfl (GS.bqZ BK445.out) Try.underlying28 rfl (by kernel_rfl)) rfl ?_
  exact ⟨by first | rfl | (simp [errW_none, errW_some] <;> rfl) | (simp [*, errW_none, errW_some] <;> rfl), GS.lB HB.out⟩
def spileref11_Dry.l0 : Nat → Int → List Int → List Int → Int → ByteArray → Int → List (S39) → Int → Option (Int × Int × Int)
 | 0, _, _, _, _, _, _, _, _ => none
 | k + 1, x1, x10, x12, x14, x457000, x457001, x457002, x457003 => if x14 < (x12.length : Int) then (if 0 ≤ x14 then (spileref11_Dry.l0 k x1 x10 (x12.set (x14 : Int).toNat (wrap64 ((rd x12 x14) + x1))) (wrap64 (x14 + 1)) x457000 x457001 x457002 x457003) else (none)) else ((spileref11_between.f k x457000 x457001 x457002 x457003 x10 x12).bind fun bt469 => (some (bt469.1, bt469.2, 0)))
def spileref11_Dry.f (k : Nat) (a0_0 : ByteArray) (a0_1 : Int) (l0_2 : List (S39)) (a0_3 : Int) (a1 : Int) (a2 : Int) (a3 : Int) : Option (Int × Int × Int) := (spileref11_wet.f k a0_0 a0_1 l0_2 a0_3 a1 a2 a3).bind fun bt458 => (if bt458.2 = 0 then ((spileref09_Radius.f k a0_0 a0_1 l0_2 a0_3).bind fun t462 => ((spileref07_Heights.f k (wrap64 ((wrap64 (2 * t462)) - a1)) a3).bind fun bt463 => (spileref11_Dry.l0 k a1 bt458.1 bt463.1 0 a0_0 a0_1 l0_2 a0_3))) else (some (0, 0, bt458.2)))
set_option maxHeartbeats 8000000 in
set_option maxRecDepth 100000 in
theorem spileref11_Dry.calls (k : Nat) (a0_0 : ByteArray) (a0_1 : Int) (A0_2 : Option Addr) (c0_2 : Nat) (l0_2 : List (S39)) (a0_3 : Int) (a1 : Int) (a2 : Int) (a3 : Int) (r1 : Int) (r2 : Int) (r3 : Int) (w : World) (hr0_2 : Kd.C k39 w A0_2 l0_2.length l0_2) (hc0_2 : l0_2.length ≤ c0_2) (h : spileref11_Dry.f k a0_0 a0_1 l0_2 a0_3 a1 a2 a3 = some (r1, r2, r3)) :
  Calls Try.prog 16 #[.agg #[.string a0_0, .int .i64 a0_1, .slice A0_2 l0_2.length c0_2, .int .i64 a0_3], .int .i64 a1, .int .i64 a2, .int .i64 a3] w fun e w' => e = .returned (.tuple #[.agg #[.int .i64 r1, .int .i64 r2], .int .i64 r3]) ∧ Below w.heap.size w w' := by
 have hu24 := Try.underlying24
 have hu28 := Try.underlying28
 have HR0_2 := Aside0.mk hr0_2
 have HC0_2 := Aside0.mk hc0_2
 clear hr0_2 hc0_2
 have HB := Aside0.mk (Below.refl w.heap.size w)
 have H : ((spileref11_wet.f k a0_0 a0_1 l0_2 a0_3 a1 a2 a3).bind fun bt458 => (if bt458.2 = 0 then ((spileref09_Radius.f k a0_0 a0_1 l0_2 a0_3).bind fun t462 => ((spileref07_Heights.f k (wrap64 ((wrap64 (2 * t462)) - a1)) a3).bind fun bt463 => (spileref11_Dry.l0 k a1 bt458.1 bt463.1 0 a0_0 a0_1 l0_2 a0_3))) else (some (0, 0, bt458.2)))) = some (r1, r2, r3) := h
 clear h
 replace H := Option.bind_eq_some_iff.mp H
 obtain ⟨⟨t458, t461⟩, A50, H⟩ := H
 try (set_option simprocs false in dsimp only at H)
 have A5 := Aside0.mk A50
 clear A50
 by_cases c6 : t461 = 0
 ·rw [if_pos c6] at H
  have c6b0 : (t461 == 0) = true := beq_iff_eq.mpr c6
  have c6b1 : (t461 != 0) = false := bne_eq_false_iff_eq.mpr c6
  clear c6
  replace H := Option.bind_eq_some_iff.mp H
  obtain ⟨t462, A70, H⟩ := H
  try (set_option simprocs false in dsimp only at H)
  have A7 := Aside0.mk A70
  clear A70
  replace H := Option.bind_eq_some_iff.mp H
  obtain ⟨⟨t463, t464⟩, A80, H⟩ := H
  try (set_option simprocs false in dsimp only at H)
  have A8 := Aside0.mk A80
  clear A80
  have H' := Aside0.mk H
  clear H
  go_enter Try.func16, Try.ntmps16
  go_wp2_with (first | ((with_reducible refine gqD (N := 4) rfl ?_); refine GS.bx (N := 4) (cs := #[.string a0_0, .int .i64 a0_1, .slice A0_2 l0_2.length c0_2, .int .i64 a0_3]) (t := 24) ?_; intro gb456 hg w9 hbox hb; have q_ := GS.q4 (GS.kH HB hb) (Aside0.mk hbox) (GS.kZ hg HB) (GS.kZ hg HB); clear HB; obtain ⟨HB, BK456, GW456, GE456⟩ := q_; clear hb hbox hg) | ((with_reducible refine gqD (N := 8) rfl ?_); refine GS.bx (N := 8) (cs := #[.int .i64 0, .int .i64 0]) (t := 28) ?_; intro gb457 hg w10 hbox hb; have q_ := GS.q7 (GS.kB BK456 hb) (GS.kH HB hb) (Aside0.mk hbox) (GS.kZ hg HB) (GS.kZ hg HB) (Aside0.mk ((by rw [hg]; exact Nat.ne_of_lt (blk_lt (GS.bqX BK456.out)) : gb456 ≠ gb457))) (Aside0.mk ((by rw [hg]; exact Nat.ne_of_gt (blk_lt (GS.bqX BK456.out)) : gb457 ≠ gb456))); clear BK456 HB; obtain ⟨BK456, HB, BK457, GW457, GE457, NB456_457, NB457_456⟩ := q_; clear hb hbox hg; have hnb11 := NB456_457.out; have hnc11 := NB457_456.out; obtain ⟨hcz12_0, hcz12_1, hcz12_2, hcz12_3, hfz12_0, hfz12_1, hfz12_2, hfz12_3⟩ := GS.c4 BK456.out) | ((with_reducible refine gqC (f := 44) rfl ?_); refine GS.gL (some 20) Try.func44 #[.agg #[.string a0_0, .int .i64 a0_1, .slice A0_2 l0_2.length c0_2, .int .i64 a0_3], .int .i64 a1, .int .i64 a2, .int .i64 a3] ?_; (with_reducible refine (spileref11_wet.calls k a0_0 a0_1 _ _ l0_2 a0_3 a1 a2 a3 t458 t461 _ ?side1 ?side2 A5.out).mono ?_); (case side1 => exact GS.rC (Kd.C_below HR0_2.out HB.out)); (case side2 => exact HC0_2.out); rintro e w13 ⟨v459, rfl, ho0, hb⟩; refine ⟨_, rfl, ?_⟩; have q_ := GS.q4 (GS.kL ho0 HB) (GS.kB BK456 hb) (GS.kB BK457 hb) (GS.kH HB hb); clear BK456 BK457 HB; obtain ⟨HO460, BK456, BK457, HB⟩ := q_; (try clear hb); (try clear hb2); (try clear hk); (try clear hi); (try clear ho0); obtain ⟨hcz14_0, hcz14_1, hcz14_2, hcz14_3, hfz14_0, hfz14_1, hfz14_2, hfz14_3⟩ := GS.c4 BK456.out) | ((with_reducible refine gqC (f := 47) rfl ?_); refine GS.gL (some 29) Try.func47 #[.agg #[.string a0_0, .int .i64 a0_1, .slice A0_2 l0_2.length c0_2, .int .i64 a0_3]] ?_; (with_reducible refine (spileref09_Radius.calls k a0_0 a0_1 _ _ l0_2 a0_3 t462 _ ?side1 ?side2 A7.out).mono ?_); (case side1 => exact GS.rC (Kd.C_below HR0_2.out HB.out)); (case side2 => exact HC0_2.out); rintro e w15 ⟨rfl, hb⟩; refine ⟨_, rfl, ?_⟩; have q_ := GS.q4 (GS.kR HO460 hb) (GS.kB BK456 hb) (GS.kB BK457 hb) (GS.kH HB hb); clear HO460 BK456 BK457 HB; obtain ⟨HO460, BK456, BK457, HB⟩ := q_; (try clear hb); (try clear hb2); (try clear hk); (try clear hi)) | ((with_reducible refine gqC (f := 45) rfl ?_); refine GS.gL (some 34) Try.func45 #[.int .i64 (wrap64 ((wrap64 (2 * t462)) - a1)), .int .i64 a3] ?_; (with_reducible refine (spileref07_Heights.calls k (wrap64 ((wrap64 (2 * t462)) - a1)) a3 t463 t464 _ A8.out).mono ?_); rintro e w16 ⟨v465, rfl, ho0, hb⟩; refine ⟨_, rfl, ?_⟩; have q_ := GS.q5 (GS.kE HO460 ho0 hb) (Aside0.mk (Kd.R_lower (Kd.R_new' ho0 (Kd.R_lt (GS.rR HO460.out))) (lqZ (GS.lB HB.out)))) (GS.kB BK456 hb) (GS.kB BK457 hb) (GS.kH HB hb); clear HO460 BK456 BK457 HB; obtain ⟨HO460, HO466, BK456, BK457, HB⟩ := q_; (try clear hb); (try clear hb2); (try clear hk); (try clear hi); (try clear ho0)))
  go_loopg [14] k (fun kq v14 w' => ∃ (x12_1 : List Int) (x14_1 : Int), v14 = .int .i64 x14_1 ∧ Aside0 (spileref11_Dry.l0 kq a1 t458 x12_1 x14_1 a0_0 a0_1 l0_2 a0_3 = some (r1, r2, r3)) ∧ Aside0 (kq ≤ k) ∧ Aside0 (Kd.R (Kd.int .i64) 3 w' w.heap.size (fun k_ => some k_ ≠ (v465 : Value).ownBlock) v459 t458) ∧ Aside0 (Kd.R (Kd.int .i64) 3 w' w.heap.size (fun k_ => some k_ ≠ (v459 : Value).ownBlock) v465 x12_1) ∧ Aside0 (w'.heap[gb456]? = some (.cells #[.string a0_0, .int .i64 a0_1, (.slice A0_2 l0_2.length c0_2), .int .i64 a0_3] 24 (0, 0))) ∧ Aside0 (w'.heap[gb457]? = some (.cells #[.int .i64 0, .int .i64 0] 28 (0, 0))) ∧ Aside0 (Below w.heap.size w w'))
  case atStart => exact ⟨(t463), (0), (by first | rfl | (simp; done) | (simp [*]; done)), H', ⟨Nat.le_refl _⟩, ⟨by (with_reducible repeat (first | apply Kd.R_alloc | apply Kd.R_drewN | apply Kd.R_drew)); exact Kd.R_mono HO460.out (fun _ hk => GS.cj hk)⟩, ⟨by (with_reducible repeat (first | apply Kd.R_alloc | apply Kd.R_drewN | apply Kd.R_drew)); exact Kd.R_mono HO466.out (fun _ hk => GS.cj hk)⟩, ⟨GS.bqX BK456.out⟩, ⟨GS.bqX BK457.out⟩, ⟨GS.lB HB.out⟩⟩
  case round =>
   clear H'
   try clear c6b0
   try clear c6b1
   try clear hcz12_0
   try clear hcz12_1
   try clear hcz12_2
   try clear hcz12_3
   try clear hcz14_0
   try clear hcz14_1
   try clear hcz14_2
   try clear hcz14_3
   try clear hfz12_0
   try clear hfz12_1
   try clear hfz12_2
   try clear hfz12_3
   try clear hfz14_0
   try clear hfz14_1
   try clear hfz14_2
   try clear hfz14_3
   obtain ⟨x12_1, x14_1, rfl, HA, HK1, HO_10, HO_12, BK456, BK457, HB⟩ := hrel
   cases gk with
   | zero => exact absurd HA.out (by simp [spileref11_Dry.l0])
   | succ k1 =>
    have H := HA.out
    clear HA
    simp only [spileref11_Dry.l0] at H
    by_cases c17 : x14_1 < (x12_1.length : Int)
    ·rw [if_pos c17] at H
     have c17b0 : decide (x14_1 < (x12_1.length : Int)) = true := decide_eq_true c17
     clear c17
     by_cases c18 : 0 ≤ x14_1
     ·rw [if_pos c18] at H
      have c18b0 : decide (0 ≤ x14_1) = true := decide_eq_true c18
      clear c18
      obtain ⟨y468, hy468⟩ : ∃ y_ : List Int, y_ = (x12_1.set (x14_1 : Int).toNat (wrap64 ((rd x12_1 x14_1) + a1))) := ⟨_, rfl⟩
      replace H : (spileref11_Dry.l0 k1 a1 t458 y468 (wrap64 (x14_1 + 1)) a0_0 a0_1 l0_2 a0_3) = some (r1, r2, r3) := by first | (rw [hy468]; with_reducible exact H) | (have H2_ := (Option.bind_some _ _).symm.trans H; rw [hy468]; with_reducible exact H2_) | (have H2_ := (Option.bind_some _ _).symm.trans H; with_reducible exact H2_) | with_reducible exact H | (rw [hy468]; exact H) | exact H
      have Ny468 := Aside0.mk hy468
      clear hy468
      have H' := Aside0.mk H
      clear H
      obtain ⟨Ao20, co20, eo20⟩ := Kd.R_slice HO_12.out
      subst eo20
      have p467 : 0 ≤ (x14_1 : Int) := of_decide_eq_true (by first | (with_reducible assumption) | assumption)
      have q467 : x14_1 < (x12_1.length : Int) := of_decide_eq_true (by first | (with_reducible assumption) | assumption)
      obtain ⟨ad467, e467, hx467_0⟩ := Kd.at_int (Kd.R_reads' HO_12.out).2.2 x14_1 p467 q467
      cases e467
      replace p467 := eq_true p467
      replace q467 := eq_true q467
      have p19 : 0 ≤ (x14_1 : Int) := of_decide_eq_true (by first | (with_reducible assumption) | assumption)
      have q19 : (x14_1 : Int) < ((x12_1.length : Int) : Int) := of_decide_eq_true (by first | (with_reducible assumption) | assumption)
      obtain ⟨go19, co19, eo19, gb19, gl19, cl19, HG19⟩ := Kd.R_form HO_12.out (by omega)
      (first | cases eo19 | (injection eo19 with ea_ en_ ec_; (first | subst ea_ | (injection ea_ with ea_; subst ea_)); subst ec_; clear en_))
      have GB19 := Aside0.mk gb19
      have GG19 := Aside0.mk HG19
      clear gb19 gl19 HG19
      (first | simp only [add_plain] at hx467_0 | skip)
      obtain ⟨hx19_0, hf19_0⟩ := Kd.R_celln 0 HO_12.out (x14_1 : Int) p19 q19
      replace p19 := eq_true p19
      replace q19 := eq_true q19
      have HP21 := Kd.R_putg HO_12.out (x14_1 : Int) (wrap64 ((rd x12_1 x14_1) + a1))
      go_wp2_with (first | ((with_reducible refine gate_store (t := 3) (p := 49) rfl ?_); refine store_event (t := 3) (p := 49) (v := ?vo_w22) (w1 := (wr.setCell ⟨go19, (x14_1 : Int).toNat, none⟩ (.int .i64 (wrap64 ((rd x12_1 x14_1) + a1))))) ?hg ?ho ?hn ?hr ?_; (case ho => rfl); (case hg => rfl); (case hn => rfl); (case hr => first | (go_simp; done) | (go_simp; rfl)); intro w22 hw; have hg : wr.grownBy w22 (some go19) := (by rw [hw]; exact HP21.2); have hp_ : Kd.R (Kd.int .i64) 3 w22 w.heap.size (fun k_ => some k_ ≠ (v459 : Value).ownBlock) (.slice (some ⟨go19, 0, none⟩) x12_1.length co20) y468 := (by rw [hw, Ny468.out]; exact HP21.1); clear HP21; have q_ := GS.q5 (Aside0.mk (Kd.R_after (v := (.slice (some ⟨go19, 0, none⟩) x12_1.length co20)) (v1 := (.slice (some ⟨go19, 0, none⟩) x12_1.length co20)) (ok := (fun _ => True)) (GS.rR (Kd.R_mono HO_10.out (fun _ hk => GS.cj hk))) hg (.inl rfl))) (Aside0.mk hp_) (Aside0.mk (blk_grown (GS.bqX BK456.out) hg (Kd.R_ne HO_12.out BK456.out (by decide)))) (Aside0.mk (blk_grown (GS.bqX BK457.out) hg (Kd.R_ne HO_12.out BK457.out (by decide)))) (Aside0.mk ((by rw [hw]; exact lqS (HB.out) GB19.out : Below w.heap.size w w22))); clear HO_10 HO_12 BK456 BK457 HB; obtain ⟨HO_10, HO_12, BK456, BK457, HB⟩ := q_; clear hg hw hp_))
      go_roundg k1
      case measure => have := HK1.out; omega
      case rel => exact ⟨(y468), (wrap64 (x14_1 + 1)), (by first | rfl | (simp; done) | (simp [*]; done)), H', ⟨by have := HK1.out; omega⟩, ⟨by (with_reducible repeat (first | apply Kd.R_alloc | apply Kd.R_drewN | apply Kd.R_drew)); exact Kd.R_mono HO_10.out (fun _ hk => GS.cj hk)⟩, ⟨by (with_reducible repeat (first | apply Kd.R_alloc | apply Kd.R_drewN | apply Kd.R_drew)); exact HO_12.out⟩, ⟨GS.bqX BK456.out⟩, ⟨GS.bqX BK457.out⟩, ⟨GS.lB HB.out⟩⟩
     ·rw [if_neg c18] at H
      exact absurd H (by simp)
    ·rw [if_neg c17] at H
     have c17b0 : decide (x14_1 < (x12_1.length : Int)) = false := decide_eq_false c17
     clear c17
     replace H := Option.bind_eq_some_iff.mp H
     obtain ⟨⟨t469, t470⟩, A230, H⟩ := H
     replace H : (some (t469, t470, 0)) = some (r1, r2, r3) := H
     have A23 := Aside0.mk A230
     clear A230
     simp only [Option.some.injEq, Prod.mk.injEq] at H
     obtain ⟨rfl, rfl, rfl⟩ := H
     obtain ⟨Ao24, co24, eo24⟩ := Kd.R_slice HO_12.out
     subst eo24
     have hnb25 := NB456_457.out
     have hnc25 := NB457_456.out
     obtain ⟨hcz26_0, hcz26_1, hcz26_2, hcz26_3, hfz26_0, hfz26_1, hfz26_2, hfz26_3⟩ := GS.c4 BK456.out
     obtain ⟨Ao27, co27, eo27⟩ := Kd.R_slice HO_10.out
     subst eo27
     go_wp2_with (first | ((with_reducible refine gqC (f := 46) rfl ?_); refine GS.gL (some 53) Try.func46 #[.agg #[.string a0_0, .int .i64 a0_1, .slice A0_2 l0_2.length c0_2, .int .i64 a0_3], .slice Ao27 t458.length co27, .slice Ao24 x12_1.length co24] ?_; (with_reducible refine (spileref11_between.calls k1 a0_0 a0_1 _ _ l0_2 a0_3 _ _ t458 _ _ x12_1 t469 t470 _ ?side1 ?side2 ?side3 ?side4 ?side5 ?side6 A23.out).mono ?_); (case side1 => exact GS.rC (Kd.C_below HR0_2.out HB.out)); (case side2 => exact HC0_2.out); (case side3 => repeat (first | exact (Kd.R_reads' HO_10.out).2.2 | (with_reducible refine Kd.C_alloc ?_ _) | (with_reducible refine Kd.C_drewN ?_ _) | (with_reducible refine Kd.C_drew ?_))); (case side4 => exact (Kd.R_reads' HO_10.out).2.1); (case side5 => repeat (first | exact (Kd.R_reads' HO_12.out).2.2 | (with_reducible refine Kd.C_alloc ?_ _) | (with_reducible refine Kd.C_drewN ?_ _) | (with_reducible refine Kd.C_drew ?_))); (case side6 => exact (Kd.R_reads' HO_12.out).2.1); rintro e w28 ⟨rfl, hb⟩; refine ⟨_, rfl, ?_⟩; have q_ := GS.q5 (GS.kR HO_10 hb) (GS.kR HO_12 hb) (GS.kB BK456 hb) (GS.kB BK457 hb) (GS.kH HB hb); clear HO_10 HO_12 BK456 BK457 HB; obtain ⟨HO_10, HO_12, BK456, BK457, HB⟩ := q_; (try clear hb); (try clear hb2); (try clear hk); (try clear hi); obtain ⟨hcz29_0, hcz29_1, hfz29_0, hfz29_1⟩ := GS.c2 BK457.out))
     refine bodyPost_ret (results_ct rfl _ _ gb457 28 #[.int .i64 t469, .int .i64 t470] (0, 0) _ rfl (GS.bqZ BK457.out) Try.underlying28 rfl (by kernel_rfl)) rfl ?_
     exact ⟨by first | rfl | (simp [errW_none, errW_some] <;> rfl) | (simp [*, errW_none, errW_some] <;> rfl), GS.lB HB.out⟩
 ·rw [if_neg c6] at H
  have c6b0 : (t461 == 0) = false := beq_eq_false_iff_ne.mpr c6
  have c6b1 : (t461 != 0) = true := bne_iff_ne.mpr c6
  simp only [Option.some.injEq, Prod.mk.injEq] at H
  obtain ⟨rfl, rfl, rfl⟩ := H
  go_enter Try.func16, Try.ntmps16
  go_wp2_with (first | ((with_reducible refine gqD (N := 4) rfl ?_); refine GS.bx (N := 4) (cs := #[.string a0_0, .int .i64 a0_1, .slice A0_2 l0_2.length c0_2, .int .i64 a0_3]) (t := 24) ?_; intro gb456 hg w30 hbox hb; have q_ := GS.q4 (GS.kH HB hb) (Aside0.mk hbox) (GS.kZ hg HB) (GS.kZ hg HB); clear HB; obtain ⟨HB, BK456, GW456, GE456⟩ := q_; clear hb hbox hg) | ((with_reducible refine gqD (N := 8) rfl ?_); refine GS.bx (N := 8) (cs := #[.int .i64 0, .int .i64 0]) (t := 28) ?_; intro gb457 hg w31 hbox hb; have q_ := GS.q7 (GS.kB BK456 hb) (GS.kH HB hb) (Aside0.mk hbox) (GS.kZ hg HB) (GS.kZ hg HB) (Aside0.mk ((by rw [hg]; exact Nat.ne_of_lt (blk_lt (GS.bqX BK456.out)) : gb456 ≠ gb457))) (Aside0.mk ((by rw [hg]; exact Nat.ne_of_gt (blk_lt (GS.bqX BK456.out)) : gb457 ≠ gb456))); clear BK456 HB; obtain ⟨BK456, HB, BK457, GW457, GE457, NB456_457, NB457_456⟩ := q_; clear hb hbox hg; have hnb32 := NB456_457.out; have hnc32 := NB457_456.out; obtain ⟨hcz33_0, hcz33_1, hcz33_2, hcz33_3, hfz33_0, hfz33_1, hfz33_2, hfz33_3⟩ := GS.c4 BK456.out) | ((with_reducible refine gqC (f := 44) rfl ?_); refine GS.gL (some 20) Try.func44 #[.agg #[.string a0_0, .int .i64 a0_1, .slice A0_2 l0_2.length c0_2, .int .i64 a0_3], .int .i64 a1, .int .i64 a2, .int .i64 a3] ?_; (with_reducible refine (spileref11_wet.calls k a0_0 a0_1 _ _ l0_2 a0_3 a1 a2 a3 t458 t461 _ ?side1 ?side2 A5.out).mono ?_); (case side1 => exact GS.rC (Kd.C_below HR0_2.out HB.out)); (case side2 => exact HC0_2.out); rintro e w34 ⟨v459, rfl, ho0, hb⟩; refine ⟨_, rfl, ?_⟩; have q_ := GS.q4 (GS.kL ho0 HB) (GS.kB BK456 hb) (GS.kB BK457 hb) (GS.kH HB hb); clear BK456 BK457 HB; obtain ⟨HO460, BK456, BK457, HB⟩ := q_; (try clear hb); (try clear hb2); (try clear hk); (try clear hi); (try clear ho0); obtain ⟨hcz35_0, hcz35_1, hfz35_0, hfz35_1⟩ := GS.c2 BK457.out))
  refine bodyPost_ret (results_ct rfl _ _ gb457 28 #[.int .i64 0, .int .i64 0] (0, 0) _ rfl (GS.bqZ BK457.out) Try.underlying28 rfl (by kernel_rfl)) rfl ?_
  exact ⟨by first | rfl | (simp [errW_none, errW_some] <;> rfl) | (simp [*, errW_none, errW_some] <;> rfl), GS.lB HB.out⟩
end Go.Proofs.Ytefjmcljkmppoaa.K
