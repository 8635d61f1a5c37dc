import Derived.Test.YtefjmcljkmppoaaK0
import Derived.Test.YtefjmcljkmppoaaGPu
import Derived.Test.YtefjmcljkmppoaaGShort
import Derived.Test.YtefjmcljkmppoaaGSym
namespace Go.Proofs.Ytefjmcljkmppoaa.K
open Go.RowKit Go.Proofs.YtefjmcljkmppoaaW.PrintWords Go.Proofs.YtefjmcljkmppoaaW.PrintLast Go.Proofs.YtefjmcljkmppoaaW.PrintMore
attribute [local go_sem] max2_int min2_int max_two min_two max_three min_three max_four min_four   -- for this text's walks alone
set_option linter.unusedVariables false
set_option linter.unusedSimpArgs false
def spileref08_radius.l0 : Nat → List (S39) → Int → Int → Option (Int × Int)
 | 0, _, _, _ => none
 | k + 1, x0, x1, x6 => if x6 < (x0.length : Int) then (if 0 ≤ (wrap64 (x6 - 1)) then (if (wrap64 (x6 - 1)) < (x0.length : Int) then (if 0 ≤ x6 then (if x1 ≤ ((rd_T39 x0 x6).f0) then (some (wrap64 ((wrap64 (((rd_T39 x0 (wrap64 (x6 - 1))).f1) * (wrap64 (((rd_T39 x0 x6).f0) - ((rd_T39 x0 (wrap64 (x6 - 1))).f0))))) + (wrap64 ((wrap64 (((rd_T39 x0 x6).f1) - ((rd_T39 x0 (wrap64 (x6 - 1))).f1))) * (wrap64 (x1 - ((rd_T39 x0 (wrap64 (x6 - 1))).f0)))))), wrap64 (((rd_T39 x0 x6).f0) - ((rd_T39 x0 (wrap64 (x6 - 1))).f0)))) else (spileref08_radius.l0 k x0 x1 (wrap64 (x6 + 1)))) else (none)) else (none)) else (none)) else (some (0, 1))
def spileref08_radius.f (k : Nat) (l0 : List (S39)) (a1 : Int) : Option (Int × Int) := spileref08_radius.l0 k l0 a1 1
def spileref08_radius.T4 : Bool × List (List Nat × List Nat) := (true, [([], []), ([], []), ([1], [1]), ([0, 2], [0, 2]), ([3], [3]), ([], []), ([], []), ([5, 6], [5, 6]), ([7], [7]), ([], []), ([], []), ([9, 4, 0, 1, 2, 3, 4, 9, 10], [4, 9]), ([10, 8, 11, 0, 1, 2, 3, 4, 5, 6, 7, 8, 9, 10, 11], [8, 10])])
def spileref08_radius.B4 : List Nat := [0, 0, 2, 7, 15, 0, 0, 96, 224, 0, 0, 1567, 4095]
theorem spileref08_radius.tab4 : rtab .any (opsOf Try.f100 4) = spileref08_radius.T4 := by kernel_rfl
theorem spileref08_radius.bits4 : waitsOk spileref08_radius.T4.2 spileref08_radius.B4 = true := by kernel_rfl
def spileref08_radius.T6 : Bool × List (List Nat × List Nat) := (true, [([], []), ([0], [0]), ([], []), ([2], [2]), ([], []), ([4], [4]), ([3, 5], [3, 5]), ([1, 6], [1, 6]), ([], []), ([8], [8]), ([], []), ([10], [10]), ([9, 11], [9, 11]), ([], []), ([], []), ([14], [14]), ([13, 15], [13, 15]), ([12, 16], [12, 16]), ([7, 17], [7, 17]), ([], []), ([19], [19]), ([], []), ([21], [21]), ([20, 22], [20, 22]), ([18, 0, 1, 2, 3, 4, 5, 6, 7, 8, 9, 10, 11, 12, 13, 14, 15, 16, 17, 18], [18]), ([23, 24, 0, 1, 2, 3, 4, 5, 6, 7, 8, 9, 10, 11, 12, 13, 14, 15, 16, 17, 18, 19, 20, 21, 22, 23, 24], [23])])
def spileref08_radius.B6 : List Nat := [0, 1, 0, 4, 0, 16, 60, 127, 0, 256, 0, 1024, 3840, 0, 0, 16384, 57344, 130816, 262143, 0, 524288, 0, 2097152, 7864320, 524287, 33554431]
theorem spileref08_radius.tab6 : rtab .any (opsOf Try.f100 6) = spileref08_radius.T6 := by kernel_rfl
theorem spileref08_radius.bits6 : waitsOk spileref08_radius.T6.2 spileref08_radius.B6 = true := by kernel_rfl
set_option maxHeartbeats 8000000 in
set_option maxRecDepth 100000 in
theorem spileref08_radius.calls (k : Nat) (A0 : Option Addr) (c0 : Nat) (l0 : List (S39)) (a1 : Int) (r1 : Int) (r2 : Int) (w : World) (hr0 : Kd.C k39 w A0 l0.length l0) (hc0 : l0.length ≤ c0) (h : spileref08_radius.f k l0 a1 = some (r1, r2)) :
  Calls Try.prog 100 #[.slice A0 l0.length c0, .int .i64 a1] w fun e w' => e = .returned (.tuple #[.int .i64 r1, .int .i64 r2]) ∧ Below w.heap.size w w' := by
 have hu39 := Try.underlying39
 have HR0 := Aside0.mk hr0
 have HC0 := Aside0.mk hc0
 clear hr0 hc0
 have HB := Aside0.mk (Below.refl w.heap.size w)
 have H : (spileref08_radius.l0 k l0 a1 1) = some (r1, r2) := h
 clear h
 have H' := Aside0.mk H
 clear H
 go_enter Try.func100, Try.ntmps100
 go_wp2
 go_loopg [6] k (fun kq v6 w' => ∃ (x6_1 : Int), v6 = .int .i64 x6_1 ∧ Aside0 (spileref08_radius.l0 kq l0 a1 x6_1 = some (r1, r2)) ∧ Aside0 (kq ≤ k) ∧ Aside0 (Below w.heap.size w w'))
 case atStart => exact ⟨(1), (by first | rfl | (simp; done) | (simp [*]; done)), H', ⟨Nat.le_refl _⟩, ⟨GS.lB HB.out⟩⟩
 case round =>
  clear H'
  obtain ⟨x6_1, rfl, HA, HK1, HB⟩ := hrel
  cases gk with
  | zero => exact absurd HA.out (by simp [spileref08_radius.l0])
  | succ k1 =>
   have H := HA.out
   clear HA
   simp only [spileref08_radius.l0] at H
   by_cases c3 : x6_1 < (l0.length : Int)
   ·rw [if_pos c3] at H
    have c3b0 : decide (x6_1 < (l0.length : Int)) = true := decide_eq_true c3
    clear c3
    obtain ⟨ji4, hji4⟩ : ∃ j_ : Int, (wrap64 (x6_1 - 1)) = j_ := ⟨_, rfl⟩
    replace H : (if 0 ≤ (ji4) then (if (ji4) < (l0.length : Int) then (if 0 ≤ x6_1 then (if a1 ≤ ((rd_T39 l0 x6_1).f0) then (some (wrap64 ((wrap64 (((rd_T39 l0 (ji4)).f1) * (wrap64 (((rd_T39 l0 x6_1).f0) - ((rd_T39 l0 (ji4)).f0))))) + (wrap64 ((wrap64 (((rd_T39 l0 x6_1).f1) - ((rd_T39 l0 (ji4)).f1))) * (wrap64 (a1 - ((rd_T39 l0 (ji4)).f0)))))), wrap64 (((rd_T39 l0 x6_1).f0) - ((rd_T39 l0 (ji4)).f0)))) else (spileref08_radius.l0 k1 l0 a1 (wrap64 (x6_1 + 1)))) else (none)) else (none)) else (none)) = some (r1, r2) := by first | (rw [hji4] at H; exact H) | (simp only [hji4] at H ⊢; exact H)
    have hji4w : (IntKind.i64.wrap (x6_1 - 1)) = ji4 := (i64_w _).trans hji4
    by_cases c5 : 0 ≤ (ji4)
    ·rw [if_pos c5] at H
     have c5b0 : decide (0 ≤ (ji4)) = true := decide_eq_true c5
     clear c5
     by_cases c6 : (ji4) < (l0.length : Int)
     ·rw [if_pos c6] at H
      have c6b0 : decide ((ji4) < (l0.length : Int)) = true := decide_eq_true c6
      clear c6
      by_cases c7 : 0 ≤ x6_1
      ·rw [if_pos c7] at H
       have c7b0 : decide (0 ≤ x6_1) = true := decide_eq_true c7
       clear c7
       by_cases c8 : a1 ≤ ((rd_T39 l0 x6_1).f0)
       ·rw [if_pos c8] at H
        have c8b0 : decide (a1 ≤ ((rd_T39 l0 x6_1).f0)) = true := decide_eq_true c8
        clear c8
        simp only [Option.some.injEq, Prod.mk.injEq] at H
        obtain ⟨rfl, rfl⟩ := H
        try go_wp2
        replace HB := Aside0.mk (lqD HB.out)
        have p396 : 0 ≤ ((ji4) : Int) := of_decide_eq_true (by first | (with_reducible assumption) | assumption)
        have q396 : (ji4) < (l0.length : Int) := of_decide_eq_true (by first | (with_reducible assumption) | assumption)
        obtain ⟨ad396, e396, hx396_0, hx396_1⟩ := at_T39 HR0.out (ji4) p396 q396
        have hw396_1 := hx396_1
        have hw396_0 := hx396_0
        cases e396
        replace hx396_0 := (HB.out.cell (World.block_lt_of_cell? w _ hx396_0)).trans hx396_0
        replace hx396_1 := (HB.out.cell (World.block_lt_of_cell? w _ hx396_1)).trans hx396_1
        replace p396 := eq_true p396
        replace q396 := eq_true q396
        have p397 : 0 ≤ (x6_1 : Int) := of_decide_eq_true (by first | (with_reducible assumption) | assumption)
        have q397 : x6_1 < (l0.length : Int) := of_decide_eq_true (by first | (with_reducible assumption) | assumption)
        obtain ⟨ad397, e397, hx397_0, hx397_1⟩ := at_T39 HR0.out x6_1 p397 q397
        have hw397_1 := hx397_1
        have hw397_0 := hx397_0
        obtain rfl : ad396 = ad397 := (by injection e397)
        replace hx397_0 := (HB.out.cell (World.block_lt_of_cell? w _ hx397_0)).trans hx397_0
        replace hx397_1 := (HB.out.cell (World.block_lt_of_cell? w _ hx397_1)).trans hx397_1
        replace p397 := eq_true p397
        replace q397 := eq_true q397
        refine start_ (n := 13) (S := fun w' => True) (ds := []) #[false, false, false, false, false, false, false, false, false, false, false, false, false] (by kernel_rfl) rfl rfl trivial (fun hHeld => ?_); refine with_tabW spileref08_radius.tab4 spileref08_radius.bits4 (fun HT_ HW_ => ?_)
        generalize wr.drew = w9 at HB hx396_0 hx396_1 hx397_0 hx397_1 hHeld ⊢
        refine GS.pu 0 (some 15) HT_.out ?_
        refine GS.pu 1 (some 16) HT_.out ?_
        refine GS.pu 5 (some 20) HT_.out ?_
        refine GS.pu 6 (some 21) HT_.out ?_
        refine inv_at [2, 3, 4, 7, 8, 9, 10, 11, 12] (fun a0_ b a w' => ∃ (gb398 : Nat) (gb399 : Nat) (m9_ : Value) (m10_ : Value), a = putSel a0_ b [(2, 17, .int .i64 ji4), (3, 18, .pointer (some (ad396.add (((ji4)).toNat * 2)))), (4, 19, .agg #[.int .i64 ((rd_T39 l0 (ji4)).f0), .int .i64 ((rd_T39 l0 (ji4)).f1)]), (7, 22, .pointer (some (ad396.add ((x6_1).toNat * 2)))), (8, 23, .agg #[.int .i64 ((rd_T39 l0 x6_1).f0), .int .i64 ((rd_T39 l0 x6_1).f1)]), (9, 7, m9_), (10, 8, m10_)] ∧ (Below w.heap.size w w') ∧ (b 9 = true → b 10 = true → gb399 ≠ gb398) ∧ (b 9 = true → b 10 = true → gb398 ≠ gb399) ∧ (b 9 = true → b 11 = false → w'.heap[gb398]? = some (.cells #[.int .i64 0, .int .i64 0] 39 (0, 0))) ∧ (b 9 = true → w.heap.size ≤ gb398) ∧ (b 9 = true → w.heap.size ≤ gb398) ∧ (b 10 = true → b 12 = false → w'.heap[gb399]? = some (.cells #[.int .i64 0, .int .i64 0] 39 (0, 0))) ∧ (b 10 = true → w.heap.size ≤ gb399) ∧ (b 10 = true → w.heap.size ≤ gb399) ∧ (b 11 = true → w'.heap[gb398]? = some (.cells #[.int .i64 ((rd_T39 l0 (ji4)).f0), .int .i64 ((rd_T39 l0 (ji4)).f1)] 39 (0, 0))) ∧ (b 12 = true → w'.heap[gb399]? = some (.cells #[.int .i64 ((rd_T39 l0 x6_1).f0), .int .i64 ((rd_T39 l0 x6_1).f1)] 39 (0, 0))) ∧ (b 9 = true → (m9_ : Value) = .pointer (some ⟨gb398, 0, none⟩)) ∧ (b 10 = true → (m10_ : Value) = .pointer (some ⟨gb399, 0, none⟩))) HT_.out HW_.out (by kernel_rfl) (by kernel_rfl) ?_ ?_ ?_
        ·exact ⟨0, 0, .bool false, .bool false, by simp only [putSel, Bool.false_eq_true, if_false], HB.out, fun h_ => absurd h_ (by decide), fun h_ => absurd h_ (by decide), fun h_ => absurd h_ (by decide), fun h_ => absurd h_ (by decide), fun h_ => absurd h_ (by decide), fun h_ => absurd h_ (by decide), fun h_ => absurd h_ (by decide), fun h_ => absurd h_ (by decide), fun h_ => absurd h_ (by decide), fun h_ => absurd h_ (by decide), fun h_ => absurd h_ (by decide), fun h_ => absurd h_ (by decide)⟩
        ·skip
         clear HB
         refine steps_cons ?_ ?_
         ·rintro b a w' ⟨gb398, gb399, m9_, m10_, ha, Q_HB, Q_NB399_398, Q_NB398_399, Q_BK398, Q_GW398, Q_GE398, Q_BK399, Q_GW399, Q_GE399, Q_BK398_e11, Q_BK399_e12, Q_X9_, Q_X10_⟩ hb_ hon hoff
          refine ⟨_, rfl, fun K hK => ?_⟩
          have e16 : a.tmps[16]? = some (.int .i64 x6_1) := by rw [ha]; exact (putSel_off rfl).trans rfl
          replace ha := Aside0.mk ha
          have HB := Aside0.mk Q_HB
          refine value_ (w1 := w') (v := .int .i64 ji4) (by rfl) rfl ?_ ?_
          ·go_simp
           (try simp only [i64_w])
           try rfl
          refine hK.out _ _ ⟨gb398, gb399, m9_, m10_, (by rw [ha.out]; exact putSel_upk 0 hb_ rfl rfl rfl), Q_HB, Q_NB399_398, Q_NB398_399, Q_BK398, Q_GW398, Q_GE398, Q_BK399, Q_GW399, Q_GE399, fun h0_ => absurd ((hoff 11 (by kernel_rfl)).symm.trans h0_) (by decide), fun h0_ => absurd ((hoff 12 (by kernel_rfl)).symm.trans h0_) (by decide), Q_X9_, Q_X10_⟩
         refine steps_cons ?_ ?_
         ·rintro b a w' ⟨gb398, gb399, m9_, m10_, ha, Q_HB, Q_NB399_398, Q_NB398_399, Q_BK398, Q_GW398, Q_GE398, Q_BK399, Q_GW399, Q_GE399, Q_BK398_e11, Q_BK399_e12, Q_X9_, Q_X10_⟩ hb_ hon hoff
          refine ⟨_, rfl, fun K hK => ?_⟩
          have e15 : a.tmps[15]? = some (.slice (some ad396) l0.length c0) := by rw [ha]; exact (putSel_off rfl).trans rfl
          have e17 : a.tmps[17]? = some (.int .i64 ji4) := by rw [ha]; exact putSel_on (e := (2, 17, .int .i64 ji4)) 0 rfl rfl (hon 2 (by kernel_rfl)) rfl
          replace ha := Aside0.mk ha
          have HB := Aside0.mk Q_HB
          have hs0_ : w'.cell? (ad396.add (((ji4)).toNat * 2)) = some (.int .i64 ((rd_T39 l0 (ji4)).f0)) := ((HB.out.cell (World.block_lt_of_cell? w _ hw396_0)).trans hw396_0)
          have hs1_ : w'.cell? ⟨(ad396.add (((ji4)).toNat * 2)).block, (ad396.add (((ji4)).toNat * 2)).off + 1, none⟩ = some (.int .i64 ((rd_T39 l0 (ji4)).f1)) := ((HB.out.cell (World.block_lt_of_cell? w _ hw396_1)).trans hw396_1)
          refine value_ (w1 := w') (v := .pointer (some (ad396.add (((ji4)).toNat * 2)))) (by rfl) rfl ?_ ?_
          ·go_simp
           (try simp only [i64_w])
           try rfl
          refine hK.out _ _ ⟨gb398, gb399, m9_, m10_, (by rw [ha.out]; exact putSel_upk 1 hb_ rfl rfl rfl), Q_HB, Q_NB399_398, Q_NB398_399, Q_BK398, Q_GW398, Q_GE398, Q_BK399, Q_GW399, Q_GE399, fun h0_ => absurd ((hoff 11 (by kernel_rfl)).symm.trans h0_) (by decide), fun h0_ => absurd ((hoff 12 (by kernel_rfl)).symm.trans h0_) (by decide), Q_X9_, Q_X10_⟩
         refine steps_cons ?_ ?_
         ·rintro b a w' ⟨gb398, gb399, m9_, m10_, ha, Q_HB, Q_NB399_398, Q_NB398_399, Q_BK398, Q_GW398, Q_GE398, Q_BK399, Q_GW399, Q_GE399, Q_BK398_e11, Q_BK399_e12, Q_X9_, Q_X10_⟩ hb_ hon hoff
          refine ⟨_, rfl, fun K hK => ?_⟩
          have e18 : a.tmps[18]? = some (.pointer (some (ad396.add (((ji4)).toNat * 2)))) := by rw [ha]; exact putSel_on (e := (3, 18, .pointer (some (ad396.add (((ji4)).toNat * 2))))) 1 rfl rfl (hon 3 (by kernel_rfl)) rfl
          replace ha := Aside0.mk ha
          have HB := Aside0.mk Q_HB
          have hs0_ : w'.cell? (ad396.add (((ji4)).toNat * 2)) = some (.int .i64 ((rd_T39 l0 (ji4)).f0)) := ((HB.out.cell (World.block_lt_of_cell? w _ hw396_0)).trans hw396_0)
          have hs1_ : w'.cell? ⟨(ad396.add (((ji4)).toNat * 2)).block, (ad396.add (((ji4)).toNat * 2)).off + 1, none⟩ = some (.int .i64 ((rd_T39 l0 (ji4)).f1)) := ((HB.out.cell (World.block_lt_of_cell? w _ hw396_1)).trans hw396_1)
          refine value_ (w1 := w') (v := .agg #[.int .i64 ((rd_T39 l0 (ji4)).f0), .int .i64 ((rd_T39 l0 (ji4)).f1)]) (by rfl) rfl ?_ ?_
          ·go_simp
           (try simp only [i64_w])
           try rfl
          refine hK.out _ _ ⟨gb398, gb399, m9_, m10_, (by rw [ha.out]; exact putSel_upk 2 hb_ rfl rfl rfl), Q_HB, Q_NB399_398, Q_NB398_399, Q_BK398, Q_GW398, Q_GE398, Q_BK399, Q_GW399, Q_GE399, fun h0_ => absurd ((hoff 11 (by kernel_rfl)).symm.trans h0_) (by decide), fun h0_ => absurd ((hoff 12 (by kernel_rfl)).symm.trans h0_) (by decide), Q_X9_, Q_X10_⟩
         refine steps_cons ?_ ?_
         ·rintro b a w' ⟨gb398, gb399, m9_, m10_, ha, Q_HB, Q_NB399_398, Q_NB398_399, Q_BK398, Q_GW398, Q_GE398, Q_BK399, Q_GW399, Q_GE399, Q_BK398_e11, Q_BK399_e12, Q_X9_, Q_X10_⟩ hb_ hon hoff
          refine ⟨_, rfl, fun K hK => ?_⟩
          have e20 : a.tmps[20]? = some (.slice (some ad396) l0.length c0) := by rw [ha]; exact (putSel_off rfl).trans rfl
          have e21 : a.tmps[21]? = some (.int .i64 x6_1) := by rw [ha]; exact (putSel_off rfl).trans rfl
          replace ha := Aside0.mk ha
          have HB := Aside0.mk Q_HB
          have hs2_ : w'.cell? (ad396.add ((x6_1).toNat * 2)) = some (.int .i64 ((rd_T39 l0 x6_1).f0)) := ((HB.out.cell (World.block_lt_of_cell? w _ hw397_0)).trans hw397_0)
          have hs3_ : w'.cell? ⟨(ad396.add ((x6_1).toNat * 2)).block, (ad396.add ((x6_1).toNat * 2)).off + 1, none⟩ = some (.int .i64 ((rd_T39 l0 x6_1).f1)) := ((HB.out.cell (World.block_lt_of_cell? w _ hw397_1)).trans hw397_1)
          refine value_ (w1 := w') (v := .pointer (some (ad396.add ((x6_1).toNat * 2)))) (by rfl) rfl ?_ ?_
          ·go_simp
           (try simp only [i64_w])
           try rfl
          refine hK.out _ _ ⟨gb398, gb399, m9_, m10_, (by rw [ha.out]; exact putSel_upk 3 hb_ rfl rfl rfl), Q_HB, Q_NB399_398, Q_NB398_399, Q_BK398, Q_GW398, Q_GE398, Q_BK399, Q_GW399, Q_GE399, Q_BK398_e11, fun h0_ => absurd ((hoff 12 (by kernel_rfl)).symm.trans h0_) (by decide), Q_X9_, Q_X10_⟩
         refine steps_cons ?_ ?_
         ·rintro b a w' ⟨gb398, gb399, m9_, m10_, ha, Q_HB, Q_NB399_398, Q_NB398_399, Q_BK398, Q_GW398, Q_GE398, Q_BK399, Q_GW399, Q_GE399, Q_BK398_e11, Q_BK399_e12, Q_X9_, Q_X10_⟩ hb_ hon hoff
          refine ⟨_, rfl, fun K hK => ?_⟩
          have e22 : a.tmps[22]? = some (.pointer (some (ad396.add ((x6_1).toNat * 2)))) := by rw [ha]; exact putSel_on (e := (7, 22, .pointer (some (ad396.add ((x6_1).toNat * 2))))) 3 rfl rfl (hon 7 (by kernel_rfl)) rfl
          replace ha := Aside0.mk ha
          have HB := Aside0.mk Q_HB
          have hs2_ : w'.cell? (ad396.add ((x6_1).toNat * 2)) = some (.int .i64 ((rd_T39 l0 x6_1).f0)) := ((HB.out.cell (World.block_lt_of_cell? w _ hw397_0)).trans hw397_0)
          have hs3_ : w'.cell? ⟨(ad396.add ((x6_1).toNat * 2)).block, (ad396.add ((x6_1).toNat * 2)).off + 1, none⟩ = some (.int .i64 ((rd_T39 l0 x6_1).f1)) := ((HB.out.cell (World.block_lt_of_cell? w _ hw397_1)).trans hw397_1)
          refine value_ (w1 := w') (v := .agg #[.int .i64 ((rd_T39 l0 x6_1).f0), .int .i64 ((rd_T39 l0 x6_1).f1)]) (by rfl) rfl ?_ ?_
          ·go_simp
           (try simp only [i64_w])
           try rfl
          refine hK.out _ _ ⟨gb398, gb399, m9_, m10_, (by rw [ha.out]; exact putSel_upk 4 hb_ rfl rfl rfl), Q_HB, Q_NB399_398, Q_NB398_399, Q_BK398, Q_GW398, Q_GE398, Q_BK399, Q_GW399, Q_GE399, Q_BK398_e11, fun h0_ => absurd ((hoff 12 (by kernel_rfl)).symm.trans h0_) (by decide), Q_X9_, Q_X10_⟩
         refine steps_cons ?_ ?_
         ·rintro b a w' ⟨gb398, gb399, m9_, m10_, ha, Q_HB, Q_NB399_398, Q_NB398_399, Q_BK398, Q_GW398, Q_GE398, Q_BK399, Q_GW399, Q_GE399, Q_BK398_e11, Q_BK399_e12, Q_X9_, Q_X10_⟩ hb_ hon hoff
          refine ⟨_, rfl, fun K hK => ?_⟩
          replace ha := Aside0.mk ha
          have HB := Aside0.mk Q_HB
          refine box_step ?hg (N := 7) ?hd (cs := #[.int .i64 0, .int .i64 0]) (t := 39) ?hr ?_; (case hd => rfl); (case hg => rfl); (case hr => first | (go_simp; done) | (go_simp; rfl))
          intro gb398 hg w10 hbox hb
          have n0_ := Aside0.mk (lqT (GS.lB HB.out) hb)
          have n1_ := Aside0.mk (hbox)
          have n2_ := Aside0.mk ((by rw [hg]; exact (lqZ (GS.lB HB.out)) : w.heap.size ≤ gb398))
          have n3_ := Aside0.mk ((by rw [hg]; exact (lqZ (GS.lB HB.out)) : w.heap.size ≤ gb398))
          have z_NB399_398 := fun (h0_ : up b 9 9 = true) (h1_ : up b 9 10 = true) => (show gb399 ≠ gb398 from ((by rw [hg]; exact Nat.ne_of_lt (blk_lt (GS.bqX (Q_BK399 h1_ (hoff 12 (by kernel_rfl))))) : gb399 ≠ gb398)))
          have z_NB398_399 := fun (h0_ : up b 9 9 = true) (h1_ : up b 9 10 = true) => (show gb398 ≠ gb399 from ((by rw [hg]; exact Nat.ne_of_gt (blk_lt (GS.bqX (Q_BK399 h1_ (hoff 12 (by kernel_rfl))))) : gb398 ≠ gb399)))
          have z_BK399 := fun (h0_ : b 10 = true) (h1_ : b 12 = false) => (show w10.heap[gb399]? = some (.cells #[.int .i64 0, .int .i64 0] 39 (0, 0)) from by first | exact (bqB (GS.bqX (Q_BK399 h0_ h1_)) hb))
          clear HB
          have HB := n0_
          have BK398 := n1_
          have GW398 := n2_
          have GE398 := n3_
          clear n0_ n1_ n2_ n3_
          clear hb hbox hg
          refine hK.out _ _ ⟨gb398, gb399, (.pointer (some ⟨gb398, 0, none⟩)), m10_, (by rw [ha.out]; exact putSel_upk 5 hb_ rfl rfl rfl), (GS.lB HB.out), z_NB399_398, z_NB398_399, fun _ _ => (GS.bqX BK398.out), fun _ => GW398.out, fun _ => GE398.out, z_BK399, Q_GW399, Q_GE399, fun h0_ => absurd ((hoff 11 (by kernel_rfl)).symm.trans h0_) (by decide), fun h0_ => absurd ((hoff 12 (by kernel_rfl)).symm.trans h0_) (by decide), fun _ => rfl, Q_X10_⟩
         refine steps_cons ?_ ?_
         ·rintro b a w' ⟨gb398, gb399, m9_, m10_, ha, Q_HB, Q_NB399_398, Q_NB398_399, Q_BK398, Q_GW398, Q_GE398, Q_BK399, Q_GW399, Q_GE399, Q_BK398_e11, Q_BK399_e12, Q_X9_, Q_X10_⟩ hb_ hon hoff
          refine ⟨_, rfl, fun K hK => ?_⟩
          replace ha := Aside0.mk ha
          have HB := Aside0.mk Q_HB
          refine box_step ?hg (N := 8) ?hd (cs := #[.int .i64 0, .int .i64 0]) (t := 39) ?hr ?_; (case hd => rfl); (case hg => rfl); (case hr => first | (go_simp; done) | (go_simp; rfl))
          intro gb399 hg w10 hbox hb
          have n0_ := Aside0.mk (lqT (GS.lB HB.out) hb)
          have n1_ := Aside0.mk (hbox)
          have n2_ := Aside0.mk ((by rw [hg]; exact (lqZ (GS.lB HB.out)) : w.heap.size ≤ gb399))
          have n3_ := Aside0.mk ((by rw [hg]; exact (lqZ (GS.lB HB.out)) : w.heap.size ≤ gb399))
          have z_NB399_398 := fun (h0_ : up b 10 9 = true) (h1_ : up b 10 10 = true) => (show gb399 ≠ gb398 from ((by rw [hg]; exact Nat.ne_of_gt (blk_lt (GS.bqX (Q_BK398 h0_ (hoff 11 (by kernel_rfl))))) : gb399 ≠ gb398)))
          have z_NB398_399 := fun (h0_ : up b 10 9 = true) (h1_ : up b 10 10 = true) => (show gb398 ≠ gb399 from ((by rw [hg]; exact Nat.ne_of_lt (blk_lt (GS.bqX (Q_BK398 h0_ (hoff 11 (by kernel_rfl))))) : gb398 ≠ gb399)))
          have z_BK398 := fun (h0_ : b 9 = true) (h1_ : b 11 = false) => (show w10.heap[gb398]? = some (.cells #[.int .i64 0, .int .i64 0] 39 (0, 0)) from by first | exact (bqB (GS.bqX (Q_BK398 h0_ h1_)) hb))
          clear HB
          have HB := n0_
          have BK399 := n1_
          have GW399 := n2_
          have GE399 := n3_
          clear n0_ n1_ n2_ n3_
          clear hb hbox hg
          refine hK.out _ _ ⟨gb398, gb399, m9_, (.pointer (some ⟨gb399, 0, none⟩)), (by rw [ha.out]; exact putSel_upk 6 hb_ rfl rfl rfl), (GS.lB HB.out), z_NB399_398, z_NB398_399, z_BK398, Q_GW398, Q_GE398, fun _ _ => (GS.bqX BK399.out), fun _ => GW399.out, fun _ => GE399.out, fun h0_ => absurd ((hoff 11 (by kernel_rfl)).symm.trans h0_) (by decide), fun h0_ => absurd ((hoff 12 (by kernel_rfl)).symm.trans h0_) (by decide), Q_X9_, fun _ => rfl⟩
         refine steps_cons ?_ ?_
         ·rintro b a w' ⟨gb398, gb399, m9_, m10_, ha, Q_HB, Q_NB399_398, Q_NB398_399, Q_BK398, Q_GW398, Q_GE398, Q_BK399, Q_GW399, Q_GE399, Q_BK398_e11, Q_BK399_e12, Q_X9_, Q_X10_⟩ hb_ hon hoff
          refine ⟨_, rfl, fun K hK => ?_⟩
          have e7 : a.tmps[7]? = some (m9_) := by rw [ha]; exact putSel_on (e := (9, 7, m9_)) 5 rfl rfl (hon 9 (by kernel_rfl)) rfl
          rw [Q_X9_ (hon 9 (by kernel_rfl))] at e7
          have e19 : a.tmps[19]? = some (.agg #[.int .i64 ((rd_T39 l0 (ji4)).f0), .int .i64 ((rd_T39 l0 (ji4)).f1)]) := by rw [ha]; exact putSel_on (e := (4, 19, .agg #[.int .i64 ((rd_T39 l0 (ji4)).f0), .int .i64 ((rd_T39 l0 (ji4)).f1)])) 2 rfl rfl (hon 4 (by kernel_rfl)) rfl
          replace ha := Aside0.mk ha
          have HB := Aside0.mk Q_HB
          have NB399_398 := Aside0.mk (Q_NB399_398 (hon 9 (by kernel_rfl)) (hon 10 (by kernel_rfl)))
          have NB398_399 := Aside0.mk (Q_NB398_399 (hon 9 (by kernel_rfl)) (hon 10 (by kernel_rfl)))
          have BK398 := Aside0.mk (Q_BK398 (hon 9 (by kernel_rfl)) hb_)
          have GW398 := Aside0.mk (Q_GW398 (hon 9 (by kernel_rfl)))
          have GE398 := Aside0.mk (Q_GE398 (hon 9 (by kernel_rfl)))
          have BK399 := Aside0.mk (Q_BK399 (hon 10 (by kernel_rfl)) (hoff 12 (by kernel_rfl)))
          have GW399 := Aside0.mk (Q_GW399 (hon 10 (by kernel_rfl)))
          have GE399 := Aside0.mk (Q_GE399 (hon 10 (by kernel_rfl)))
          have hs13 : w'.cell? ⟨gb398, 0, none⟩ = some (.int .i64 0) := (bqC BK398.out 0).trans rfl
          have hfs13 := bqF BK398.out 0
          have hns13_1 := NB399_398.out
          have hms13_1 := NB398_399.out
          have hs14 : w'.cell? ⟨gb398, 1, none⟩ = some (.int .i64 0) := (bqC BK398.out 1).trans rfl
          have hfs14 := bqF BK398.out 1
          have hns14_1 := NB399_398.out
          have hms14_1 := NB398_399.out
          refine skip_ (w1 := ?_) (by rfl) rfl ?_ ?_
          rotate_left
          ·go_simp
           rfl
          refine hK.out _ _ ⟨gb398, gb399, m9_, m10_, (by rw [ha.out]; exact putSel_none (v := undef) rfl), (GS.lB HB.out), fun _ _ => NB399_398.out, fun _ _ => NB398_399.out, fun _ h1_ => absurd ((up_self b 11).symm.trans h1_) (by decide), fun _ => GW398.out, fun _ => GE398.out, fun _ _ => (GS.bqX BK399.out), fun _ => GW399.out, fun _ => GE399.out, fun _ => (GS.bqZ BK398.out), fun h0_ => absurd ((hoff 12 (by kernel_rfl)).symm.trans h0_) (by decide), Q_X9_, Q_X10_⟩
         refine steps_cons ?_ ?_
         ·rintro b a w' ⟨gb398, gb399, m9_, m10_, ha, Q_HB, Q_NB399_398, Q_NB398_399, Q_BK398, Q_GW398, Q_GE398, Q_BK399, Q_GW399, Q_GE399, Q_BK398_e11, Q_BK399_e12, Q_X9_, Q_X10_⟩ hb_ hon hoff
          refine ⟨_, rfl, fun K hK => ?_⟩
          have e8 : a.tmps[8]? = some (m10_) := by rw [ha]; exact putSel_on (e := (10, 8, m10_)) 6 rfl rfl (hon 10 (by kernel_rfl)) rfl
          rw [Q_X10_ (hon 10 (by kernel_rfl))] at e8
          have e23 : a.tmps[23]? = some (.agg #[.int .i64 ((rd_T39 l0 x6_1).f0), .int .i64 ((rd_T39 l0 x6_1).f1)]) := by rw [ha]; exact putSel_on (e := (8, 23, .agg #[.int .i64 ((rd_T39 l0 x6_1).f0), .int .i64 ((rd_T39 l0 x6_1).f1)])) 4 rfl rfl (hon 8 (by kernel_rfl)) rfl
          replace ha := Aside0.mk ha
          have HB := Aside0.mk Q_HB
          have NB399_398 := Aside0.mk (Q_NB399_398 (hon 9 (by kernel_rfl)) (hon 10 (by kernel_rfl)))
          have NB398_399 := Aside0.mk (Q_NB398_399 (hon 9 (by kernel_rfl)) (hon 10 (by kernel_rfl)))
          have GW398 := Aside0.mk (Q_GW398 (hon 9 (by kernel_rfl)))
          have GE398 := Aside0.mk (Q_GE398 (hon 9 (by kernel_rfl)))
          have BK399 := Aside0.mk (Q_BK399 (hon 10 (by kernel_rfl)) hb_)
          have GW399 := Aside0.mk (Q_GW399 (hon 10 (by kernel_rfl)))
          have GE399 := Aside0.mk (Q_GE399 (hon 10 (by kernel_rfl)))
          have BK398 := Aside0.mk (Q_BK398_e11 (hon 11 (by kernel_rfl)))
          have hs15 : w'.cell? ⟨gb399, 0, none⟩ = some (.int .i64 0) := (bqC BK399.out 0).trans rfl
          have hfs15 := bqF BK399.out 0
          have hns15_0 := NB398_399.out
          have hms15_0 := NB399_398.out
          have hs16 : w'.cell? ⟨gb399, 1, none⟩ = some (.int .i64 0) := (bqC BK399.out 1).trans rfl
          have hfs16 := bqF BK399.out 1
          have hns16_0 := NB398_399.out
          have hms16_0 := NB399_398.out
          refine skip_ (w1 := ?_) (by rfl) rfl ?_ ?_
          rotate_left
          ·go_simp
           rfl
          refine hK.out _ _ ⟨gb398, gb399, m9_, m10_, (by rw [ha.out]; exact putSel_none (v := undef) rfl), (GS.lB HB.out), fun _ _ => NB399_398.out, fun _ _ => NB398_399.out, fun _ h1_ => absurd ((hon 11 (by kernel_rfl)).symm.trans h1_) (by decide), fun _ => GW398.out, fun _ => GE398.out, fun _ h1_ => absurd ((up_self b 12).symm.trans h1_) (by decide), fun _ => GW399.out, fun _ => GE399.out, fun _ => (GS.bqX BK398.out), fun _ => (GS.bqZ BK399.out), Q_X9_, Q_X10_⟩
         exact steps_nil
        rintro b a w16 hall ⟨gb398, gb399, m9_, m10_, ha, Q_HB, Q_NB399_398, Q_NB398_399, Q_BK398, Q_GW398, Q_GE398, Q_BK399, Q_GW399, Q_GE399, Q_BK398_e11, Q_BK399_e12, Q_X9_, Q_X10_⟩
        clear HB
        have hb2_ := hall 2 (by kernel_rfl)
        have hb3_ := hall 3 (by kernel_rfl)
        have hb4_ := hall 4 (by kernel_rfl)
        have hb7_ := hall 7 (by kernel_rfl)
        have hb8_ := hall 8 (by kernel_rfl)
        have hb9_ := hall 9 (by kernel_rfl)
        have hb10_ := hall 10 (by kernel_rfl)
        have hb11_ := hall 11 (by kernel_rfl)
        have hb12_ := hall 12 (by kernel_rfl)
        subst ha
        obtain rfl := Q_X9_ hb9_
        obtain rfl := Q_X10_ hb10_
        simp only [putSel, hb2_, hb3_, hb4_, hb7_, hb8_, hb9_, hb10_, hb11_, hb12_, if_true, Act.put, List.setIfInBounds_toArray, List.set_cons_zero, List.set_cons_succ]
        have HB := Aside0.mk Q_HB
        clear Q_HB
        have NB399_398 := Aside0.mk (Q_NB399_398 hb9_ hb10_)
        clear Q_NB399_398
        have NB398_399 := Aside0.mk (Q_NB398_399 hb9_ hb10_)
        clear Q_NB398_399
        clear Q_BK398
        have GW398 := Aside0.mk (Q_GW398 hb9_)
        clear Q_GW398
        have GE398 := Aside0.mk (Q_GE398 hb9_)
        clear Q_GE398
        clear Q_BK399
        have GW399 := Aside0.mk (Q_GW399 hb10_)
        clear Q_GW399
        have GE399 := Aside0.mk (Q_GE399 hb10_)
        clear Q_GE399
        have BK398 := Aside0.mk (Q_BK398_e11 hb11_)
        clear Q_BK398_e11
        have BK399 := Aside0.mk (Q_BK399_e12 hb12_)
        clear Q_BK399_e12
        clear hall hb2_ hb3_ hb4_ hb7_ hb8_ hb9_ hb10_ hb11_ hb12_
        have hnb17 := NB399_398.out
        have hnc17 := NB398_399.out
        obtain ⟨hcz18_0, hcz18_1, hfz18_0, hfz18_1⟩ := GS.c2 BK399.out
        try go_wp2
        have q_ := GS.q3 (Aside0.mk (bqD BK398.out)) (Aside0.mk (bqD BK399.out)) (Aside0.mk (lqD HB.out))
        clear BK398 BK399 HB
        obtain ⟨BK398, BK399, HB⟩ := q_
        refine start_ (n := 26) (S := fun w' => w'.cell? ⟨gb398, 0, none⟩ = some (.int .i64 ((rd_T39 l0 (ji4)).f0)) ∧ w'.cell? ⟨gb398, 1, none⟩ = some (.int .i64 ((rd_T39 l0 (ji4)).f1)) ∧ w'.cell? ⟨gb399, 0, none⟩ = some (.int .i64 ((rd_T39 l0 x6_1).f0)) ∧ w'.cell? ⟨gb399, 1, none⟩ = some (.int .i64 ((rd_T39 l0 x6_1).f1))) (ds := []) #[false, false, false, false, false, false, false, false, false, false, false, false, false, false, false, false, false, false, false, false, false, false, false, false, false, false] (by kernel_rfl) rfl rfl ⟨(bqC BK398.out 0).trans rfl, (bqC BK398.out 1).trans rfl, (bqC BK399.out 0).trans rfl, (bqC BK399.out 1).trans rfl⟩ (fun hHeld => ?_); refine with_tabW spileref08_radius.tab6 spileref08_radius.bits6 (fun HT_ HW_ => ?_)
        generalize w16.drew = w19 at BK398 BK399 HB hHeld ⊢
        refine GS.pu 0 (some 28) HT_.out ?_
        refine GS.pu 2 (some 30) HT_.out ?_
        refine GS.pu 4 (some 32) HT_.out ?_
        refine GS.pu 8 (some 36) HT_.out ?_
        refine GS.pu 10 (some 38) HT_.out ?_
        refine GS.pu 13 (some 41) HT_.out ?_
        refine GS.pu 14 (some 42) HT_.out ?_
        refine GS.pu 19 (some 47) HT_.out ?_
        refine GS.pu 21 (some 49) HT_.out ?_
        refine GS.tk 1 (some 29) HT_.out HW_.out hHeld ?_
        refine GS.tk 3 (some 31) HT_.out HW_.out hHeld ?_
        refine GS.tk 5 (some 33) HT_.out HW_.out hHeld ?_
        refine GS.pu 6 (some 34) HT_.out ?_
        refine GS.pu 7 (some 35) HT_.out ?_
        refine GS.tk 9 (some 37) HT_.out HW_.out hHeld ?_
        refine GS.tk 11 (some 39) HT_.out HW_.out hHeld ?_
        refine GS.pu 12 (some 40) HT_.out ?_
        refine GS.tk 15 (some 43) HT_.out HW_.out hHeld ?_
        refine GS.pu 16 (some 44) HT_.out ?_
        refine GS.pu 17 (some 45) HT_.out ?_
        refine GS.pu 18 (some 46) HT_.out ?_
        refine GS.pu 24 (some 4) HT_.out ?_
        refine GS.tk 20 (some 48) HT_.out HW_.out hHeld ?_
        refine GS.tk 22 (some 50) HT_.out HW_.out hHeld ?_
        refine GS.pu 23 (some 51) HT_.out ?_
        refine GS.pu 25 (some 5) HT_.out ?_
        refine done_ (done_of HT_.out (by kernel_rfl)) ?_
        try go_wp2
        go_ret2
        exact ⟨by first | rfl | (simp [errW_none, errW_some] <;> rfl) | (simp only [← hji4]; first | rfl | (simp [errW_none, errW_some] <;> rfl)) | (simp [*, errW_none, errW_some] <;> rfl), GS.lB HB.out⟩
       ·rw [if_neg c8] at H
        have c8b0 : decide (a1 ≤ ((rd_T39 l0 x6_1).f0)) = false := decide_eq_false c8
        clear c8
        have H' := Aside0.mk H
        clear H
        try go_wp2
        replace HB := Aside0.mk (lqD HB.out)
        have p396 : 0 ≤ ((ji4) : Int) := of_decide_eq_true (by first | (with_reducible assumption) | assumption)
        have q396 : (ji4) < (l0.length : Int) := of_decide_eq_true (by first | (with_reducible assumption) | assumption)
        obtain ⟨ad396, e396, hx396_0, hx396_1⟩ := at_T39 HR0.out (ji4) p396 q396
        have hw396_1 := hx396_1
        have hw396_0 := hx396_0
        cases e396
        replace hx396_0 := (HB.out.cell (World.block_lt_of_cell? w _ hx396_0)).trans hx396_0
        replace hx396_1 := (HB.out.cell (World.block_lt_of_cell? w _ hx396_1)).trans hx396_1
        replace p396 := eq_true p396
        replace q396 := eq_true q396
        have p397 : 0 ≤ (x6_1 : Int) := of_decide_eq_true (by first | (with_reducible assumption) | assumption)
        have q397 : x6_1 < (l0.length : Int) := of_decide_eq_true (by first | (with_reducible assumption) | assumption)
        obtain ⟨ad397, e397, hx397_0, hx397_1⟩ := at_T39 HR0.out x6_1 p397 q397
        have hw397_1 := hx397_1
        have hw397_0 := hx397_0
        obtain rfl : ad396 = ad397 := (by injection e397)
        replace hx397_0 := (HB.out.cell (World.block_lt_of_cell? w _ hx397_0)).trans hx397_0
        replace hx397_1 := (HB.out.cell (World.block_lt_of_cell? w _ hx397_1)).trans hx397_1
        replace p397 := eq_true p397
        replace q397 := eq_true q397
        refine start_ (n := 13) (S := fun w' => True) (ds := []) #[false, false, false, false, false, false, false, false, false, false, false, false, false] (by kernel_rfl) rfl rfl trivial (fun hHeld => ?_); refine with_tabW spileref08_radius.tab4 spileref08_radius.bits4 (fun HT_ HW_ => ?_)
        generalize wr.drew = w20 at HB hx396_0 hx396_1 hx397_0 hx397_1 hHeld ⊢
        refine GS.pu 0 (some 15) HT_.out ?_
        refine GS.pu 1 (some 16) HT_.out ?_
        refine GS.pu 5 (some 20) HT_.out ?_
        refine GS.pu 6 (some 21) HT_.out ?_
        refine inv_at [2, 3, 4, 7, 8, 9, 10, 11, 12] (fun a0_ b a w' => ∃ (gb398 : Nat) (gb399 : Nat) (m9_ : Value) (m10_ : Value), a = putSel a0_ b [(2, 17, .int .i64 ji4), (3, 18, .pointer (some (ad396.add (((ji4)).toNat * 2)))), (4, 19, .agg #[.int .i64 ((rd_T39 l0 (ji4)).f0), .int .i64 ((rd_T39 l0 (ji4)).f1)]), (7, 22, .pointer (some (ad396.add ((x6_1).toNat * 2)))), (8, 23, .agg #[.int .i64 ((rd_T39 l0 x6_1).f0), .int .i64 ((rd_T39 l0 x6_1).f1)]), (9, 7, m9_), (10, 8, m10_)] ∧ (Below w.heap.size w w') ∧ (b 9 = true → b 10 = true → gb399 ≠ gb398) ∧ (b 9 = true → b 10 = true → gb398 ≠ gb399) ∧ (b 9 = true → b 11 = false → w'.heap[gb398]? = some (.cells #[.int .i64 0, .int .i64 0] 39 (0, 0))) ∧ (b 9 = true → w.heap.size ≤ gb398) ∧ (b 9 = true → w.heap.size ≤ gb398) ∧ (b 10 = true → b 12 = false → w'.heap[gb399]? = some (.cells #[.int .i64 0, .int .i64 0] 39 (0, 0))) ∧ (b 10 = true → w.heap.size ≤ gb399) ∧ (b 10 = true → w.heap.size ≤ gb399) ∧ (b 11 = true → w'.heap[gb398]? = some (.cells #[.int .i64 ((rd_T39 l0 (ji4)).f0), .int .i64 ((rd_T39 l0 (ji4)).f1)] 39 (0, 0))) ∧ (b 12 = true → w'.heap[gb399]? = some (.cells #[.int .i64 ((rd_T39 l0 x6_1).f0), .int .i64 ((rd_T39 l0 x6_1).f1)] 39 (0, 0))) ∧ (b 9 = true → (m9_ : Value) = .pointer (some ⟨gb398, 0, none⟩)) ∧ (b 10 = true → (m10_ : Value) = .pointer (some ⟨gb399, 0, none⟩))) HT_.out HW_.out (by kernel_rfl) (by kernel_rfl) ?_ ?_ ?_
        ·exact ⟨0, 0, .bool false, .bool false, by simp only [putSel, Bool.false_eq_true, if_false], HB.out, fun h_ => absurd h_ (by decide), fun h_ => absurd h_ (by decide), fun h_ => absurd h_ (by decide), fun h_ => absurd h_ (by decide), fun h_ => absurd h_ (by decide), fun h_ => absurd h_ (by decide), fun h_ => absurd h_ (by decide), fun h_ => absurd h_ (by decide), fun h_ => absurd h_ (by decide), fun h_ => absurd h_ (by decide), fun h_ => absurd h_ (by decide), fun h_ => absurd h_ (by decide)⟩
        ·skip
         clear HB
         refine steps_cons ?_ ?_
         ·rintro b a w' ⟨gb398, gb399, m9_, m10_, ha, Q_HB, Q_NB399_398, Q_NB398_399, Q_BK398, Q_GW398, Q_GE398, Q_BK399, Q_GW399, Q_GE399, Q_BK398_e11, Q_BK399_e12, Q_X9_, Q_X10_⟩ hb_ hon hoff
          refine ⟨_, rfl, fun K hK => ?_⟩
          have e16 : a.tmps[16]? = some (.int .i64 x6_1) := by rw [ha]; exact (putSel_off rfl).trans rfl
          replace ha := Aside0.mk ha
          have HB := Aside0.mk Q_HB
          refine value_ (w1 := w') (v := .int .i64 ji4) (by rfl) rfl ?_ ?_
          ·go_simp
           (try simp only [i64_w])
           try rfl
          refine hK.out _ _ ⟨gb398, gb399, m9_, m10_, (by rw [ha.out]; exact putSel_upk 0 hb_ rfl rfl rfl), Q_HB, Q_NB399_398, Q_NB398_399, Q_BK398, Q_GW398, Q_GE398, Q_BK399, Q_GW399, Q_GE399, fun h0_ => absurd ((hoff 11 (by kernel_rfl)).symm.trans h0_) (by decide), fun h0_ => absurd ((hoff 12 (by kernel_rfl)).symm.trans h0_) (by decide), Q_X9_, Q_X10_⟩
         refine steps_cons ?_ ?_
         ·rintro b a w' ⟨gb398, gb399, m9_, m10_, ha, Q_HB, Q_NB399_398, Q_NB398_399, Q_BK398, Q_GW398, Q_GE398, Q_BK399, Q_GW399, Q_GE399, Q_BK398_e11, Q_BK399_e12, Q_X9_, Q_X10_⟩ hb_ hon hoff
          refine ⟨_, rfl, fun K hK => ?_⟩
          have e15 : a.tmps[15]? = some (.slice (some ad396) l0.length c0) := by rw [ha]; exact (putSel_off rfl).trans rfl
          have e17 : a.tmps[17]? = some (.int .i64 ji4) := by rw [ha]; exact putSel_on (e := (2, 17, .int .i64 ji4)) 0 rfl rfl (hon 2 (by kernel_rfl)) rfl
          replace ha := Aside0.mk ha
          have HB := Aside0.mk Q_HB
          have hs0_ : w'.cell? (ad396.add (((ji4)).toNat * 2)) = some (.int .i64 ((rd_T39 l0 (ji4)).f0)) := ((HB.out.cell (World.block_lt_of_cell? w _ hw396_0)).trans hw396_0)
          have hs1_ : w'.cell? ⟨(ad396.add (((ji4)).toNat * 2)).block, (ad396.add (((ji4)).toNat * 2)).off + 1, none⟩ = some (.int .i64 ((rd_T39 l0 (ji4)).f1)) := ((HB.out.cell (World.block_lt_of_cell? w _ hw396_1)).trans hw396_1)
          refine value_ (w1 := w') (v := .pointer (some (ad396.add (((ji4)).toNat * 2)))) (by rfl) rfl ?_ ?_
          ·go_simp
           (try simp only [i64_w])
           try rfl
          refine hK.out _ _ ⟨gb398, gb399, m9_, m10_, (by rw [ha.out]; exact putSel_upk 1 hb_ rfl rfl rfl), Q_HB, Q_NB399_398, Q_NB398_399, Q_BK398, Q_GW398, Q_GE398, Q_BK399, Q_GW399, Q_GE399, fun h0_ => absurd ((hoff 11 (by kernel_rfl)).symm.trans h0_) (by decide), fun h0_ => absurd ((hoff 12 (by kernel_rfl)).symm.trans h0_) (by decide), Q_X9_, Q_X10_⟩
         refine steps_cons ?_ ?_
         ·rintro b a w' ⟨gb398, gb399, m9_, m10_, ha, Q_HB, Q_NB399_398, Q_NB398_399, Q_BK398, Q_GW398, Q_GE398, Q_BK399, Q_GW399, Q_GE399, Q_BK398_e11, Q_BK399_e12, Q_X9_, Q_X10_⟩ hb_ hon hoff
          refine ⟨_, rfl, fun K hK => ?_⟩
          have e18 : a.tmps[18]? = some (.pointer (some (ad396.add (((ji4)).toNat * 2)))) := by rw [ha]; exact putSel_on (e := (3, 18, .pointer (some (ad396.add (((ji4)).toNat * 2))))) 1 rfl rfl (hon 3 (by kernel_rfl)) rfl
          replace ha := Aside0.mk ha
          have HB := Aside0.mk Q_HB
          have hs0_ : w'.cell? (ad396.add (((ji4)).toNat * 2)) = some (.int .i64 ((rd_T39 l0 (ji4)).f0)) := ((HB.out.cell (World.block_lt_of_cell? w _ hw396_0)).trans hw396_0)
          have hs1_ : w'.cell? ⟨(ad396.add (((ji4)).toNat * 2)).block, (ad396.add (((ji4)).toNat * 2)).off + 1, none⟩ = some (.int .i64 ((rd_T39 l0 (ji4)).f1)) := ((HB.out.cell (World.block_lt_of_cell? w _ hw396_1)).trans hw396_1)
          refine value_ (w1 := w') (v := .agg #[.int .i64 ((rd_T39 l0 (ji4)).f0), .int .i64 ((rd_T39 l0 (ji4)).f1)]) (by rfl) rfl ?_ ?_
          ·go_simp
           (try simp only [i64_w])
           try rfl
          refine hK.out _ _ ⟨gb398, gb399, m9_, m10_, (by rw [ha.out]; exact putSel_upk 2 hb_ rfl rfl rfl), Q_HB, Q_NB399_398, Q_NB398_399, Q_BK398, Q_GW398, Q_GE398, Q_BK399, Q_GW399, Q_GE399, fun h0_ => absurd ((hoff 11 (by kernel_rfl)).symm.trans h0_) (by decide), fun h0_ => absurd ((hoff 12 (by kernel_rfl)).symm.trans h0_) (by decide), Q_X9_, Q_X10_⟩
         refine steps_cons ?_ ?_
         ·rintro b a w' ⟨gb398, gb399, m9_, m10_, ha, Q_HB, Q_NB399_398, Q_NB398_399, Q_BK398, Q_GW398, Q_GE398, Q_BK399, Q_GW399, Q_GE399, Q_BK398_e11, Q_BK399_e12, Q_X9_, Q_X10_⟩ hb_ hon hoff
          refine ⟨_, rfl, fun K hK => ?_⟩
          have e20 : a.tmps[20]? = some (.slice (some ad396) l0.length c0) := by rw [ha]; exact (putSel_off rfl).trans rfl
          have e21 : a.tmps[21]? = some (.int .i64 x6_1) := by rw [ha]; exact (putSel_off rfl).trans rfl
          replace ha := Aside0.mk ha
          have HB := Aside0.mk Q_HB
          have hs2_ : w'.cell? (ad396.add ((x6_1).toNat * 2)) = some (.int .i64 ((rd_T39 l0 x6_1).f0)) := ((HB.out.cell (World.block_lt_of_cell? w _ hw397_0)).trans hw397_0)
          have hs3_ : w'.cell? ⟨(ad396.add ((x6_1).toNat * 2)).block, (ad396.add ((x6_1).toNat * 2)).off + 1, none⟩ = some (.int .i64 ((rd_T39 l0 x6_1).f1)) := ((HB.out.cell (World.block_lt_of_cell? w _ hw397_1)).trans hw397_1)
          refine value_ (w1 := w') (v := .pointer (some (ad396.add ((x6_1).toNat * 2)))) (by rfl) rfl ?_ ?_
          ·go_simp
           (try simp only [i64_w])
           try rfl
          refine hK.out _ _ ⟨gb398, gb399, m9_, m10_, (by rw [ha.out]; exact putSel_upk 3 hb_ rfl rfl rfl), Q_HB, Q_NB399_398, Q_NB398_399, Q_BK398, Q_GW398, Q_GE398, Q_BK399, Q_GW399, Q_GE399, Q_BK398_e11, fun h0_ => absurd ((hoff 12 (by kernel_rfl)).symm.trans h0_) (by decide), Q_X9_, Q_X10_⟩
         refine steps_cons ?_ ?_
         ·rintro b a w' ⟨gb398, gb399, m9_, m10_, ha, Q_HB, Q_NB399_398, Q_NB398_399, Q_BK398, Q_GW398, Q_GE398, Q_BK399, Q_GW399, Q_GE399, Q_BK398_e11, Q_BK399_e12, Q_X9_, Q_X10_⟩ hb_ hon hoff
          refine ⟨_, rfl, fun K hK => ?_⟩
          have e22 : a.tmps[22]? = some (.pointer (some (ad396.add ((x6_1).toNat * 2)))) := by rw [ha]; exact putSel_on (e := (7, 22, .pointer (some (ad396.add ((x6_1).toNat * 2))))) 3 rfl rfl (hon 7 (by kernel_rfl)) rfl
          replace ha := Aside0.mk ha
          have HB := Aside0.mk Q_HB
          have hs2_ : w'.cell? (ad396.add ((x6_1).toNat * 2)) = some (.int .i64 ((rd_T39 l0 x6_1).f0)) := ((HB.out.cell (World.block_lt_of_cell? w _ hw397_0)).trans hw397_0)
          have hs3_ : w'.cell? ⟨(ad396.add ((x6_1).toNat * 2)).block, (ad396.add ((x6_1).toNat * 2)).off + 1, none⟩ = some (.int .i64 ((rd_T39 l0 x6_1).f1)) := ((HB.out.cell (World.block_lt_of_cell? w _ hw397_1)).trans hw397_1)
          refine value_ (w1 := w') (v := .agg #[.int .i64 ((rd_T39 l0 x6_1).f0), .int .i64 ((rd_T39 l0 x6_1).f1)]) (by rfl) rfl ?_ ?_
          ·go_simp
           (try simp only [i64_w])
           try rfl
          refine hK.out _ _ ⟨gb398, gb399, m9_, m10_, (by rw [ha.out]; exact putSel_upk 4 hb_ rfl rfl rfl), Q_HB, Q_NB399_398, Q_NB398_399, Q_BK398, Q_GW398, Q_GE398, Q_BK399, Q_GW399, Q_GE399, Q_BK398_e11, fun h0_ => absurd ((hoff 12 (by kernel_rfl)).symm.trans h0_) (by decide), Q_X9_, Q_X10_⟩
         refine steps_cons ?_ ?_
         ·rintro b a w' ⟨gb398, gb399, m9_, m10_, ha, Q_HB, Q_NB399_398, Q_NB398_399, Q_BK398, Q_GW398, Q_GE398, Q_BK399, Q_GW399, Q_GE399, Q_BK398_e11, Q_BK399_e12, Q_X9_, Q_X10_⟩ hb_ hon hoff
          refine ⟨_, rfl, fun K hK => ?_⟩
          replace ha := Aside0.mk ha
          have HB := Aside0.mk Q_HB
          refine box_step ?hg (N := 7) ?hd (cs := #[.int .i64 0, .int .i64 0]) (t := 39) ?hr ?_; (case hd => rfl); (case hg => rfl); (case hr => first | (go_simp; done) | (go_simp; rfl))
          intro gb398 hg w21 hbox hb
          have n0_ := Aside0.mk (lqT (GS.lB HB.out) hb)
          have n1_ := Aside0.mk (hbox)
          have n2_ := Aside0.mk ((by rw [hg]; exact (lqZ (GS.lB HB.out)) : w.heap.size ≤ gb398))
          have n3_ := Aside0.mk ((by rw [hg]; exact (lqZ (GS.lB HB.out)) : w.heap.size ≤ gb398))
          have z_NB399_398 := fun (h0_ : up b 9 9 = true) (h1_ : up b 9 10 = true) => (show gb399 ≠ gb398 from ((by rw [hg]; exact Nat.ne_of_lt (blk_lt (GS.bqX (Q_BK399 h1_ (hoff 12 (by kernel_rfl))))) : gb399 ≠ gb398)))
          have z_NB398_399 := fun (h0_ : up b 9 9 = true) (h1_ : up b 9 10 = true) => (show gb398 ≠ gb399 from ((by rw [hg]; exact Nat.ne_of_gt (blk_lt (GS.bqX (Q_BK399 h1_ (hoff 12 (by kernel_rfl))))) : gb398 ≠ gb399)))
          have z_BK399 := fun (h0_ : b 10 = true) (h1_ : b 12 = false) => (show w21.heap[gb399]? = some (.cells #[.int .i64 0, .int .i64 0] 39 (0, 0)) from by first | exact (bqB (GS.bqX (Q_BK399 h0_ h1_)) hb))
          clear HB
          have HB := n0_
          have BK398 := n1_
          have GW398 := n2_
          have GE398 := n3_
          clear n0_ n1_ n2_ n3_
          clear hb hbox hg
          refine hK.out _ _ ⟨gb398, gb399, (.pointer (some ⟨gb398, 0, none⟩)), m10_, (by rw [ha.out]; exact putSel_upk 5 hb_ rfl rfl rfl), (GS.lB HB.out), z_NB399_398, z_NB398_399, fun _ _ => (GS.bqX BK398.out), fun _ => GW398.out, fun _ => GE398.out, z_BK399, Q_GW399, Q_GE399, fun h0_ => absurd ((hoff 11 (by kernel_rfl)).symm.trans h0_) (by decide), fun h0_ => absurd ((hoff 12 (by kernel_rfl)).symm.trans h0_) (by decide), fun _ => rfl, Q_X10_⟩
         refine steps_cons ?_ ?_
         ·rintro b a w' ⟨gb398, gb399, m9_, m10_, ha, Q_HB, Q_NB399_398, Q_NB398_399, Q_BK398, Q_GW398, Q_GE398, Q_BK399, Q_GW399, Q_GE399, Q_BK398_e11, Q_BK399_e12, Q_X9_, Q_X10_⟩ hb_ hon hoff
          refine ⟨_, rfl, fun K hK => ?_⟩
          replace ha := Aside0.mk ha
          have HB := Aside0.mk Q_HB
          refine box_step ?hg (N := 8) ?hd (cs := #[.int .i64 0, .int .i64 0]) (t := 39) ?hr ?_; (case hd => rfl); (case hg => rfl); (case hr => first | (go_simp; done) | (go_simp; rfl))
          intro gb399 hg w21 hbox hb
          have n0_ := Aside0.mk (lqT (GS.lB HB.out) hb)
          have n1_ := Aside0.mk (hbox)
          have n2_ := Aside0.mk ((by rw [hg]; exact (lqZ (GS.lB HB.out)) : w.heap.size ≤ gb399))
          have n3_ := Aside0.mk ((by rw [hg]; exact (lqZ (GS.lB HB.out)) : w.heap.size ≤ gb399))
          have z_NB399_398 := fun (h0_ : up b 10 9 = true) (h1_ : up b 10 10 = true) => (show gb399 ≠ gb398 from ((by rw [hg]; exact Nat.ne_of_gt (blk_lt (GS.bqX (Q_BK398 h0_ (hoff 11 (by kernel_rfl))))) : gb399 ≠ gb398)))
          have z_NB398_399 := fun (h0_ : up b 10 9 = true) (h1_ : up b 10 10 = true) => (show gb398 ≠ gb399 from ((by rw [hg]; exact Nat.ne_of_lt (blk_lt (GS.bqX (Q_BK398 h0_ (hoff 11 (by kernel_rfl))))) : gb398 ≠ gb399)))
          have z_BK398 := fun (h0_ : b 9 = true) (h1_ : b 11 = false) => (show w21.heap[gb398]? = some (.cells #[.int .i64 0, .int .i64 0] 39 (0, 0)) from by first | exact (bqB (GS.bqX (Q_BK398 h0_ h1_)) hb))
          clear HB
          have HB := n0_
          have BK399 := n1_
          have GW399 := n2_
          have GE399 := n3_
          clear n0_ n1_ n2_ n3_
          clear hb hbox hg
          refine hK.out _ _ ⟨gb398, gb399, m9_, (.pointer (some ⟨gb399, 0, none⟩)), (by rw [ha.out]; exact putSel_upk 6 hb_ rfl rfl rfl), (GS.lB HB.out), z_NB399_398, z_NB398_399, z_BK398, Q_GW398, Q_GE398, fun _ _ => (GS.bqX BK399.out), fun _ => GW399.out, fun _ => GE399.out, fun h0_ => absurd ((hoff 11 (by kernel_rfl)).symm.trans h0_) (by decide), fun h0_ => absurd ((hoff 12 (by kernel_rfl)).symm.trans h0_) (by decide), Q_X9_, fun _ => rfl⟩
         refine steps_cons ?_ ?_
         ·rintro b a w' ⟨gb398, gb399, m9_, m10_, ha, Q_HB, Q_NB399_398, Q_NB398_399, Q_BK398, Q_GW398, Q_GE398, Q_BK399, Q_GW399, Q_GE399, Q_BK398_e11, Q_BK399_e12, Q_X9_, Q_X10_⟩ hb_ hon hoff
          refine ⟨_, rfl, fun K hK => ?_⟩
          have e7 : a.tmps[7]? = some (m9_) := by rw [ha]; exact putSel_on (e := (9, 7, m9_)) 5 rfl rfl (hon 9 (by kernel_rfl)) rfl
          rw [Q_X9_ (hon 9 (by kernel_rfl))] at e7
          have e19 : a.tmps[19]? = some (.agg #[.int .i64 ((rd_T39 l0 (ji4)).f0), .int .i64 ((rd_T39 l0 (ji4)).f1)]) := by rw [ha]; exact putSel_on (e := (4, 19, .agg #[.int .i64 ((rd_T39 l0 (ji4)).f0), .int .i64 ((rd_T39 l0 (ji4)).f1)])) 2 rfl rfl (hon 4 (by kernel_rfl)) rfl
          replace ha := Aside0.mk ha
          have HB := Aside0.mk Q_HB
          have NB399_398 := Aside0.mk (Q_NB399_398 (hon 9 (by kernel_rfl)) (hon 10 (by kernel_rfl)))
          have NB398_399 := Aside0.mk (Q_NB398_399 (hon 9 (by kernel_rfl)) (hon 10 (by kernel_rfl)))
          have BK398 := Aside0.mk (Q_BK398 (hon 9 (by kernel_rfl)) hb_)
          have GW398 := Aside0.mk (Q_GW398 (hon 9 (by kernel_rfl)))
          have GE398 := Aside0.mk (Q_GE398 (hon 9 (by kernel_rfl)))
          have BK399 := Aside0.mk (Q_BK399 (hon 10 (by kernel_rfl)) (hoff 12 (by kernel_rfl)))
          have GW399 := Aside0.mk (Q_GW399 (hon 10 (by kernel_rfl)))
          have GE399 := Aside0.mk (Q_GE399 (hon 10 (by kernel_rfl)))
          have hs24 : w'.cell? ⟨gb398, 0, none⟩ = some (.int .i64 0) := (bqC BK398.out 0).trans rfl
          have hfs24 := bqF BK398.out 0
          have hns24_1 := NB399_398.out
          have hms24_1 := NB398_399.out
          have hs25 : w'.cell? ⟨gb398, 1, none⟩ = some (.int .i64 0) := (bqC BK398.out 1).trans rfl
          have hfs25 := bqF BK398.out 1
          have hns25_1 := NB399_398.out
          have hms25_1 := NB398_399.out
          refine skip_ (w1 := ?_) (by rfl) rfl ?_ ?_
          rotate_left
          ·go_simp
           rfl
          refine hK.out _ _ ⟨gb398, gb399, m9_, m10_, (by rw [ha.out]; exact putSel_none (v := undef) rfl), (GS.lB HB.out), fun _ _ => NB399_398.out, fun _ _ => NB398_399.out, fun _ h1_ => absurd ((up_self b 11).symm.trans h1_) (by decide), fun _ => GW398.out, fun _ => GE398.out, fun _ _ => (GS.bqX BK399.out), fun _ => GW399.out, fun _ => GE399.out, fun _ => (GS.bqZ BK398.out), fun h0_ => absurd ((hoff 12 (by kernel_rfl)).symm.trans h0_) (by decide), Q_X9_, Q_X10_⟩
         refine steps_cons ?_ ?_
         ·rintro b a w' ⟨gb398, gb399, m9_, m10_, ha, Q_HB, Q_NB399_398, Q_NB398_399, Q_BK398, Q_GW398, Q_GE398, Q_BK399, Q_GW399, Q_GE399, Q_BK398_e11, Q_BK399_e12, Q_X9_, Q_X10_⟩ hb_ hon hoff
          refine ⟨_, rfl, fun K hK => ?_⟩
          have e8 : a.tmps[8]? = some (m10_) := by rw [ha]; exact putSel_on (e := (10, 8, m10_)) 6 rfl rfl (hon 10 (by kernel_rfl)) rfl
          rw [Q_X10_ (hon 10 (by kernel_rfl))] at e8
          have e23 : a.tmps[23]? = some (.agg #[.int .i64 ((rd_T39 l0 x6_1).f0), .int .i64 ((rd_T39 l0 x6_1).f1)]) := by rw [ha]; exact putSel_on (e := (8, 23, .agg #[.int .i64 ((rd_T39 l0 x6_1).f0), .int .i64 ((rd_T39 l0 x6_1).f1)])) 4 rfl rfl (hon 8 (by kernel_rfl)) rfl
          replace ha := Aside0.mk ha
          have HB := Aside0.mk Q_HB
          have NB399_398 := Aside0.mk (Q_NB399_398 (hon 9 (by kernel_rfl)) (hon 10 (by kernel_rfl)))
          have NB398_399 := Aside0.mk (Q_NB398_399 (hon 9 (by kernel_rfl)) (hon 10 (by kernel_rfl)))
          have GW398 := Aside0.mk (Q_GW398 (hon 9 (by kernel_rfl)))
          have GE398 := Aside0.mk (Q_GE398 (hon 9 (by kernel_rfl)))
          have BK399 := Aside0.mk (Q_BK399 (hon 10 (by kernel_rfl)) hb_)
          have GW399 := Aside0.mk (Q_GW399 (hon 10 (by kernel_rfl)))
          have GE399 := Aside0.mk (Q_GE399 (hon 10 (by kernel_rfl)))
          have BK398 := Aside0.mk (Q_BK398_e11 (hon 11 (by kernel_rfl)))
          have hs26 : w'.cell? ⟨gb399, 0, none⟩ = some (.int .i64 0) := (bqC BK399.out 0).trans rfl
          have hfs26 := bqF BK399.out 0
          have hns26_0 := NB398_399.out
          have hms26_0 := NB399_398.out
          have hs27 : w'.cell? ⟨gb399, 1, none⟩ = some (.int .i64 0) := (bqC BK399.out 1).trans rfl
          have hfs27 := bqF BK399.out 1
          have hns27_0 := NB398_399.out
          have hms27_0 := NB399_398.out
          refine skip_ (w1 := ?_) (by rfl) rfl ?_ ?_
          rotate_left
          ·go_simp
           rfl
          refine hK.out _ _ ⟨gb398, gb399, m9_, m10_, (by rw [ha.out]; exact putSel_none (v := undef) rfl), (GS.lB HB.out), fun _ _ => NB399_398.out, fun _ _ => NB398_399.out, fun _ h1_ => absurd ((hon 11 (by kernel_rfl)).symm.trans h1_) (by decide), fun _ => GW398.out, fun _ => GE398.out, fun _ h1_ => absurd ((up_self b 12).symm.trans h1_) (by decide), fun _ => GW399.out, fun _ => GE399.out, fun _ => (GS.bqX BK398.out), fun _ => (GS.bqZ BK399.out), Q_X9_, Q_X10_⟩
         exact steps_nil
        rintro b a w27 hall ⟨gb398, gb399, m9_, m10_, ha, Q_HB, Q_NB399_398, Q_NB398_399, Q_BK398, Q_GW398, Q_GE398, Q_BK399, Q_GW399, Q_GE399, Q_BK398_e11, Q_BK399_e12, Q_X9_, Q_X10_⟩
        clear HB
        have hb2_ := hall 2 (by kernel_rfl)
        have hb3_ := hall 3 (by kernel_rfl)
        have hb4_ := hall 4 (by kernel_rfl)
        have hb7_ := hall 7 (by kernel_rfl)
        have hb8_ := hall 8 (by kernel_rfl)
        have hb9_ := hall 9 (by kernel_rfl)
        have hb10_ := hall 10 (by kernel_rfl)
        have hb11_ := hall 11 (by kernel_rfl)
        have hb12_ := hall 12 (by kernel_rfl)
        subst ha
        obtain rfl := Q_X9_ hb9_
        obtain rfl := Q_X10_ hb10_
        simp only [putSel, hb2_, hb3_, hb4_, hb7_, hb8_, hb9_, hb10_, hb11_, hb12_, if_true, Act.put, List.setIfInBounds_toArray, List.set_cons_zero, List.set_cons_succ]
        have HB := Aside0.mk Q_HB
        clear Q_HB
        have NB399_398 := Aside0.mk (Q_NB399_398 hb9_ hb10_)
        clear Q_NB399_398
        have NB398_399 := Aside0.mk (Q_NB398_399 hb9_ hb10_)
        clear Q_NB398_399
        clear Q_BK398
        have GW398 := Aside0.mk (Q_GW398 hb9_)
        clear Q_GW398
        have GE398 := Aside0.mk (Q_GE398 hb9_)
        clear Q_GE398
        clear Q_BK399
        have GW399 := Aside0.mk (Q_GW399 hb10_)
        clear Q_GW399
        have GE399 := Aside0.mk (Q_GE399 hb10_)
        clear Q_GE399
        have BK398 := Aside0.mk (Q_BK398_e11 hb11_)
        clear Q_BK398_e11
        have BK399 := Aside0.mk (Q_BK399_e12 hb12_)
        clear Q_BK399_e12
        clear hall hb2_ hb3_ hb4_ hb7_ hb8_ hb9_ hb10_ hb11_ hb12_
        have hnb28 := NB399_398.out
        have hnc28 := NB398_399.out
        obtain ⟨hcz29_0, hcz29_1, hfz29_0, hfz29_1⟩ := GS.c2 BK399.out
        try go_wp2
        go_roundg k1
        case measure => have := HK1.out; omega
        case rel => exact ⟨(wrap64 (x6_1 + 1)), (by first | rfl | (simp; done) | (simp [*]; done)), H', ⟨by have := HK1.out; omega⟩, ⟨GS.lB HB.out⟩⟩
      ·rw [if_neg c7] at H
       exact absurd H (by simp)
     ·rw [if_neg c6] at H
      exact absurd H (by simp)
    ·rw [if_neg c5] at H
     exact absurd H (by simp)
   ·rw [if_neg c3] at H
    have c3b0 : decide (x6_1 < (l0.length : Int)) = false := decide_eq_false c3
    clear c3
    simp only [Option.some.injEq, Prod.mk.injEq] at H
    obtain ⟨rfl, rfl⟩ := H
    go_wp2
    go_ret2
    exact ⟨by first | rfl | (simp [errW_none, errW_some] <;> rfl) | (simp [*, errW_none, errW_some] <;> rfl), GS.lB HB.out⟩
end Go.Proofs.Ytefjmcljkmppoaa.K
