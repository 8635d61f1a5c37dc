-- PRINTED by print.py (a twelfth state) out of the translation. Not trusted: Lean checks it.
import Derived.Test.YtfjenooajbdcmaaK0
import Derived.Test.YtfjenooajbdcmaaGPu
import Derived.Test.YtfjenooajbdcmaaGShort
import Derived.Test.YtfjenooajbdcmaaK11
namespace Go.Proofs.Ytfjenooajbdcmaa.K
open Go.RowKit Go.Proofs.YtfjenooajbdcmaaW.PrintWords Go.Proofs.YtfjenooajbdcmaaW.PrintLast Go.Proofs.YtfjenooajbdcmaaW.PrintMore
attribute [local go_sem] max2_int min2_int max_two min_two max_three min_three max_four min_four   -- for this text's walks alone
set_option linter.unusedVariables false
set_option linter.unusedSimpArgs false

/-! ### spileref39_Check: function 29 -/
def spileref39_Check.l0 : Nat → List (S34) → Int → Option (Int × Int)
 | 0, _, _ => none
 | k + 1, x0, x4 => if x4 < (x0.length : Int) then (if 0 ≤ x4 then (if x4 ≤ (x0.length : Int) then ((spileref39_fault.f k (x0.take (x4 : Int).toNat) ((rd_T34 x0 x4).f0) ((rd_T34 x0 x4).f1) ((rd_T34 x0 x4).f2) ((rd_T34 x0 x4).f3)).bind fun t283 => (if t283 = 0 then (spileref39_Check.l0 k x0 (wrap64 (x4 + 1))) else (some (x4, t283)))) else (none)) else (none)) else (some ((-1), 0))
def spileref39_Check.f (k : Nat) (l0 : List (S34)) : Option (Int × Int) := if (l0.length : Int) > 128 then (some ((-1), 8)) else (spileref39_Check.l0 k l0 0)
theorem spileref39_Check.mono_l : ∀ k, (∀ y0 y1, LeO (spileref39_Check.l0 k y0 y1) (spileref39_Check.l0 (k + 1) y0 y1))
 | 0 => fun _ _ r h => by simp [spileref39_Check.l0] at h
 | k + 1 => by
  have ih0 := spileref39_Check.mono_l k
  ·intro y0 y1
   unfold spileref39_Check.l0
   repeat' first
   | (with_reducible exact ih0 _ _)
   | (with_reducible exact spileref39_fault.mono _ _ _ _ _ _)
   | (with_reducible exact LeO.refl _)
   | (with_reducible exact LeO.none _)
   | (with_reducible refine LeO.ite ?_ ?_)
   | (with_reducible refine LeO.bind ?_ (fun _ => ?_))
   | exact ih0 _ _
   | exact spileref39_fault.mono _ _ _ _ _ _
   | exact LeO.none _
   | refine LeO.ite ?_ ?_
   | refine LeO.bind ?_ (fun _ => ?_)
theorem spileref39_Check.mono : ∀ a0 k, LeO (spileref39_Check.f k a0) (spileref39_Check.f (k + 1) a0) := by
 intro a0 k
 have ih0 := spileref39_Check.mono_l k
 unfold spileref39_Check.f
 repeat' first
   | (with_reducible exact ih0 _ _)
   | (with_reducible exact spileref39_fault.mono _ _ _ _ _ _)
   | (with_reducible exact LeO.refl _)
   | (with_reducible exact LeO.none _)
   | (with_reducible refine LeO.ite ?_ ?_)
   | (with_reducible refine LeO.bind ?_ (fun _ => ?_))
   | exact ih0 _ _
   | exact spileref39_fault.mono _ _ _ _ _ _
   | exact LeO.none _
   | refine LeO.ite ?_ ?_
   | refine LeO.bind ?_ (fun _ => ?_)
def spileref39_Check.T6 : Bool × List (List Nat × List Nat) := (true, [([], []), ([], []), ([0, 1], [0, 1]), ([], []), ([], []), ([3, 4], [3, 4]), ([5], [5]), ([2, 6], [2, 6]), ([7, 7, 0, 1, 2, 3, 4, 5, 6, 7], [7])])
def spileref39_Check.B6 : List Nat := [0, 0, 3, 0, 0, 24, 56, 127, 255]
theorem spileref39_Check.tab6 : rtab .any (opsOf Try.f29 6) = spileref39_Check.T6 := by kernel_rfl
theorem spileref39_Check.bits6 : waitsOk spileref39_Check.T6.2 spileref39_Check.B6 = true := by kernel_rfl
set_option maxHeartbeats 8000000 in
set_option maxRecDepth 100000 in
theorem spileref39_Check.calls (k : Nat) (A0 : Option Addr) (c0 : Nat) (l0 : List (S34)) (r1 : Int) (r2 : Int) (w : World) (hr0 : Kd.C k34 w A0 l0.length l0) (hc0 : l0.length ≤ c0) (h : spileref39_Check.f k l0 = some (r1, r2)) :
  Calls Try.prog 29 #[.slice A0 l0.length c0] w fun e w' => e = .returned (.tuple #[.int .i64 r1, .int .i64 r2]) ∧ Below w.heap.size w w' := by
 have hu34 := Try.underlying34
 have HR0 := Aside0.mk hr0
 have HC0 := Aside0.mk hc0
 clear hr0 hc0
 have HB := Aside0.mk (Below.refl w.heap.size w)
 have H : (if (l0.length : Int) > 128 then (some ((-1), 8)) else (spileref39_Check.l0 k l0 0)) = some (r1, r2) := h
 clear h
 by_cases c2 : (l0.length : Int) > 128
 ·rw [if_pos c2] at H
  have c2b0 : decide (128 < (l0.length : Int)) = true := decide_eq_true c2
  have c2b1 : decide (128 < l0.length) = true := decide_eq_true (by omega)
  clear c2
  simp only [Option.some.injEq, Prod.mk.injEq] at H
  obtain ⟨rfl, rfl⟩ := H
  go_enter Try.func29, Try.ntmps29
  go_wp2
  go_ret2
  exact ⟨by first | rfl | (simp [errW_none, errW_some] <;> rfl) | (simp [*, errW_none, errW_some] <;> rfl), GS.lB HB.out⟩
 ·rw [if_neg c2] at H
  have c2b0 : decide (128 < (l0.length : Int)) = false := decide_eq_false c2
  have c2b1 : decide (128 < l0.length) = false := decide_eq_false (by omega)
  clear c2
  have H' := Aside0.mk H
  clear H
  go_enter Try.func29, Try.ntmps29
  go_wp2
  go_loopg [4] k (fun kq v4 w' => ∃ (x4_1 : Int), v4 = .int .i64 x4_1 ∧ Aside0 (spileref39_Check.l0 kq l0 x4_1 = some (r1, r2)) ∧ Aside0 (kq ≤ k) ∧ Aside0 (Below w.heap.size w w'))
  case atStart => exact ⟨(0), (by first | rfl | (simp; done) | (simp [*]; done)), H', ⟨Nat.le_refl _⟩, ⟨GS.lB HB.out⟩⟩
  case round =>
   clear H'
   try clear c2
   try clear c2b0
   try clear c2b1
   try clear p2
   obtain ⟨x4_1, rfl, HA, HK1, HB⟩ := hrel
   cases gk with
   | zero => exact absurd HA.out (by simp [spileref39_Check.l0])
   | succ k1 =>
    have H := HA.out
    clear HA
    simp only [spileref39_Check.l0] at H
    by_cases c3 : x4_1 < (l0.length : Int)
    ·rw [if_pos c3] at H
     have c3b0 : decide (x4_1 < (l0.length : Int)) = true := decide_eq_true c3
     clear c3
     by_cases c4 : 0 ≤ x4_1
     ·rw [if_pos c4] at H
      have c4b0 := eq_true c4
      have c4b1 : decide (0 ≤ x4_1) = true := decide_eq_true c4
      clear c4
      by_cases c5 : x4_1 ≤ (l0.length : Int)
      ·rw [if_pos c5] at H
       have c5b0 := eq_true c5
       have c5b1 : decide (x4_1 ≤ (l0.length : Int)) = true := decide_eq_true c5
       clear c5
       obtain ⟨y278, hy278⟩ : ∃ y_ : List (S34), y_ = (l0.take (x4_1 : Int).toNat) := ⟨_, rfl⟩
       replace H : ((spileref39_fault.f k1 y278 ((rd_T34 l0 x4_1).f0) ((rd_T34 l0 x4_1).f1) ((rd_T34 l0 x4_1).f2) ((rd_T34 l0 x4_1).f3)).bind fun t283 => (if t283 = 0 then (spileref39_Check.l0 k1 l0 (wrap64 (x4_1 + 1))) else (some (x4_1, t283)))) = some (r1, r2) := by first | (rw [hy278]; with_reducible exact H) | (have H2_ := (Option.bind_some _ _).symm.trans H; rw [hy278]; with_reducible exact H2_) | (have H2_ := (Option.bind_some _ _).symm.trans H; with_reducible exact H2_) | with_reducible exact H | (rw [hy278]; exact H) | exact H
       have Ny278 := Aside0.mk hy278
       clear hy278
       replace H := Option.bind_eq_some_iff.mp H
       obtain ⟨t283, A60, H⟩ := H
       replace H : (if t283 = 0 then (spileref39_Check.l0 k1 l0 (wrap64 (x4_1 + 1))) else (some (x4_1, t283))) = some (r1, r2) := H
       have A6 := Aside0.mk A60
       clear A60
       by_cases c7 : t283 = 0
       ·rw [if_pos c7] at H
        have c7b0 : (t283 == 0) = true := beq_iff_eq.mpr c7
        try simp only [beq_self_eq_true, Bool.not_true, Bool.false_or, Bool.true_and] at c7b0
        have c7b1 : (t283 != 0) = false := bne_eq_false_iff_eq.mpr c7
        clear c7
        have H' := Aside0.mk H
        clear H
        try go_wp2
        have n0_ := Aside0.mk (lqD HB.out)
        clear HB
        have HB := n0_
        clear n0_
        have q9 : (x4_1 : Int) ≤ ((l0.length : Int) : Int) := of_decide_eq_true (by first | (with_reducible assumption) | assumption)
        obtain ⟨i09, hi09, _, hsz9, _⟩ := info_parts info34
        have hroom9 : l0.length ≤ c0 := HC0.out
        have hC9 : Kd.C k34 _ A0 l0.length l0 := HR0.out
        have hcut9 := cut_to (P := Try.prog) 22 34 .i64 Try.underlying22 hi09 A0 l0.length c0 x4_1 (of_decide_eq_true (by first | (with_reducible assumption) | assumption)) q9 hroom9
        have hr9 := Kd.C_take (m := (x4_1 : Int).toNat) hC9 (by omega)
        have hy9 : y278.length = (x4_1 : Int).toNat := (by rw [Ny278.out, List.length_take]; omega)
        rw [← Ny278.out] at hr9
        rw [← hy9] at hcut9
        have HR281 := Aside0.mk hr9
        have HC281 := Aside0.mk (show y278.length ≤ c0 from by omega)
        clear hr9 hC9 hroom9 hi09 hsz9
        have KY9 := Aside0.mk hy9
        clear hy9
        replace q9 := eq_true q9
        have p282 : 0 ≤ (x4_1 : Int) := of_decide_eq_true (by first | (with_reducible assumption) | assumption)
        have q282 : x4_1 < (l0.length : Int) := of_decide_eq_true (by first | (with_reducible assumption) | assumption)
        obtain ⟨ad282, e282, hx282_0, hx282_1, hx282_2, hx282_3⟩ := at_T34 HR0.out x4_1 p282 q282
        have hw282_3 := hx282_3
        have hw282_2 := hx282_2
        have hw282_1 := hx282_1
        have hw282_0 := hx282_0
        cases e282
        replace hx282_0 := (HB.out.cell (World.block_lt_of_cell? w _ hx282_0)).trans hx282_0
        replace hx282_1 := (HB.out.cell (World.block_lt_of_cell? w _ hx282_1)).trans hx282_1
        replace hx282_2 := (HB.out.cell (World.block_lt_of_cell? w _ hx282_2)).trans hx282_2
        replace hx282_3 := (HB.out.cell (World.block_lt_of_cell? w _ hx282_3)).trans hx282_3
        replace p282 := eq_true p282
        replace q282 := eq_true q282
        refine start_ (n := 9) (S := fun w' => w'.cell? (ad282.add ((x4_1).toNat * 4)) = some (.int .i64 ((rd_T34 l0 x4_1).f0)) ∧ w'.cell? ⟨(ad282.add ((x4_1).toNat * 4)).block, (ad282.add ((x4_1).toNat * 4)).off + 1, none⟩ = some (.int .i64 ((rd_T34 l0 x4_1).f1)) ∧ w'.cell? ⟨(ad282.add ((x4_1).toNat * 4)).block, (ad282.add ((x4_1).toNat * 4)).off + 2, none⟩ = some (.int .i64 ((rd_T34 l0 x4_1).f2)) ∧ w'.cell? ⟨(ad282.add ((x4_1).toNat * 4)).block, (ad282.add ((x4_1).toNat * 4)).off + 3, none⟩ = some (.int .i64 ((rd_T34 l0 x4_1).f3))) (ds := []) #[false, false, false, false, false, false, false, false, false] (by kernel_rfl) rfl rfl ⟨((HB.out.cell (World.block_lt_of_cell? w _ hw282_0)).trans hw282_0), ((HB.out.cell (World.block_lt_of_cell? w _ hw282_1)).trans hw282_1), ((HB.out.cell (World.block_lt_of_cell? w _ hw282_2)).trans hw282_2), ((HB.out.cell (World.block_lt_of_cell? w _ hw282_3)).trans hw282_3)⟩ (fun hHeld => ?_); refine with_tabW spileref39_Check.tab6 spileref39_Check.bits6 (fun HT_ HW_ => ?_)
        generalize wr.drew = w8 at HB HR281 hx282_0 hx282_1 hx282_2 hx282_3 hHeld ⊢
        refine GS.pu 0 (some 15) HT_.out ?_
        refine GS.pu 1 (some 16) HT_.out ?_
        refine GS.pu 2 (some 17) HT_.out ?_
        refine GS.pu 3 (some 18) HT_.out ?_
        refine GS.pu 4 (some 19) HT_.out ?_
        refine GS.pu 5 (some 20) HT_.out ?_
        refine GS.tk 6 (some 21) HT_.out HW_.out hHeld ?_
        refine one_ (i := 7) (N := some 22) #[true, true, true, true, true, true, true, true, false] rfl rfl (one_of HT_.out (by kernel_rfl)) (by decide) (fun K hK => ?_)
        refine goes_ Try.func54 (by kernel_rfl) rfl #[.slice (some ad282) y278.length c0, .agg #[.int .i64 ((rd_T34 l0 x4_1).f0), .int .i64 ((rd_T34 l0 x4_1).f1), .int .i64 ((rd_T34 l0 x4_1).f2), .int .i64 ((rd_T34 l0 x4_1).f3)]] (by rfl) rfl rfl (by (try simp only [List.map_toArray, List.map_cons, List.map_nil]); first | done | rfl | (simp only [List.length_drop, List.length_take]; rfl)) ?_
        with_reducible refine (spileref39_fault.calls k1 _ _ y278 ((rd_T34 l0 x4_1).f0) ((rd_T34 l0 x4_1).f1) ((rd_T34 l0 x4_1).f2) ((rd_T34 l0 x4_1).f3) t283 _ ?side1 ?side2 A6.out).mono ?_
        (case side1 => exact GS.rC (Kd.C_below HR281.out HB.out))
        (case side2 => exact HC281.out)
        rintro e w10 ⟨rfl, hb⟩
        refine ⟨_, rfl, ?_⟩
        have n0_ := Aside0.mk (lqT (GS.lB HB.out) hb)
        clear HB
        have HB := n0_
        clear n0_
        (try clear hb)
        (try clear hb2)
        (try clear hk)
        (try clear hi)
        refine hK.out _ _ ⟨((HB.out.cell (World.block_lt_of_cell? w _ hw282_0)).trans hw282_0), ((HB.out.cell (World.block_lt_of_cell? w _ hw282_1)).trans hw282_1), ((HB.out.cell (World.block_lt_of_cell? w _ hw282_2)).trans hw282_2), ((HB.out.cell (World.block_lt_of_cell? w _ hw282_3)).trans hw282_3)⟩ (fun hHeld => ?_)
        clear hK K
        refine norm_ (a' := ?_) ?_ ?_
        rotate_left
        ·show Act.put _ (some 22) _ = _
         simp only [Act.put, List.setIfInBounds_toArray, List.set_cons_zero, List.set_cons_succ, i64_w, i32_w]
         rfl
        refine GS.pu 8 (some 5) HT_.out ?_
        refine done_ (done_of HT_.out (by kernel_rfl)) ?_
        try go_wp2
        go_roundg k1
        case measure => have := HK1.out; omega
        case rel => exact ⟨(wrap64 (x4_1 + 1)), (by first | rfl | (simp; done) | (simp [*]; done)), H', ⟨by have := HK1.out; omega⟩, ⟨GS.lB HB.out⟩⟩
       ·rw [if_neg c7] at H
        have c7b0 : (t283 == 0) = false := beq_eq_false_iff_ne.mpr c7
        try simp only [beq_self_eq_true, Bool.not_true, Bool.false_or, Bool.true_and] at c7b0
        have c7b1 : (t283 != 0) = true := bne_iff_ne.mpr c7
        simp only [Option.some.injEq, Prod.mk.injEq] at H
        obtain ⟨rfl, rfl⟩ := H
        try go_wp2
        have n0_ := Aside0.mk (lqD HB.out)
        clear HB
        have HB := n0_
        clear n0_
        have q12 : (x4_1 : Int) ≤ ((l0.length : Int) : Int) := of_decide_eq_true (by first | (with_reducible assumption) | assumption)
        obtain ⟨i012, hi012, _, hsz12, _⟩ := info_parts info34
        have hroom12 : l0.length ≤ c0 := HC0.out
        have hC12 : Kd.C k34 _ A0 l0.length l0 := HR0.out
        have hcut12 := cut_to (P := Try.prog) 22 34 .i64 Try.underlying22 hi012 A0 l0.length c0 x4_1 (of_decide_eq_true (by first | (with_reducible assumption) | assumption)) q12 hroom12
        have hr12 := Kd.C_take (m := (x4_1 : Int).toNat) hC12 (by omega)
        have hy12 : y278.length = (x4_1 : Int).toNat := (by rw [Ny278.out, List.length_take]; omega)
        rw [← Ny278.out] at hr12
        rw [← hy12] at hcut12
        have HR281 := Aside0.mk hr12
        have HC281 := Aside0.mk (show y278.length ≤ c0 from by omega)
        clear hr12 hC12 hroom12 hi012 hsz12
        have KY12 := Aside0.mk hy12
        clear hy12
        replace q12 := eq_true q12
        have p282 : 0 ≤ (x4_1 : Int) := of_decide_eq_true (by first | (with_reducible assumption) | assumption)
        have q282 : x4_1 < (l0.length : Int) := of_decide_eq_true (by first | (with_reducible assumption) | assumption)
        obtain ⟨ad282, e282, hx282_0, hx282_1, hx282_2, hx282_3⟩ := at_T34 HR0.out x4_1 p282 q282
        have hw282_3 := hx282_3
        have hw282_2 := hx282_2
        have hw282_1 := hx282_1
        have hw282_0 := hx282_0
        cases e282
        replace hx282_0 := (HB.out.cell (World.block_lt_of_cell? w _ hx282_0)).trans hx282_0
        replace hx282_1 := (HB.out.cell (World.block_lt_of_cell? w _ hx282_1)).trans hx282_1
        replace hx282_2 := (HB.out.cell (World.block_lt_of_cell? w _ hx282_2)).trans hx282_2
        replace hx282_3 := (HB.out.cell (World.block_lt_of_cell? w _ hx282_3)).trans hx282_3
        replace p282 := eq_true p282
        replace q282 := eq_true q282
        refine start_ (n := 9) (S := fun w' => w'.cell? (ad282.add ((x4_1).toNat * 4)) = some (.int .i64 ((rd_T34 l0 x4_1).f0)) ∧ w'.cell? ⟨(ad282.add ((x4_1).toNat * 4)).block, (ad282.add ((x4_1).toNat * 4)).off + 1, none⟩ = some (.int .i64 ((rd_T34 l0 x4_1).f1)) ∧ w'.cell? ⟨(ad282.add ((x4_1).toNat * 4)).block, (ad282.add ((x4_1).toNat * 4)).off + 2, none⟩ = some (.int .i64 ((rd_T34 l0 x4_1).f2)) ∧ w'.cell? ⟨(ad282.add ((x4_1).toNat * 4)).block, (ad282.add ((x4_1).toNat * 4)).off + 3, none⟩ = some (.int .i64 ((rd_T34 l0 x4_1).f3))) (ds := []) #[false, false, false, false, false, false, false, false, false] (by kernel_rfl) rfl rfl ⟨((HB.out.cell (World.block_lt_of_cell? w _ hw282_0)).trans hw282_0), ((HB.out.cell (World.block_lt_of_cell? w _ hw282_1)).trans hw282_1), ((HB.out.cell (World.block_lt_of_cell? w _ hw282_2)).trans hw282_2), ((HB.out.cell (World.block_lt_of_cell? w _ hw282_3)).trans hw282_3)⟩ (fun hHeld => ?_); refine with_tabW spileref39_Check.tab6 spileref39_Check.bits6 (fun HT_ HW_ => ?_)
        generalize wr.drew = w11 at HB HR281 hx282_0 hx282_1 hx282_2 hx282_3 hHeld ⊢
        refine GS.pu 0 (some 15) HT_.out ?_
        refine GS.pu 1 (some 16) HT_.out ?_
        refine GS.pu 2 (some 17) HT_.out ?_
        refine GS.pu 3 (some 18) HT_.out ?_
        refine GS.pu 4 (some 19) HT_.out ?_
        refine GS.pu 5 (some 20) HT_.out ?_
        refine GS.tk 6 (some 21) HT_.out HW_.out hHeld ?_
        refine one_ (i := 7) (N := some 22) #[true, true, true, true, true, true, true, true, false] rfl rfl (one_of HT_.out (by kernel_rfl)) (by decide) (fun K hK => ?_)
        refine goes_ Try.func54 (by kernel_rfl) rfl #[.slice (some ad282) y278.length c0, .agg #[.int .i64 ((rd_T34 l0 x4_1).f0), .int .i64 ((rd_T34 l0 x4_1).f1), .int .i64 ((rd_T34 l0 x4_1).f2), .int .i64 ((rd_T34 l0 x4_1).f3)]] (by rfl) rfl rfl (by (try simp only [List.map_toArray, List.map_cons, List.map_nil]); first | done | rfl | (simp only [List.length_drop, List.length_take]; rfl)) ?_
        with_reducible refine (spileref39_fault.calls k1 _ _ y278 ((rd_T34 l0 x4_1).f0) ((rd_T34 l0 x4_1).f1) ((rd_T34 l0 x4_1).f2) ((rd_T34 l0 x4_1).f3) t283 _ ?side1 ?side2 A6.out).mono ?_
        (case side1 => exact GS.rC (Kd.C_below HR281.out HB.out))
        (case side2 => exact HC281.out)
        rintro e w13 ⟨rfl, hb⟩
        refine ⟨_, rfl, ?_⟩
        have n0_ := Aside0.mk (lqT (GS.lB HB.out) hb)
        clear HB
        have HB := n0_
        clear n0_
        (try clear hb)
        (try clear hb2)
        (try clear hk)
        (try clear hi)
        refine hK.out _ _ ⟨((HB.out.cell (World.block_lt_of_cell? w _ hw282_0)).trans hw282_0), ((HB.out.cell (World.block_lt_of_cell? w _ hw282_1)).trans hw282_1), ((HB.out.cell (World.block_lt_of_cell? w _ hw282_2)).trans hw282_2), ((HB.out.cell (World.block_lt_of_cell? w _ hw282_3)).trans hw282_3)⟩ (fun hHeld => ?_)
        clear hK K
        refine norm_ (a' := ?_) ?_ ?_
        rotate_left
        ·show Act.put _ (some 22) _ = _
         simp only [Act.put, List.setIfInBounds_toArray, List.set_cons_zero, List.set_cons_succ, i64_w, i32_w]
         rfl
        refine GS.pu 8 (some 5) HT_.out ?_
        refine done_ (done_of HT_.out (by kernel_rfl)) ?_
        try go_wp2
        go_ret2
        exact ⟨by first | rfl | (simp [errW_none, errW_some] <;> rfl) | (simp [*, errW_none, errW_some] <;> rfl), GS.lB HB.out⟩
      ·rw [if_neg c5] at H
       exact absurd H (by simp)
     ·rw [if_neg c4] at H
      exact absurd H (by simp)
    ·rw [if_neg c3] at H
     have c3b0 : decide (x4_1 < (l0.length : Int)) = false := decide_eq_false c3
     clear c3
     simp only [Option.some.injEq, Prod.mk.injEq] at H
     obtain ⟨rfl, rfl⟩ := H
     go_wp2
     go_ret2
     exact ⟨by first | rfl | (simp [errW_none, errW_some] <;> rfl) | (simp [*, errW_none, errW_some] <;> rfl), GS.lB HB.out⟩

/-! ### spileref39_right: function 42 -/
def spileref39_right.f (k : Nat) (l0 : List (S34)) : Option (Bool) := (spileref39_Check.f k l0).bind fun bt284 => (some (bt284.2 == 0))
theorem spileref39_right.mono : ∀ a0 k, LeO (spileref39_right.f k a0) (spileref39_right.f (k + 1) a0) := by
 intro a0 k
 unfold spileref39_right.f
 repeat' first
   | (with_reducible exact spileref39_Check.mono _ _)
   | (with_reducible exact LeO.refl _)
   | (with_reducible exact LeO.none _)
   | (with_reducible refine LeO.ite ?_ ?_)
   | (with_reducible refine LeO.bind ?_ (fun _ => ?_))
   | exact spileref39_Check.mono _ _
   | exact LeO.none _
   | refine LeO.ite ?_ ?_
   | refine LeO.bind ?_ (fun _ => ?_)
set_option maxHeartbeats 8000000 in
set_option maxRecDepth 100000 in
theorem spileref39_right.calls (k : Nat) (A0 : Option Addr) (c0 : Nat) (l0 : List (S34)) (r : Bool) (w : World) (hr0 : Kd.C k34 w A0 l0.length l0) (hc0 : l0.length ≤ c0) (h : spileref39_right.f k l0 = some r) :
  Calls Try.prog 42 #[.slice A0 l0.length c0] w fun e w' => e = .returned (.bool r) ∧ Below w.heap.size w w' := by
 have HR0 := Aside0.mk hr0
 have HC0 := Aside0.mk hc0
 clear hr0 hc0
 have HB := Aside0.mk (Below.refl w.heap.size w)
 have H : ((spileref39_Check.f k l0).bind fun bt284 => (some (bt284.2 == 0))) = some r := h
 clear h
 replace H := Option.bind_eq_some_iff.mp H
 obtain ⟨⟨t284, t285⟩, A20, H⟩ := H
 replace H : (some (t285 == 0)) = some r := H
 have A2 := Aside0.mk A20
 clear A20
 obtain rfl := Option.some.inj H
 go_enter Try.func42, Try.ntmps42
 go_wp2_with (first | ((with_reducible refine gqC (f := 29) rfl ?_); refine GS.gL (some 7) Try.func29 #[.slice A0 l0.length c0] ?_; (with_reducible refine (spileref39_Check.calls k _ _ l0 t284 t285 _ ?side1 ?side2 A2.out).mono ?_); (case side1 => exact GS.rC HR0.out); (case side2 => exact HC0.out); rintro e w3 ⟨rfl, hb⟩; refine ⟨_, rfl, ?_⟩; have n0_ := Aside0.mk (lqT (GS.lB HB.out) hb); clear HB; have HB := n0_; clear n0_; (try clear hb); (try clear hb2); (try clear hk); (try clear hi)))
 go_ret
 exact ⟨by first | rfl | (simp [errW_none, errW_some] <;> rfl) | (simp [*, errW_none, errW_some] <;> rfl), GS.lB HB.out⟩

/-! ### spileref39_has: function 47 -/
mutual
def spileref39_has.l0 : Nat → List (S34) → Int → Int → Int → Bool → Int → Option (Bool)
 | 0, _, _, _, _, _, _ => none
 | k + 1, x0, x1, x2, x3, x9, x10 => if x10 < (x0.length : Int) then (if 0 ≤ x10 then (if ((rd_T34 x0 x10).f0) > x3 then (spileref39_has.j1 k x0 x1 x2 x3 x9 x10 true) else (if ((rd_T34 x0 x10).f2) = x2 then (spileref39_has.j1 k x0 x1 x2 x3 x9 x10 (((rd_T34 x0 x10).f1) != x1)) else (spileref39_has.j1 k x0 x1 x2 x3 x9 x10 true))) else (none)) else (some x9)
def spileref39_has.j1 : Nat → List (S34) → Int → Int → Int → Bool → Int → Bool → Option (Bool)
 | 0, _, _, _, _, _, _, _ => none
 | k + 1, x0, x1, x2, x3, x9, x10, x41 => if x41 = true then (spileref39_has.l0 k x0 x1 x2 x3 x9 (wrap64 (x10 + 1))) else (if 0 ≤ x10 then (if x10 < (x0.length : Int) then (if ((rd_T34 x0 x10).f3) = 1 then (spileref39_has.j2 k x0 x1 x2 x3 true x10) else (spileref39_has.j2 k x0 x1 x2 x3 x9 x10)) else (none)) else (none))
def spileref39_has.j2 : Nat → List (S34) → Int → Int → Int → Bool → Int → Option (Bool)
 | 0, _, _, _, _, _, _ => none
 | k + 1, x0, x1, x2, x3, x9, x10 => if 0 ≤ x10 then (if x10 < (x0.length : Int) then (if ((rd_T34 x0 x10).f3) = 3 then (spileref39_has.l0 k x0 x1 x2 x3 false (wrap64 (x10 + 1))) else (if ((rd_T34 x0 x10).f3) = 4 then (spileref39_has.l0 k x0 x1 x2 x3 false (wrap64 (x10 + 1))) else (spileref39_has.l0 k x0 x1 x2 x3 x9 (wrap64 (x10 + 1))))) else (none)) else (none)
end
def spileref39_has.f (k : Nat) (l0 : List (S34)) (a1 : Int) (a2 : Int) (a3 : Int) : Option (Bool) := spileref39_has.l0 k l0 a1 a2 a3 false 0
theorem spileref39_has.mono_l : ∀ k, (∀ y0 y1 y2 y3 y4 y5, LeO (spileref39_has.l0 k y0 y1 y2 y3 y4 y5) (spileref39_has.l0 (k + 1) y0 y1 y2 y3 y4 y5)) ∧ (∀ y0 y1 y2 y3 y4 y5 y6, LeO (spileref39_has.j1 k y0 y1 y2 y3 y4 y5 y6) (spileref39_has.j1 (k + 1) y0 y1 y2 y3 y4 y5 y6)) ∧ (∀ y0 y1 y2 y3 y4 y5, LeO (spileref39_has.j2 k y0 y1 y2 y3 y4 y5) (spileref39_has.j2 (k + 1) y0 y1 y2 y3 y4 y5))
 | 0 => ⟨fun _ _ _ _ _ _ r h => by simp [spileref39_has.l0] at h, fun _ _ _ _ _ _ _ r h => by simp [spileref39_has.j1] at h, fun _ _ _ _ _ _ r h => by simp [spileref39_has.j2] at h⟩
 | k + 1 => by
  obtain ⟨ih0, ih1, ih2⟩ := spileref39_has.mono_l k
  refine ⟨?_, ?_, ?_⟩
  ·intro y0 y1 y2 y3 y4 y5
   unfold spileref39_has.l0
   repeat' first
   | (with_reducible exact ih0 _ _ _ _ _ _)
   | (with_reducible exact ih1 _ _ _ _ _ _ _)
   | (with_reducible exact ih2 _ _ _ _ _ _)
   | (with_reducible exact LeO.refl _)
   | (with_reducible exact LeO.none _)
   | (with_reducible refine LeO.ite ?_ ?_)
   | (with_reducible refine LeO.bind ?_ (fun _ => ?_))
   | exact ih0 _ _ _ _ _ _
   | exact ih1 _ _ _ _ _ _ _
   | exact ih2 _ _ _ _ _ _
   | exact LeO.none _
   | refine LeO.ite ?_ ?_
   | refine LeO.bind ?_ (fun _ => ?_)
  ·intro y0 y1 y2 y3 y4 y5 y6
   unfold spileref39_has.j1
   repeat' first
   | (with_reducible exact ih0 _ _ _ _ _ _)
   | (with_reducible exact ih1 _ _ _ _ _ _ _)
   | (with_reducible exact ih2 _ _ _ _ _ _)
   | (with_reducible exact LeO.refl _)
   | (with_reducible exact LeO.none _)
   | (with_reducible refine LeO.ite ?_ ?_)
   | (with_reducible refine LeO.bind ?_ (fun _ => ?_))
   | exact ih0 _ _ _ _ _ _
   | exact ih1 _ _ _ _ _ _ _
   | exact ih2 _ _ _ _ _ _
   | exact LeO.none _
   | refine LeO.ite ?_ ?_
   | refine LeO.bind ?_ (fun _ => ?_)
  ·intro y0 y1 y2 y3 y4 y5
   unfold spileref39_has.j2
   repeat' first
   | (with_reducible exact ih0 _ _ _ _ _ _)
   | (with_reducible exact ih1 _ _ _ _ _ _ _)
   | (with_reducible exact ih2 _ _ _ _ _ _)
   | (with_reducible exact LeO.refl _)
   | (with_reducible exact LeO.none _)
   | (with_reducible refine LeO.ite ?_ ?_)
   | (with_reducible refine LeO.bind ?_ (fun _ => ?_))
   | exact ih0 _ _ _ _ _ _
   | exact ih1 _ _ _ _ _ _ _
   | exact ih2 _ _ _ _ _ _
   | exact LeO.none _
   | refine LeO.ite ?_ ?_
   | refine LeO.bind ?_ (fun _ => ?_)
theorem spileref39_has.mono : ∀ a0 a1 a2 a3 k, LeO (spileref39_has.f k a0 a1 a2 a3) (spileref39_has.f (k + 1) a0 a1 a2 a3) := by
 intro a0 a1 a2 a3 k
 obtain ⟨ih0, ih1, ih2⟩ := spileref39_has.mono_l k
 unfold spileref39_has.f
 repeat' first
   | (with_reducible exact ih0 _ _ _ _ _ _)
   | (with_reducible exact ih1 _ _ _ _ _ _ _)
   | (with_reducible exact ih2 _ _ _ _ _ _)
   | (with_reducible exact LeO.refl _)
   | (with_reducible exact LeO.none _)
   | (with_reducible refine LeO.ite ?_ ?_)
   | (with_reducible refine LeO.bind ?_ (fun _ => ?_))
   | exact ih0 _ _ _ _ _ _
   | exact ih1 _ _ _ _ _ _ _
   | exact ih2 _ _ _ _ _ _
   | exact LeO.none _
   | refine LeO.ite ?_ ?_
   | refine LeO.bind ?_ (fun _ => ?_)
set_option maxHeartbeats 8000000 in
set_option maxRecDepth 100000 in
theorem spileref39_has.calls (k : Nat) (A0 : Option Addr) (c0 : Nat) (l0 : List (S34)) (a1 : Int) (a2 : Int) (a3 : Int) (r : Bool) (w : World) (hr0 : Kd.C k34 w A0 l0.length l0) (hc0 : l0.length ≤ c0) (h : spileref39_has.f k l0 a1 a2 a3 = some r) :
  Calls Try.prog 47 #[.slice A0 l0.length c0, .int .i64 a1, .int .i64 a2, .int .i64 a3] w fun e w' => e = .returned (.bool r) ∧ Drawn0 w w' := by
 have HR0 := Aside0.mk hr0
 have HC0 := Aside0.mk hc0
 clear hr0 hc0
 have H : (spileref39_has.l0 k l0 a1 a2 a3 false 0) = some r := h
 clear h
 have H' := Aside0.mk H
 clear H
 go_enter Try.func47, Try.ntmps47
 go_wp2
 go_loopg [9, 10] k (fun kq v9 v10 w' => ∃ (x9_1 : Bool) (x10_1 : Int), v9 = .bool x9_1 ∧ v10 = .int .i64 x10_1 ∧ Aside0 (spileref39_has.l0 kq l0 a1 a2 a3 x9_1 x10_1 = some r) ∧ Aside0 (kq ≤ k) ∧ Drawn0 w w')
 case atStart => exact ⟨(false), (0), (by first | rfl | (simp; done) | (simp [*]; done)), (by first | rfl | (simp; done) | (simp [*]; done)), H', ⟨Nat.le_refl _⟩, by repeat (first | exact Drawn0.refl _ | apply Drawn0.step)⟩
 case round =>
  clear H'
  try clear p2
  try clear c4
  obtain ⟨x9_1, x10_1, rfl, rfl, HA, HK1, ⟨m1, rfl⟩⟩ := hrel
  cases gk with
  | zero => exact absurd HA.out (by simp [spileref39_has.l0])
  | succ k1 =>
   have H := HA.out
   clear HA
   simp only [spileref39_has.l0] at H
   by_cases c5 : x10_1 < (l0.length : Int)
   ·rw [if_pos c5] at H
    have c5b0 : decide (x10_1 < (l0.length : Int)) = true := decide_eq_true c5
    clear c5
    have HC6 := Aside0.mk H
    clear H
    go_upto_region 5 with (fail)
    go_cut [41] (fun v41 wc => ∃ (kq : Nat) (x41_5 : Bool), v41 = .bool x41_5 ∧ Aside0 (spileref39_has.j1 kq l0 a1 a2 a3 x9_1 x10_1 x41_5 = some r) ∧ Aside0 (kq ≤ k1) ∧ Drawn0 w wc)
    case first =>
     have H := HC6.out
     clear HC6
     by_cases c7 : 0 ≤ x10_1
     ·rw [if_pos c7] at H
      have c7b0 : decide (0 ≤ x10_1) = true := decide_eq_true c7
      clear c7
      (first | rw [c7b0] | (simp only [i64_w, i32_w]; rw [c7b0]) | skip)
      by_cases c8 : ((rd_T34 l0 x10_1).f0) > a3
      ·rw [if_pos c8] at H
       have c8b0 : decide (a3 < ((rd_T34 l0 x10_1).f0)) = true := decide_eq_true c8
       clear c8
       have H' := Aside0.mk H
       clear H
       have p286 : 0 ≤ (x10_1 : Int) := of_decide_eq_true (by first | (with_reducible assumption) | assumption)
       have q286 : x10_1 < (l0.length : Int) := of_decide_eq_true (by first | (with_reducible assumption) | assumption)
       obtain ⟨ad286, e286, hx286_0, hx286_1, hx286_2, hx286_3⟩ := at_T34 HR0.out x10_1 p286 q286
       cases e286
       replace p286 := eq_true p286
       replace q286 := eq_true q286
       go_wp2
       go_meet
       case rel => exact ⟨_, (true), (by first | rfl | (simp; done) | (simp [*]; done)), H', ⟨by have := HK1.out; first | omega | exact Nat.le_refl _⟩, by repeat (first | exact Drawn0.refl _ | apply Drawn0.step)⟩
      ·rw [if_neg c8] at H
       have c8b0 : decide (a3 < ((rd_T34 l0 x10_1).f0)) = false := decide_eq_false c8
       clear c8
       by_cases c9 : ((rd_T34 l0 x10_1).f2) = a2
       ·rw [if_pos c9] at H
        have c9b0 : (((rd_T34 l0 x10_1).f2) == a2) = true := beq_iff_eq.mpr c9
        try simp only [beq_self_eq_true, Bool.not_true, Bool.false_or, Bool.true_and] at c9b0
        have c9b1 : (((rd_T34 l0 x10_1).f2) != a2) = false := bne_eq_false_iff_eq.mpr c9
        clear c9
        have H' := Aside0.mk H
        clear H
        have p286 : 0 ≤ (x10_1 : Int) := of_decide_eq_true (by first | (with_reducible assumption) | assumption)
        have q286 : x10_1 < (l0.length : Int) := of_decide_eq_true (by first | (with_reducible assumption) | assumption)
        obtain ⟨ad286, e286, hx286_0, hx286_1, hx286_2, hx286_3⟩ := at_T34 HR0.out x10_1 p286 q286
        cases e286
        replace p286 := eq_true p286
        replace q286 := eq_true q286
        have p287 : 0 ≤ (x10_1 : Int) := of_decide_eq_true (by first | (with_reducible assumption) | assumption)
        have q287 : x10_1 < (l0.length : Int) := of_decide_eq_true (by first | (with_reducible assumption) | assumption)
        obtain ⟨ad287, e287, hx287_0, hx287_1, hx287_2, hx287_3⟩ := at_T34 HR0.out x10_1 p287 q287
        obtain rfl : ad286 = ad287 := (by injection e287)
        replace p287 := eq_true p287
        replace q287 := eq_true q287
        have p288 : 0 ≤ (x10_1 : Int) := of_decide_eq_true (by first | (with_reducible assumption) | assumption)
        have q288 : x10_1 < (l0.length : Int) := of_decide_eq_true (by first | (with_reducible assumption) | assumption)
        obtain ⟨ad288, e288, hx288_0, hx288_1, hx288_2, hx288_3⟩ := at_T34 HR0.out x10_1 p288 q288
        obtain rfl : ad286 = ad288 := (by injection e288)
        replace p288 := eq_true p288
        replace q288 := eq_true q288
        go_wp2
        go_meet
        case rel => exact ⟨_, ((((rd_T34 l0 x10_1).f1) != a1)), (by first | rfl | (simp; done) | (simp [*]; done)), H', ⟨by have := HK1.out; first | omega | exact Nat.le_refl _⟩, by repeat (first | exact Drawn0.refl _ | apply Drawn0.step)⟩
       ·rw [if_neg c9] at H
        have c9b0 : (((rd_T34 l0 x10_1).f2) == a2) = false := beq_eq_false_iff_ne.mpr c9
        try simp only [beq_self_eq_true, Bool.not_true, Bool.false_or, Bool.true_and] at c9b0
        have c9b1 : (((rd_T34 l0 x10_1).f2) != a2) = true := bne_iff_ne.mpr c9
        have H' := Aside0.mk H
        clear H
        have p286 : 0 ≤ (x10_1 : Int) := of_decide_eq_true (by first | (with_reducible assumption) | assumption)
        have q286 : x10_1 < (l0.length : Int) := of_decide_eq_true (by first | (with_reducible assumption) | assumption)
        obtain ⟨ad286, e286, hx286_0, hx286_1, hx286_2, hx286_3⟩ := at_T34 HR0.out x10_1 p286 q286
        cases e286
        replace p286 := eq_true p286
        replace q286 := eq_true q286
        have p287 : 0 ≤ (x10_1 : Int) := of_decide_eq_true (by first | (with_reducible assumption) | assumption)
        have q287 : x10_1 < (l0.length : Int) := of_decide_eq_true (by first | (with_reducible assumption) | assumption)
        obtain ⟨ad287, e287, hx287_0, hx287_1, hx287_2, hx287_3⟩ := at_T34 HR0.out x10_1 p287 q287
        obtain rfl : ad286 = ad287 := (by injection e287)
        replace p287 := eq_true p287
        replace q287 := eq_true q287
        go_wp2
        go_meet
        case rel => exact ⟨_, (true), (by first | rfl | (simp; done) | (simp [*]; done)), H', ⟨by have := HK1.out; first | omega | exact Nat.le_refl _⟩, by repeat (first | exact Drawn0.refl _ | apply Drawn0.step)⟩
     ·rw [if_neg c7] at H
      exact absurd H (by simp)
    case rest =>
     clear HC6
     try clear p2
     try clear q2
     try clear hx2
     try clear c4
     try clear c5
     try clear c5b0
     try clear c7
     try clear c7b0
     try clear c8
     try clear c8b0
     try clear c9
     try clear c9b0
     try clear c9b1
     try clear hx286_0
     try clear hx286_1
     try clear hx286_2
     try clear hx286_3
     try clear hx287_0
     try clear hx287_1
     try clear hx287_2
     try clear hx287_3
     try clear hx288_0
     try clear hx288_1
     try clear hx288_2
     try clear hx288_3
     try clear p2
     try clear p286
     try clear p287
     try clear p288
     try clear q286
     try clear q287
     try clear q288
     obtain ⟨kq, x41_5, rfl, HA, HJ5, ⟨mc5, rfl⟩⟩ := hcut
     cases kq with
     | zero => exact absurd HA.out (by simp [spileref39_has.j1])
     | succ kj5 =>
      have H := HA.out
      clear HA
      simp only [spileref39_has.j1] at H
      by_cases c10 : x41_5 = true
      ·subst c10
       have H1 : (spileref39_has.l0 kj5 l0 a1 a2 a3 x9_1 (wrap64 (x10_1 + 1))) = some r := by rw [if_pos rfl] at H; exact H
       clear H
       have H := H1
       clear H1
       have H' := Aside0.mk H
       clear H
       go_wp2
       go_roundg kj5
       case measure => have := HK1.out; have := HJ5.out; omega
       case rel => exact ⟨(x9_1), (wrap64 (x10_1 + 1)), (by first | rfl | (simp; done) | (simp [*]; done)), (by first | rfl | (simp; done) | (simp [*]; done)), H', ⟨by have := HK1.out; have := HJ5.out; omega⟩, by repeat (first | exact Drawn0.refl _ | apply Drawn0.step)⟩
      ·replace c10 := Bool.eq_false_iff.mpr c10
       subst c10
       have H1 : (if 0 ≤ x10_1 then (if x10_1 < (l0.length : Int) then (if ((rd_T34 l0 x10_1).f3) = 1 then (spileref39_has.j2 kj5 l0 a1 a2 a3 true x10_1) else (spileref39_has.j2 kj5 l0 a1 a2 a3 x9_1 x10_1)) else (none)) else (none)) = some r := by rw [if_neg (show ¬ (false = true) by decide)] at H; exact H
       clear H
       have H := H1
       clear H1
       by_cases c11 : 0 ≤ x10_1
       ·rw [if_pos c11] at H
        have c11b0 : decide (0 ≤ x10_1) = true := decide_eq_true c11
        clear c11
        by_cases c12 : x10_1 < (l0.length : Int)
        ·rw [if_pos c12] at H
         have c12b0 : decide (x10_1 < (l0.length : Int)) = true := decide_eq_true c12
         clear c12
         have HC13 := Aside0.mk H
         clear H
         have p289 : 0 ≤ (x10_1 : Int) := of_decide_eq_true (by first | (with_reducible assumption) | assumption)
         have q289 : x10_1 < (l0.length : Int) := of_decide_eq_true (by first | (with_reducible assumption) | assumption)
         obtain ⟨ad289, e289, hx289_0, hx289_1, hx289_2, hx289_3⟩ := at_T34 HR0.out x10_1 p289 q289
         cases e289
         replace p289 := eq_true p289
         replace q289 := eq_true q289
         go_upto_if 47 with (fail)
         go_cut [9] (fun v9 wc => ∃ (kq : Nat) (x9_12 : Bool), v9 = .bool x9_12 ∧ Aside0 (spileref39_has.j2 kq l0 a1 a2 a3 x9_12 x10_1 = some r) ∧ Aside0 (kq ≤ kj5) ∧ Drawn0 w wc)
         case first =>
          have H := HC13.out
          clear HC13
          by_cases c14 : ((rd_T34 l0 x10_1).f3) = 1
          ·rw [if_pos c14] at H
           have c14b0 : (((rd_T34 l0 x10_1).f3) == 1) = true := beq_iff_eq.mpr c14
           try simp only [beq_self_eq_true, Bool.not_true, Bool.false_or, Bool.true_and] at c14b0
           have c14b1 : (((rd_T34 l0 x10_1).f3) != 1) = false := bne_eq_false_iff_eq.mpr c14
           clear c14
           (first | rw [c14b0] | (simp only [i64_w, i32_w]; rw [c14b0]) | skip)
           have H' := Aside0.mk H
           clear H
           go_wp2
           go_meet
           case rel => exact ⟨_, (true), (by first | rfl | (simp; done) | (simp [*]; done)), H', ⟨by have := HK1.out; have := HJ5.out; first | omega | exact Nat.le_refl _⟩, by repeat (first | exact Drawn0.refl _ | apply Drawn0.step)⟩
          ·rw [if_neg c14] at H
           have c14b0 : (((rd_T34 l0 x10_1).f3) == 1) = false := beq_eq_false_iff_ne.mpr c14
           try simp only [beq_self_eq_true, Bool.not_true, Bool.false_or, Bool.true_and] at c14b0
           have c14b1 : (((rd_T34 l0 x10_1).f3) != 1) = true := bne_iff_ne.mpr c14
           (first | rw [c14b0] | (simp only [i64_w, i32_w]; rw [c14b0]) | skip)
           have H' := Aside0.mk H
           clear H
           go_wp2
           go_meet
           case rel => exact ⟨_, (x9_1), (by first | rfl | (simp; done) | (simp [*]; done)), H', ⟨by have := HK1.out; have := HJ5.out; first | omega | exact Nat.le_refl _⟩, by repeat (first | exact Drawn0.refl _ | apply Drawn0.step)⟩
         case rest =>
          clear HC13
          try clear c1
          try clear p2
          try clear q2
          try clear hx2
          try clear c4
          try clear c5
          try clear c5b0
          try clear p6
          try clear c7
          try clear c7b0
          try clear c8
          try clear c8b0
          try clear c9
          try clear c9b0
          try clear c9b1
          try clear c10
          try clear c11
          try clear c11b0
          try clear c12
          try clear c12b0
          try clear c14
          try clear c14b0
          try clear c14b1
          try clear hx286_0
          try clear hx286_1
          try clear hx286_2
          try clear hx286_3
          try clear hx287_0
          try clear hx287_1
          try clear hx287_2
          try clear hx287_3
          try clear hx288_0
          try clear hx288_1
          try clear hx288_2
          try clear hx288_3
          try clear hx289_0
          try clear hx289_1
          try clear hx289_2
          try clear hx289_3
          try clear p2
          try clear p286
          try clear p287
          try clear p288
          try clear p289
          try clear q2
          try clear q286
          try clear q287
          try clear q288
          try clear q289
          obtain ⟨kq, x9_12, rfl, HA, HJ12, ⟨mc12, rfl⟩⟩ := hcut
          cases kq with
          | zero => exact absurd HA.out (by simp [spileref39_has.j2])
          | succ kj12 =>
           have H := HA.out
           clear HA
           simp only [spileref39_has.j2] at H
           by_cases c15 : 0 ≤ x10_1
           ·rw [if_pos c15] at H
            have c15b0 : decide (0 ≤ x10_1) = true := decide_eq_true c15
            clear c15
            by_cases c16 : x10_1 < (l0.length : Int)
            ·rw [if_pos c16] at H
             have c16b0 : decide (x10_1 < (l0.length : Int)) = true := decide_eq_true c16
             clear c16
             by_cases c17 : ((rd_T34 l0 x10_1).f3) = 3
             ·rw [if_pos c17] at H
              have c17b0 : (((rd_T34 l0 x10_1).f3) == 3) = true := beq_iff_eq.mpr c17
              try simp only [beq_self_eq_true, Bool.not_true, Bool.false_or, Bool.true_and] at c17b0
              have c17b1 : (((rd_T34 l0 x10_1).f3) != 3) = false := bne_eq_false_iff_eq.mpr c17
              clear c17
              have H' := Aside0.mk H
              clear H
              have p290 : 0 ≤ (x10_1 : Int) := of_decide_eq_true (by first | (with_reducible assumption) | assumption)
              have q290 : x10_1 < (l0.length : Int) := of_decide_eq_true (by first | (with_reducible assumption) | assumption)
              obtain ⟨ad290, e290, hx290_0, hx290_1, hx290_2, hx290_3⟩ := at_T34 HR0.out x10_1 p290 q290
              obtain rfl : ad289 = ad290 := (by injection e290)
              replace p290 := eq_true p290
              replace q290 := eq_true q290
              go_wp2
              go_roundg kj12
              case measure => have := HK1.out; have := HJ5.out; have := HJ12.out; omega
              case rel => exact ⟨(false), (wrap64 (x10_1 + 1)), (by first | rfl | (simp; done) | (simp [*]; done)), (by first | rfl | (simp; done) | (simp [*]; done)), H', ⟨by have := HK1.out; have := HJ5.out; have := HJ12.out; omega⟩, by repeat (first | exact Drawn0.refl _ | apply Drawn0.step)⟩
             ·rw [if_neg c17] at H
              have c17b0 : (((rd_T34 l0 x10_1).f3) == 3) = false := beq_eq_false_iff_ne.mpr c17
              try simp only [beq_self_eq_true, Bool.not_true, Bool.false_or, Bool.true_and] at c17b0
              have c17b1 : (((rd_T34 l0 x10_1).f3) != 3) = true := bne_iff_ne.mpr c17
              by_cases c18 : ((rd_T34 l0 x10_1).f3) = 4
              ·rw [if_pos c18] at H
               have c18b0 : (((rd_T34 l0 x10_1).f3) == 4) = true := beq_iff_eq.mpr c18
               try simp only [beq_self_eq_true, Bool.not_true, Bool.false_or, Bool.true_and] at c18b0
               have c18b1 : (((rd_T34 l0 x10_1).f3) != 4) = false := bne_eq_false_iff_eq.mpr c18
               clear c18
               have H' := Aside0.mk H
               clear H
               have p290 : 0 ≤ (x10_1 : Int) := of_decide_eq_true (by first | (with_reducible assumption) | assumption)
               have q290 : x10_1 < (l0.length : Int) := of_decide_eq_true (by first | (with_reducible assumption) | assumption)
               obtain ⟨ad290, e290, hx290_0, hx290_1, hx290_2, hx290_3⟩ := at_T34 HR0.out x10_1 p290 q290
               obtain rfl : ad289 = ad290 := (by injection e290)
               replace p290 := eq_true p290
               replace q290 := eq_true q290
               have p291 : 0 ≤ (x10_1 : Int) := of_decide_eq_true (by first | (with_reducible assumption) | assumption)
               have q291 : x10_1 < (l0.length : Int) := of_decide_eq_true (by first | (with_reducible assumption) | assumption)
               obtain ⟨ad291, e291, hx291_0, hx291_1, hx291_2, hx291_3⟩ := at_T34 HR0.out x10_1 p291 q291
               obtain rfl : ad289 = ad291 := (by injection e291)
               replace p291 := eq_true p291
               replace q291 := eq_true q291
               go_wp2
               go_roundg kj12
               case measure => have := HK1.out; have := HJ5.out; have := HJ12.out; omega
               case rel => exact ⟨(false), (wrap64 (x10_1 + 1)), (by first | rfl | (simp; done) | (simp [*]; done)), (by first | rfl | (simp; done) | (simp [*]; done)), H', ⟨by have := HK1.out; have := HJ5.out; have := HJ12.out; omega⟩, by repeat (first | exact Drawn0.refl _ | apply Drawn0.step)⟩
              ·rw [if_neg c18] at H
               have c18b0 : (((rd_T34 l0 x10_1).f3) == 4) = false := beq_eq_false_iff_ne.mpr c18
               try simp only [beq_self_eq_true, Bool.not_true, Bool.false_or, Bool.true_and] at c18b0
               have c18b1 : (((rd_T34 l0 x10_1).f3) != 4) = true := bne_iff_ne.mpr c18
               have H' := Aside0.mk H
               clear H
               have p290 : 0 ≤ (x10_1 : Int) := of_decide_eq_true (by first | (with_reducible assumption) | assumption)
               have q290 : x10_1 < (l0.length : Int) := of_decide_eq_true (by first | (with_reducible assumption) | assumption)
               obtain ⟨ad290, e290, hx290_0, hx290_1, hx290_2, hx290_3⟩ := at_T34 HR0.out x10_1 p290 q290
               obtain rfl : ad289 = ad290 := (by injection e290)
               replace p290 := eq_true p290
               replace q290 := eq_true q290
               have p291 : 0 ≤ (x10_1 : Int) := of_decide_eq_true (by first | (with_reducible assumption) | assumption)
               have q291 : x10_1 < (l0.length : Int) := of_decide_eq_true (by first | (with_reducible assumption) | assumption)
               obtain ⟨ad291, e291, hx291_0, hx291_1, hx291_2, hx291_3⟩ := at_T34 HR0.out x10_1 p291 q291
               obtain rfl : ad289 = ad291 := (by injection e291)
               replace p291 := eq_true p291
               replace q291 := eq_true q291
               go_wp2
               go_roundg kj12
               case measure => have := HK1.out; have := HJ5.out; have := HJ12.out; omega
               case rel => exact ⟨(x9_12), (wrap64 (x10_1 + 1)), (by first | rfl | (simp; done) | (simp [*]; done)), (by first | rfl | (simp; done) | (simp [*]; done)), H', ⟨by have := HK1.out; have := HJ5.out; have := HJ12.out; omega⟩, by repeat (first | exact Drawn0.refl _ | apply Drawn0.step)⟩
            ·rw [if_neg c16] at H
             exact absurd H (by simp)
           ·rw [if_neg c15] at H
            exact absurd H (by simp)
        ·rw [if_neg c12] at H
         exact absurd H (by simp)
       ·rw [if_neg c11] at H
        exact absurd H (by simp)
   ·rw [if_neg c5] at H
    have c5b0 : decide (x10_1 < (l0.length : Int)) = false := decide_eq_false c5
    clear c5
    obtain rfl := Option.some.inj H
    go_wp2
    go_ret
    exact ⟨by first | rfl | (simp; done) | (simp [*]; done), by repeat (first | exact Drawn0.refl _ | apply Drawn0.step)⟩

end Go.Proofs.Ytfjenooajbdcmaa.K
