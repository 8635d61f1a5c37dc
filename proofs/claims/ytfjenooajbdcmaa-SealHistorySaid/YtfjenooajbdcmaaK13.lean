-- PRINTED by print.py (a twelfth state) out of the translation. Not trusted: Lean checks it.
import Derived.Test.YtfjenooajbdcmaaK0
import Derived.Test.YtfjenooajbdcmaaGPu
import Derived.Test.YtfjenooajbdcmaaGShort
import Derived.Test.YtfjenooajbdcmaaK12
namespace Go.Proofs.Ytfjenooajbdcmaa.K
open Go.RowKit Go.Proofs.YtfjenooajbdcmaaW.PrintWords Go.Proofs.YtfjenooajbdcmaaW.PrintLast Go.Proofs.YtfjenooajbdcmaaW.PrintMore
attribute [local go_sem] max2_int min2_int max_two min_two max_three min_three max_four min_four   -- for this text's walks alone
set_option linter.unusedVariables false
set_option linter.unusedSimpArgs false

/-! ### spileref39_intact: function 45 -/
mutual
def spileref39_intact.l0 : Nat → List (S34) → Int → Int → List Int → Int → Option (List Int)
 | 0, _, _, _, _, _ => none
 | k + 1, x0, x1, x2, x7, x8 => if x8 < (x0.length : Int) then (if 0 ≤ x8 then (if ((rd_T34 x0 x8).f3) = 1 then ((spileref39_has.f k x0 x1 ((rd_T34 x0 x8).f2) x2).bind fun t297 => (spileref39_intact.j1 k x0 x1 x2 x7 x8 (!t297))) else (spileref39_intact.j1 k x0 x1 x2 x7 x8 true)) else (none)) else (some x7)
def spileref39_intact.j1 : Nat → List (S34) → Int → Int → List Int → Int → Bool → Option (List Int)
 | 0, _, _, _, _, _, _ => none
 | k + 1, x0, x1, x2, x7, x8, x34 => if x34 = true then (spileref39_intact.l0 k x0 x1 x2 x7 (wrap64 (x8 + 1))) else (if 0 ≤ x8 then (if x8 < (x0.length : Int) then (if x7.length < 17592186044416 then (spileref39_intact.l1 k x0 x1 x2 (x7 ++ [(rd_T34 x0 x8).f2]) x8 (x7.length : Int)) else (none)) else (none)) else (none))
def spileref39_intact.l1 : Nat → List (S34) → Int → Int → List Int → Int → Int → Option (List Int)
 | 0, _, _, _, _, _, _ => none
 | k + 1, x0, x1, x2, x7, x8, x9 => if x9 > 0 then (if 0 ≤ (wrap64 (x9 - 1)) then (if (wrap64 (x9 - 1)) < (x7.length : Int) then (if 0 ≤ x9 then (if x9 < (x7.length : Int) then (if (rd x7 (wrap64 (x9 - 1))) > (rd x7 x9) then (spileref39_intact.l1 k x0 x1 x2 ((x7.set ((wrap64 (x9 - 1)) : Int).toNat (rd x7 x9)).set (x9 : Int).toNat (rd x7 (wrap64 (x9 - 1)))) x8 (wrap64 (x9 - 1))) else (spileref39_intact.l0 k x0 x1 x2 x7 (wrap64 (x8 + 1)))) else (none)) else (none)) else (none)) else (none)) else (spileref39_intact.l0 k x0 x1 x2 x7 (wrap64 (x8 + 1)))
end
def spileref39_intact.f (k : Nat) (l0 : List (S34)) (a1 : Int) (a2 : Int) : Option (List Int) := spileref39_intact.l0 k l0 a1 a2 (([] : List Int)) 0
theorem spileref39_intact.mono_l : ∀ k, (∀ y0 y1 y2 y3 y4, LeO (spileref39_intact.l0 k y0 y1 y2 y3 y4) (spileref39_intact.l0 (k + 1) y0 y1 y2 y3 y4)) ∧ (∀ y0 y1 y2 y3 y4 y5, LeO (spileref39_intact.j1 k y0 y1 y2 y3 y4 y5) (spileref39_intact.j1 (k + 1) y0 y1 y2 y3 y4 y5)) ∧ (∀ y0 y1 y2 y3 y4 y5, LeO (spileref39_intact.l1 k y0 y1 y2 y3 y4 y5) (spileref39_intact.l1 (k + 1) y0 y1 y2 y3 y4 y5))
 | 0 => ⟨fun _ _ _ _ _ r h => by simp [spileref39_intact.l0] at h, fun _ _ _ _ _ _ r h => by simp [spileref39_intact.j1] at h, fun _ _ _ _ _ _ r h => by simp [spileref39_intact.l1] at h⟩
 | k + 1 => by
  obtain ⟨ih0, ih1, ih2⟩ := spileref39_intact.mono_l k
  refine ⟨?_, ?_, ?_⟩
  ·intro y0 y1 y2 y3 y4
   unfold spileref39_intact.l0
   repeat' first
   | (with_reducible exact ih0 _ _ _ _ _)
   | (with_reducible exact ih1 _ _ _ _ _ _)
   | (with_reducible exact ih2 _ _ _ _ _ _)
   | (with_reducible exact spileref39_has.mono _ _ _ _ _)
   | (with_reducible exact LeO.refl _)
   | (with_reducible exact LeO.none _)
   | (with_reducible refine LeO.ite ?_ ?_)
   | (with_reducible refine LeO.bind ?_ (fun _ => ?_))
   | exact ih0 _ _ _ _ _
   | exact ih1 _ _ _ _ _ _
   | exact ih2 _ _ _ _ _ _
   | exact spileref39_has.mono _ _ _ _ _
   | exact LeO.none _
   | refine LeO.ite ?_ ?_
   | refine LeO.bind ?_ (fun _ => ?_)
  ·intro y0 y1 y2 y3 y4 y5
   unfold spileref39_intact.j1
   repeat' first
   | (with_reducible exact ih0 _ _ _ _ _)
   | (with_reducible exact ih1 _ _ _ _ _ _)
   | (with_reducible exact ih2 _ _ _ _ _ _)
   | (with_reducible exact spileref39_has.mono _ _ _ _ _)
   | (with_reducible exact LeO.refl _)
   | (with_reducible exact LeO.none _)
   | (with_reducible refine LeO.ite ?_ ?_)
   | (with_reducible refine LeO.bind ?_ (fun _ => ?_))
   | exact ih0 _ _ _ _ _
   | exact ih1 _ _ _ _ _ _
   | exact ih2 _ _ _ _ _ _
   | exact spileref39_has.mono _ _ _ _ _
   | exact LeO.none _
   | refine LeO.ite ?_ ?_
   | refine LeO.bind ?_ (fun _ => ?_)
  ·intro y0 y1 y2 y3 y4 y5
   unfold spileref39_intact.l1
   repeat' first
   | (with_reducible exact ih0 _ _ _ _ _)
   | (with_reducible exact ih1 _ _ _ _ _ _)
   | (with_reducible exact ih2 _ _ _ _ _ _)
   | (with_reducible exact spileref39_has.mono _ _ _ _ _)
   | (with_reducible exact LeO.refl _)
   | (with_reducible exact LeO.none _)
   | (with_reducible refine LeO.ite ?_ ?_)
   | (with_reducible refine LeO.bind ?_ (fun _ => ?_))
   | exact ih0 _ _ _ _ _
   | exact ih1 _ _ _ _ _ _
   | exact ih2 _ _ _ _ _ _
   | exact spileref39_has.mono _ _ _ _ _
   | exact LeO.none _
   | refine LeO.ite ?_ ?_
   | refine LeO.bind ?_ (fun _ => ?_)
theorem spileref39_intact.mono : ∀ a0 a1 a2 k, LeO (spileref39_intact.f k a0 a1 a2) (spileref39_intact.f (k + 1) a0 a1 a2) := by
 intro a0 a1 a2 k
 obtain ⟨ih0, ih1, ih2⟩ := spileref39_intact.mono_l k
 unfold spileref39_intact.f
 repeat' first
   | (with_reducible exact ih0 _ _ _ _ _)
   | (with_reducible exact ih1 _ _ _ _ _ _)
   | (with_reducible exact ih2 _ _ _ _ _ _)
   | (with_reducible exact spileref39_has.mono _ _ _ _ _)
   | (with_reducible exact LeO.refl _)
   | (with_reducible exact LeO.none _)
   | (with_reducible refine LeO.ite ?_ ?_)
   | (with_reducible refine LeO.bind ?_ (fun _ => ?_))
   | exact ih0 _ _ _ _ _
   | exact ih1 _ _ _ _ _ _
   | exact ih2 _ _ _ _ _ _
   | exact spileref39_has.mono _ _ _ _ _
   | exact LeO.none _
   | refine LeO.ite ?_ ?_
   | refine LeO.bind ?_ (fun _ => ?_)
def spileref39_intact.T8 : Bool × List (List Nat × List Nat) := (true, [([], []), ([0], [0]), ([1], [1]), ([2], [2]), ([2], [2]), ([4, 2], [2, 4]), ([3, 5, 2], [2, 3, 5]), ([6, 2], [2, 6]), ([2], [2]), ([2], [2]), ([8, 9, 2], [2, 8, 9]), ([10, 2], [2, 10]), ([7, 11, 2], [2, 7, 11]), ([2, 12], [2, 12])])
def spileref39_intact.B8 : List Nat := [0, 1, 3, 7, 7, 23, 63, 127, 7, 7, 775, 1799, 4095, 8191]
theorem spileref39_intact.tab8 : rtab .any (opsOf Try.f45 8) = spileref39_intact.T8 := by kernel_rfl
theorem spileref39_intact.bits8 : waitsOk spileref39_intact.T8.2 spileref39_intact.B8 = true := by kernel_rfl
def spileref39_intact.T9 : Bool × List (List Nat × List Nat) := (true, [([], []), ([], []), ([1], [1]), ([], []), ([], []), ([], []), ([], []), ([5, 6], [5, 6]), ([7], [7]), ([], []), ([], []), ([10], [10]), ([9, 11], [9, 11]), ([12], [12]), ([0, 2, 0, 1, 2, 5, 6, 7, 8, 13], [0, 2]), ([14, 8, 0, 1, 2, 5, 6, 7, 8, 13], [8, 14]), ([3, 4, 0, 1, 2, 3, 4, 5, 6, 7, 8, 9, 10, 11, 12, 13, 14, 15], [3, 4]), ([16, 13, 15, 0, 1, 2, 3, 4, 5, 6, 7, 8, 9, 10, 11, 12, 13, 14, 15], [13, 16])])
def spileref39_intact.B9 : List Nat := [0, 0, 2, 0, 0, 0, 0, 96, 224, 0, 0, 1024, 3584, 7680, 16359, 32743, 65535, 131071]
theorem spileref39_intact.tab9 : rtab .any (opsOf Try.f45 9) = spileref39_intact.T9 := by kernel_rfl
theorem spileref39_intact.bits9 : waitsOk spileref39_intact.T9.2 spileref39_intact.B9 = true := by kernel_rfl
set_option maxHeartbeats 8000000 in
set_option maxRecDepth 100000 in
theorem spileref39_intact.calls (k : Nat) (A0 : Option Addr) (c0 : Nat) (l0 : List (S34)) (a1 : Int) (a2 : Int) (r : List Int) (w : World) (hr0 : Kd.C k34 w A0 l0.length l0) (hc0 : l0.length ≤ c0) (h : spileref39_intact.f k l0 a1 a2 = some r) :
  Calls Try.prog 45 #[.slice A0 l0.length c0, .int .i64 a1, .int .i64 a2] w fun e w' => ∃ v0_ : Value, e = .returned (v0_) ∧ Kd.R (Kd.int .i64) 3 w' w.heap.size (fun _ => True) v0_ r ∧ Below w.heap.size w w' := by
 have HR0 := Aside0.mk hr0
 have HC0 := Aside0.mk hc0
 clear hr0 hc0
 have HB := Aside0.mk (Below.refl w.heap.size w)
 have H : (spileref39_intact.l0 k l0 a1 a2 (([] : List Int)) 0) = some r := h
 clear h
 obtain ⟨y292, hy292⟩ : ∃ y_ : List Int, y_ = (([] : List Int)) := ⟨_, rfl⟩
 replace H : (spileref39_intact.l0 k l0 a1 a2 y292 0) = some r := by first | (rw [hy292]; with_reducible exact H) | (have H2_ := (Option.bind_some _ _).symm.trans H; rw [hy292]; with_reducible exact H2_) | (have H2_ := (Option.bind_some _ _).symm.trans H; with_reducible exact H2_) | with_reducible exact H | (rw [hy292]; exact H) | exact H
 have Ny292 := Aside0.mk hy292
 clear hy292
 have H' := Aside0.mk H
 clear H
 go_enter Try.func45, Try.ntmps45
 go_wp2_with (first | ((with_reducible refine gqD (N := 10) rfl ?_); refine Kd.R_lit (Kd.int .i64) _ 3 ?hg (N := 10) ?hd (xs := ([] : List Int)) (inner := []) (ok := fun _ => True) (okp := fun _ => True) ?hr ?hp (fun _ hk => hk) trivial (Below.refl _ _) (Nat.le_refl _) (by simp) ?_; (case hd => rfl); (case hg => rfl); (case hr => first | (go_simp; done) | (go_simp; rfl)); (case hp => exact (Reps.none _ _)); intro v293 w4 ho5 hb hg_ hnew_; clear hg_ hnew_; (first | rw [← Ny292.out] at ho5 | (simp only [Int.reduceToNat] at ho5; rw [← Ny292.out] at ho5)); have n0_ := Aside0.mk (Kd.R_lower ho5 (lqZ (GS.lB HB.out))); have n1_ := Aside0.mk (lqT (GS.lB HB.out) hb); clear HB; have HO294 := n0_; have HB := n1_; clear n0_ n1_; clear hb ho5))
 go_loopg [7, 8] k (fun kq v7 v8 w' => ∃ (x7_1 : List Int) (x8_1 : Int), v8 = .int .i64 x8_1 ∧ Aside0 (spileref39_intact.l0 kq l0 a1 a2 x7_1 x8_1 = some r) ∧ Aside0 (kq ≤ k) ∧ Aside0 (Kd.R (Kd.int .i64) 3 w' w.heap.size (fun _ => True) v7 x7_1) ∧ Aside0 (Below w.heap.size w w'))
 case atStart => exact ⟨(y292), (0), (by first | rfl | (simp; done) | (simp [*]; done)), H', ⟨Nat.le_refl _⟩, ⟨by (with_reducible repeat (first | apply Kd.R_alloc | apply Kd.R_drewN | apply Kd.R_drew)); exact HO294.out⟩, ⟨GS.lB HB.out⟩⟩
 case round =>
  clear H'
  try clear p2
  try clear c4
  obtain ⟨x7_1, x8_1, rfl, HA, HK1, HO_7, HB⟩ := hrel
  cases gk with
  | zero => exact absurd HA.out (by simp [spileref39_intact.l0])
  | succ k1 =>
   have H := HA.out
   clear HA
   simp only [spileref39_intact.l0] at H
   by_cases c6 : x8_1 < (l0.length : Int)
   ·rw [if_pos c6] at H
    have c6b0 : decide (x8_1 < (l0.length : Int)) = true := decide_eq_true c6
    clear c6
    have HC7 := Aside0.mk H
    clear H
    go_upto_region 5 with (fail)
    go_cut [34] (fun v34 wc => ∃ (kq : Nat) (x34_6 : Bool), v34 = .bool x34_6 ∧ Aside0 (spileref39_intact.j1 kq l0 a1 a2 x7_1 x8_1 x34_6 = some r) ∧ Aside0 (kq ≤ k1) ∧ Aside0 (Kd.R (Kd.int .i64) 3 wc w.heap.size (fun _ => True) u7 x7_1) ∧ Aside0 (Below w.heap.size w wc))
    case first =>
     have H := HC7.out
     clear HC7
     by_cases c8 : 0 ≤ x8_1
     ·rw [if_pos c8] at H
      have c8b0 : decide (0 ≤ x8_1) = true := decide_eq_true c8
      clear c8
      (first | rw [c8b0] | (simp only [i64_w, i32_w]; rw [c8b0]) | skip)
      by_cases c9 : ((rd_T34 l0 x8_1).f3) = 1
      ·rw [if_pos c9] at H
       have c9b0 : (((rd_T34 l0 x8_1).f3) == 1) = true := beq_iff_eq.mpr c9
       try simp only [beq_self_eq_true, Bool.not_true, Bool.false_or, Bool.true_and] at c9b0
       have c9b1 : (((rd_T34 l0 x8_1).f3) != 1) = false := bne_eq_false_iff_eq.mpr c9
       clear c9
       replace H := Option.bind_eq_some_iff.mp H
       obtain ⟨t297, A100, H⟩ := H
       replace H : (spileref39_intact.j1 k1 l0 a1 a2 x7_1 x8_1 (!t297)) = some r := H
       have A10 := Aside0.mk A100
       clear A100
       have H' := Aside0.mk H
       clear H
       have p295 : 0 ≤ (x8_1 : Int) := of_decide_eq_true (by first | (with_reducible assumption) | assumption)
       have q295 : x8_1 < (l0.length : Int) := of_decide_eq_true (by first | (with_reducible assumption) | assumption)
       obtain ⟨ad295, e295, hx295_0, hx295_1, hx295_2, hx295_3⟩ := at_T34 HR0.out x8_1 p295 q295
       cases e295
       replace hx295_0 := (HB.out.cell (World.block_lt_of_cell? w _ hx295_0)).trans hx295_0
       replace hx295_1 := (HB.out.cell (World.block_lt_of_cell? w _ hx295_1)).trans hx295_1
       replace hx295_2 := (HB.out.cell (World.block_lt_of_cell? w _ hx295_2)).trans hx295_2
       replace hx295_3 := (HB.out.cell (World.block_lt_of_cell? w _ hx295_3)).trans hx295_3
       replace p295 := eq_true p295
       replace q295 := eq_true q295
       have p296 : 0 ≤ (x8_1 : Int) := of_decide_eq_true (by first | (with_reducible assumption) | assumption)
       have q296 : x8_1 < (l0.length : Int) := of_decide_eq_true (by first | (with_reducible assumption) | assumption)
       obtain ⟨ad296, e296, hx296_0, hx296_1, hx296_2, hx296_3⟩ := at_T34 HR0.out x8_1 p296 q296
       obtain rfl : ad295 = ad296 := (by injection e296)
       replace hx296_0 := (HB.out.cell (World.block_lt_of_cell? w _ hx296_0)).trans hx296_0
       replace hx296_1 := (HB.out.cell (World.block_lt_of_cell? w _ hx296_1)).trans hx296_1
       replace hx296_2 := (HB.out.cell (World.block_lt_of_cell? w _ hx296_2)).trans hx296_2
       replace hx296_3 := (HB.out.cell (World.block_lt_of_cell? w _ hx296_3)).trans hx296_3
       replace p296 := eq_true p296
       replace q296 := eq_true q296
       go_wp2_with (first | (go_at_call 47; (with_reducible refine (spileref39_has.calls k1 _ _ l0 a1 ((rd_T34 l0 x8_1).f2) a2 t297 _ ?side1 ?side2 A10.out).mono ?_); (case side1 => exact GS.rC (Kd.C_below HR0.out HB.out)); (case side2 => exact HC0.out); rintro e w' ⟨rfl, ⟨nd, rfl⟩⟩))
       go_meet
       case rel => exact ⟨_, (!t297), (by first | rfl | (simp; done) | (simp [*]; done)), H', ⟨by have := HK1.out; first | omega | exact Nat.le_refl _⟩, ⟨by (with_reducible repeat (first | apply Kd.R_alloc | apply Kd.R_drewN | apply Kd.R_drew)); exact HO_7.out⟩, ⟨GS.lB HB.out⟩⟩
      ·rw [if_neg c9] at H
       have c9b0 : (((rd_T34 l0 x8_1).f3) == 1) = false := beq_eq_false_iff_ne.mpr c9
       try simp only [beq_self_eq_true, Bool.not_true, Bool.false_or, Bool.true_and] at c9b0
       have c9b1 : (((rd_T34 l0 x8_1).f3) != 1) = true := bne_iff_ne.mpr c9
       have H' := Aside0.mk H
       clear H
       have p295 : 0 ≤ (x8_1 : Int) := of_decide_eq_true (by first | (with_reducible assumption) | assumption)
       have q295 : x8_1 < (l0.length : Int) := of_decide_eq_true (by first | (with_reducible assumption) | assumption)
       obtain ⟨ad295, e295, hx295_0, hx295_1, hx295_2, hx295_3⟩ := at_T34 HR0.out x8_1 p295 q295
       cases e295
       replace hx295_0 := (HB.out.cell (World.block_lt_of_cell? w _ hx295_0)).trans hx295_0
       replace hx295_1 := (HB.out.cell (World.block_lt_of_cell? w _ hx295_1)).trans hx295_1
       replace hx295_2 := (HB.out.cell (World.block_lt_of_cell? w _ hx295_2)).trans hx295_2
       replace hx295_3 := (HB.out.cell (World.block_lt_of_cell? w _ hx295_3)).trans hx295_3
       replace p295 := eq_true p295
       replace q295 := eq_true q295
       go_wp2
       go_meet
       case rel => exact ⟨_, (true), (by first | rfl | (simp; done) | (simp [*]; done)), H', ⟨by have := HK1.out; first | omega | exact Nat.le_refl _⟩, ⟨by (with_reducible repeat (first | apply Kd.R_alloc | apply Kd.R_drewN | apply Kd.R_drew)); exact HO_7.out⟩, ⟨GS.lB HB.out⟩⟩
     ·rw [if_neg c8] at H
      exact absurd H (by simp)
    case rest =>
     clear HC7
     try clear p2
     try clear q2
     try clear hx2
     try clear c4
     try clear c6
     try clear c6b0
     try clear c8
     try clear c8b0
     try clear c9
     try clear c9b0
     try clear c9b1
     try clear hx295_0
     try clear hx295_1
     try clear hx295_2
     try clear hx295_3
     try clear hx296_0
     try clear hx296_1
     try clear hx296_2
     try clear hx296_3
     try clear p2
     try clear p295
     try clear p296
     try clear q295
     try clear q296
     obtain ⟨kq, x34_6, rfl, HA, HJ6, HO_7, HB⟩ := hcut
     cases kq with
     | zero => exact absurd HA.out (by simp [spileref39_intact.j1])
     | succ kj6 =>
      have H := HA.out
      clear HA
      simp only [spileref39_intact.j1] at H
      by_cases c11 : x34_6 = true
      ·subst c11
       have H1 : (spileref39_intact.l0 kj6 l0 a1 a2 x7_1 (wrap64 (x8_1 + 1))) = some r := by rw [if_pos rfl] at H; exact H
       clear H
       have H := H1
       clear H1
       have H' := Aside0.mk H
       clear H
       go_wp2
       go_roundg kj6
       case measure => have := HK1.out; have := HJ6.out; omega
       case rel => exact ⟨(x7_1), (wrap64 (x8_1 + 1)), (by first | rfl | (simp; done) | (simp [*]; done)), H', ⟨by have := HK1.out; have := HJ6.out; omega⟩, ⟨by (with_reducible repeat (first | apply Kd.R_alloc | apply Kd.R_drewN | apply Kd.R_drew)); exact HO_7.out⟩, ⟨GS.lB HB.out⟩⟩
      ·replace c11 := Bool.eq_false_iff.mpr c11
       subst c11
       have H1 : (if 0 ≤ x8_1 then (if x8_1 < (l0.length : Int) then (if x7_1.length < 17592186044416 then (spileref39_intact.l1 kj6 l0 a1 a2 (x7_1 ++ [(rd_T34 l0 x8_1).f2]) x8_1 (x7_1.length : Int)) else (none)) else (none)) else (none)) = some r := by rw [if_neg (show ¬ (false = true) by decide)] at H; exact H
       clear H
       have H := H1
       clear H1
       by_cases c12 : 0 ≤ x8_1
       ·rw [if_pos c12] at H
        have c12b0 : decide (0 ≤ x8_1) = true := decide_eq_true c12
        clear c12
        by_cases c13 : x8_1 < (l0.length : Int)
        ·rw [if_pos c13] at H
         have c13b0 : decide (x8_1 < (l0.length : Int)) = true := decide_eq_true c13
         clear c13
         by_cases c14 : x7_1.length < 17592186044416
         ·rw [if_pos c14] at H
          have LMc14 := Aside0.mk c14
          clear c14
          obtain ⟨y299, hy299⟩ : ∃ y_ : List Int, y_ = (x7_1 ++ [(rd_T34 l0 x8_1).f2]) := ⟨_, rfl⟩
          replace H : (spileref39_intact.l1 kj6 l0 a1 a2 y299 x8_1 (x7_1.length : Int)) = some r := by first | (rw [hy299]; with_reducible exact H) | (have H2_ := (Option.bind_some _ _).symm.trans H; rw [hy299]; with_reducible exact H2_) | (have H2_ := (Option.bind_some _ _).symm.trans H; with_reducible exact H2_) | with_reducible exact H | (rw [hy299]; exact H) | exact H
          have Ny299 := Aside0.mk hy299
          clear hy299
          have H' := Aside0.mk H
          clear H
          obtain ⟨Ao15, co15, eo15⟩ := Kd.R_slice HO_7.out
          subst eo15
          have p298 : 0 ≤ (x8_1 : Int) := of_decide_eq_true (by first | (with_reducible assumption) | assumption)
          have q298 : x8_1 < (l0.length : Int) := of_decide_eq_true (by first | (with_reducible assumption) | assumption)
          obtain ⟨ad298, e298, hx298_0, hx298_1, hx298_2, hx298_3⟩ := at_T34 HR0.out x8_1 p298 q298
          cases e298
          replace hx298_0 := (HB.out.cell (World.block_lt_of_cell? w _ hx298_0)).trans hx298_0
          replace hx298_1 := (HB.out.cell (World.block_lt_of_cell? w _ hx298_1)).trans hx298_1
          replace hx298_2 := (HB.out.cell (World.block_lt_of_cell? w _ hx298_2)).trans hx298_2
          replace hx298_3 := (HB.out.cell (World.block_lt_of_cell? w _ hx298_3)).trans hx298_3
          replace p298 := eq_true p298
          replace q298 := eq_true q298
          go_wp2_with (first | ((with_reducible refine gate_builtin (b := .append) (xs := #[.tmp 37, .tmp 43]) rfl ?_); at_builtin; refine Kd.R_append (Kd.int .i64) (w0 := w) w.heap.size rfl (.tmp 37) (.tmp 43) 28 3 (.int .i64 0) 8 rfl Try.underlying28 info3 rfl (by decide) (by omega) (.slice Ao15 x7_1.length co15) x7_1 ((rd_T34 l0 x8_1).f2) [.int .i64 ((rd_T34 l0 x8_1).f2)] (fun _ => True) (fun _ => False) rfl rfl ?aP (fun _ hk => hk.elim) ?aF ?aO ?aB ?aS ?aL ?_; (case aP => exact rfl); (case aB => exact (GS.lB HB.out)); (case aF => exact (fun _ _ => trivial)); (case aO => exact (GS.rR HO_7.out)); (case aS => exact (lqZ (GS.lB HB.out))); (case aL => have := LMc14.out; omega); intro v300 w16 ho hb hg hat; rw [← Ny299.out] at ho; have n0_ := Aside0.mk (hb); have n1_ := Aside0.mk (ho); clear HB; clear HO_7; have HB := n0_; have HO301 := n1_; clear n0_ n1_; clear ho hb hg hat))
          go_loopg [9] kj6 (fun kq v9 w' => ∃ (x7_3 : List Int) (x9_3 : Int), v9 = .int .i64 x9_3 ∧ Aside0 (spileref39_intact.l1 kq l0 a1 a2 x7_3 x8_1 x9_3 = some r) ∧ Aside0 (kq ≤ kj6) ∧ Aside0 (Kd.R (Kd.int .i64) 3 w' w.heap.size (fun _ => True) v300 x7_3) ∧ Aside0 (Below w.heap.size w w'))
          case atStart => exact ⟨(y299), ((x7_1.length : Int)), (by first | rfl | (simp; done) | (simp [*]; done)), H', ⟨Nat.le_refl _⟩, ⟨by (with_reducible repeat (first | apply Kd.R_alloc | apply Kd.R_drewN | apply Kd.R_drew)); exact HO301.out⟩, ⟨GS.lB HB.out⟩⟩
          case round =>
           clear H'
           try clear c1
           try clear p2
           try clear q2
           try clear hx2
           try clear c4
           try clear c6
           try clear c6b0
           try clear p6
           try clear c8
           try clear c8b0
           try clear c9
           try clear c9b0
           try clear c9b1
           try clear c11
           try clear c12
           try clear c12b0
           try clear c13
           try clear c13b0
           try clear c14
           try clear hx295_0
           try clear hx295_1
           try clear hx295_2
           try clear hx295_3
           try clear hx296_0
           try clear hx296_1
           try clear hx296_2
           try clear hx296_3
           try clear hx298_0
           try clear hx298_1
           try clear hx298_2
           try clear hx298_3
           try clear p2
           try clear p295
           try clear p296
           try clear p298
           try clear q2
           try clear q295
           try clear q296
           try clear q298
           obtain ⟨x7_3, x9_3, rfl, HA, HK3, HO_7, HB⟩ := hrel
           cases gk with
           | zero => exact absurd HA.out (by simp [spileref39_intact.l1])
           | succ k3 =>
            have H := HA.out
            clear HA
            simp only [spileref39_intact.l1] at H
            by_cases c17 : x9_3 > 0
            ·rw [if_pos c17] at H
             have c17b0 : decide (0 < x9_3) = true := decide_eq_true c17
             clear c17
             obtain ⟨ji18, hji18⟩ : ∃ j_ : Int, (wrap64 (x9_3 - 1)) = j_ := ⟨_, rfl⟩
             replace H : (if 0 ≤ (ji18) then (if (ji18) < (x7_3.length : Int) then (if 0 ≤ x9_3 then (if x9_3 < (x7_3.length : Int) then (if (rd x7_3 (ji18)) > (rd x7_3 x9_3) then (spileref39_intact.l1 k3 l0 a1 a2 ((x7_3.set ((ji18) : Int).toNat (rd x7_3 x9_3)).set (x9_3 : Int).toNat (rd x7_3 (ji18))) x8_1 ji18) else (spileref39_intact.l0 k3 l0 a1 a2 x7_3 (wrap64 (x8_1 + 1)))) else (none)) else (none)) else (none)) else (none)) = some r := by first | (rw [hji18] at H; exact H) | (simp only [hji18] at H ⊢; exact H)
             have hji18w : (IntKind.i64.wrap (x9_3 - 1)) = ji18 := (i64_w _).trans hji18
             by_cases c19 : 0 ≤ (ji18)
             ·rw [if_pos c19] at H
              have c19b0 : decide (0 ≤ (ji18)) = true := decide_eq_true c19
              clear c19
              by_cases c20 : (ji18) < (x7_3.length : Int)
              ·rw [if_pos c20] at H
               have c20b0 : decide ((ji18) < (x7_3.length : Int)) = true := decide_eq_true c20
               clear c20
               by_cases c21 : 0 ≤ x9_3
               ·rw [if_pos c21] at H
                have c21b0 : decide (0 ≤ x9_3) = true := decide_eq_true c21
                clear c21
                by_cases c22 : x9_3 < (x7_3.length : Int)
                ·rw [if_pos c22] at H
                 have c22b0 : decide (x9_3 < (x7_3.length : Int)) = true := decide_eq_true c22
                 clear c22
                 by_cases c23 : (rd x7_3 (ji18)) > (rd x7_3 x9_3)
                 ·rw [if_pos c23] at H
                  have c23b0 : decide ((rd x7_3 x9_3) < (rd x7_3 (ji18))) = true := decide_eq_true c23
                  clear c23
                  obtain ⟨y306, hy306⟩ : ∃ y_ : List Int, y_ = (x7_3.set ((ji18) : Int).toNat (rd x7_3 x9_3)) := ⟨_, rfl⟩
                  replace H : (spileref39_intact.l1 k3 l0 a1 a2 (y306.set (x9_3 : Int).toNat (rd x7_3 (ji18))) x8_1 ji18) = some r := by first | (rw [hy306]; with_reducible exact H) | (have H2_ := (Option.bind_some _ _).symm.trans H; rw [hy306]; with_reducible exact H2_) | (have H2_ := (Option.bind_some _ _).symm.trans H; with_reducible exact H2_) | with_reducible exact H | (rw [hy306]; exact H) | exact H
                  have Ny306 := Aside0.mk hy306
                  clear hy306
                  obtain ⟨y307, hy307⟩ : ∃ y_ : List Int, y_ = (y306.set (x9_3 : Int).toNat (rd x7_3 (ji18))) := ⟨_, rfl⟩
                  replace H : (spileref39_intact.l1 k3 l0 a1 a2 y307 x8_1 ji18) = some r := by first | (rw [hy307]; with_reducible exact H) | (have H2_ := (Option.bind_some _ _).symm.trans H; rw [hy307]; with_reducible exact H2_) | (have H2_ := (Option.bind_some _ _).symm.trans H; with_reducible exact H2_) | with_reducible exact H | (rw [hy307]; exact H) | exact H
                  have Ny307 := Aside0.mk hy307
                  clear hy307
                  have H' := Aside0.mk H
                  clear H
                  try go_wp2
                  have n0_ := Aside0.mk (Kd.R_drew HO_7.out)
                  have n1_ := Aside0.mk (lqD HB.out)
                  clear HO_7
                  clear HB
                  have HO_7 := n0_
                  have HB := n1_
                  clear n0_ n1_
                  obtain ⟨Ao27, co27, eo27⟩ := Kd.R_slice HO_7.out
                  (first | subst eo27 | (injection eo27 with f1_ f2_ f3_; have f4_ := f1_.symm; have f5_ := f3_.symm; clear f1_ f2_ f3_; subst f4_; subst f5_))
                  have p302 : 0 ≤ ((ji18) : Int) := of_decide_eq_true (by first | (with_reducible assumption) | assumption)
                  have q302 : (ji18) < (x7_3.length : Int) := of_decide_eq_true (by first | (with_reducible assumption) | assumption)
                  obtain ⟨ad302, e302, hx302_0⟩ := Kd.at_int (Kd.R_reads' HO_7.out).2.2 (ji18) p302 q302
                  cases e302
                  replace p302 := eq_true p302
                  replace q302 := eq_true q302
                  have p303 : 0 ≤ (x9_3 : Int) := of_decide_eq_true (by first | (with_reducible assumption) | assumption)
                  have q303 : x9_3 < (x7_3.length : Int) := of_decide_eq_true (by first | (with_reducible assumption) | assumption)
                  obtain ⟨ad303, e303, hx303_0⟩ := Kd.at_int (Kd.R_reads' HO_7.out).2.2 x9_3 p303 q303
                  obtain rfl : ad302 = ad303 := (by injection e303)
                  replace p303 := eq_true p303
                  replace q303 := eq_true q303
                  refine start_ (n := 14) (S := fun w' => w'.cell? (ad302.add ((ji18)).toNat) = some (.int .i64 (rd x7_3 (ji18))) ∧ w'.cell? (ad302.add (x9_3).toNat) = some (.int .i64 (rd x7_3 x9_3))) (ds := []) #[false, false, false, false, false, false, false, false, false, false, false, false, false, false] (by kernel_rfl) rfl rfl ⟨hx302_0, hx303_0⟩ (fun hHeld => ?_); refine with_tabW spileref39_intact.tab8 spileref39_intact.bits8 (fun HT_ HW_ => ?_)
                  generalize wr.drew = w26 at HO_7 HB hx302_0 hx303_0 hHeld ⊢
                  refine GS.pu 0 (some 45) HT_.out ?_
                  refine GS.pu 1 (some 46) HT_.out ?_
                  refine GS.pu 2 (some 47) HT_.out ?_
                  refine GS.pu 3 (some 48) HT_.out ?_
                  refine GS.pu 4 (some 49) HT_.out ?_
                  refine GS.pu 5 (some 50) HT_.out ?_
                  refine GS.pu 6 (some 51) HT_.out ?_
                  refine GS.pu 8 (some 53) HT_.out ?_
                  refine GS.pu 9 (some 54) HT_.out ?_
                  refine GS.pu 10 (some 55) HT_.out ?_
                  refine GS.tk 7 (some 52) HT_.out HW_.out hHeld ?_
                  refine GS.tk 11 (some 56) HT_.out HW_.out hHeld ?_
                  refine GS.pu 12 (some 57) HT_.out ?_
                  refine GS.pu 13 (some 58) HT_.out ?_
                  refine done_ (done_of HT_.out (by kernel_rfl)) ?_
                  try go_wp2
                  have n0_ := Aside0.mk (Kd.R_drew HO_7.out)
                  have n1_ := Aside0.mk (lqD HB.out)
                  clear HO_7
                  clear HB
                  have HO_7 := n0_
                  have HB := n1_
                  clear n0_ n1_
                  have p304 : 0 ≤ (x9_3 : Int) := of_decide_eq_true (by first | (with_reducible assumption) | assumption)
                  have q304 : x9_3 < (x7_3.length : Int) := of_decide_eq_true (by first | (with_reducible assumption) | assumption)
                  obtain ⟨ad304, e304, hx304_0⟩ := Kd.at_int (Kd.R_reads' HO_7.out).2.2 x9_3 p304 q304
                  obtain rfl : ad302 = ad304 := (by injection e304)
                  replace p304 := eq_true p304
                  replace q304 := eq_true q304
                  have p305 : 0 ≤ ((ji18) : Int) := of_decide_eq_true (by first | (with_reducible assumption) | assumption)
                  have q305 : (ji18) < (x7_3.length : Int) := of_decide_eq_true (by first | (with_reducible assumption) | assumption)
                  obtain ⟨ad305, e305, hx305_0⟩ := Kd.at_int (Kd.R_reads' HO_7.out).2.2 (ji18) p305 q305
                  obtain rfl : ad302 = ad305 := (by injection e305)
                  replace p305 := eq_true p305
                  replace q305 := eq_true q305
                  have p24 : 0 ≤ ((ji18) : Int) := of_decide_eq_true (by first | (with_reducible assumption) | assumption)
                  have q24 : ((ji18) : Int) < ((x7_3.length : Int) : Int) := of_decide_eq_true (by first | (with_reducible assumption) | assumption)
                  obtain ⟨go24, co24, eo24, gb24, gl24, cl24, HG24⟩ := Kd.R_form HO_7.out (by omega)
                  (first | cases eo24 | (injection eo24 with ea_ en_ ec_; (first | subst ea_ | (injection ea_ with ea_; subst ea_)); subst ec_; clear en_))
                  have GB24 := Aside0.mk gb24
                  have GG24 := Aside0.mk HG24
                  clear gb24 gl24 HG24
                  (first | simp only [add_plain] at hx302_0 | skip)
                  (first | simp only [add_plain] at hx303_0 | skip)
                  (first | simp only [add_plain] at hx304_0 | skip)
                  (first | simp only [add_plain] at hx305_0 | skip)
                  obtain ⟨hx24_0, hf24_0⟩ := Kd.R_celln 0 HO_7.out ((ji18) : Int) p24 q24
                  replace p24 := eq_true p24
                  replace q24 := eq_true q24
                  have HP29 := Kd.R_putn HO_7.out ((ji18) : Int) (rd x7_3 x9_3)
                  rw [← Ny306.out] at HP29
                  have HQ29 := Aside0.mk HP29
                  clear HP29
                  have p25 : 0 ≤ (x9_3 : Int) := of_decide_eq_true (by first | (with_reducible assumption) | assumption)
                  have q25 : (x9_3 : Int) < ((x7_3.length : Int) : Int) := of_decide_eq_true (by first | (with_reducible assumption) | assumption)
                  obtain ⟨hx25_0, hf25_0⟩ := Kd.R_celln 0 HQ29.out (x9_3 : Int) p25 q25
                  replace p25 := eq_true p25
                  replace q25 := eq_true q25
                  have HP30 := Kd.R_putn HQ29.out (x9_3 : Int) (rd x7_3 (ji18))
                  rw [← Ny307.out] at HP30
                  have HQ30 := Aside0.mk HP30
                  clear HP30
                  refine start_ (n := 18) (S := fun w' => w'.cell? ⟨go24, (x9_3).toNat, none⟩ = some (.int .i64 (rd x7_3 x9_3)) ∧ w'.cell? ⟨go24, ((ji18)).toNat, none⟩ = some (.int .i64 (rd x7_3 (ji18)))) (ds := [15, 17]) #[false, false, false, false, false, false, false, false, false, false, false, false, false, false, false, false, false, false] (by kernel_rfl) rfl rfl ⟨hx304_0, hx305_0⟩ (fun hHeld => ?_); refine with_tabW spileref39_intact.tab9 spileref39_intact.bits9 (fun HT_ HW_ => ?_)
                  generalize w26.drew = w28 at HO_7 HB GG24 HQ29 HQ30 hf24_0 hf25_0 hx24_0 hx25_0 hx302_0 hx303_0 hx304_0 hx305_0 hHeld ⊢
                  refine GS.pu 0 (some 59) HT_.out ?_
                  refine GS.pu 1 (some 60) HT_.out ?_
                  refine GS.pu 2 (some 61) HT_.out ?_
                  refine GS.pu 3 (some 62) HT_.out ?_
                  refine GS.pu 4 (some 63) HT_.out ?_
                  refine GS.pu 5 (some 64) HT_.out ?_
                  refine GS.pu 6 (some 65) HT_.out ?_
                  refine GS.pu 7 (some 66) HT_.out ?_
                  refine GS.pu 9 (some 68) HT_.out ?_
                  refine GS.pu 10 (some 69) HT_.out ?_
                  refine GS.pu 11 (some 70) HT_.out ?_
                  refine GS.pu 12 (some 71) HT_.out ?_
                  refine GS.tk 8 (some 67) HT_.out HW_.out hHeld ?_
                  refine GS.tk 13 (some 72) HT_.out HW_.out hHeld ?_
                  refine GS.pu 14 (some 73) HT_.out ?_
                  refine last_ (i := 15) (N := none) #[true, true, true, true, true, true, true, true, true, true, true, true, true, true, true, true, false, false] rfl rfl (one_of HT_.out (by kernel_rfl)) (by decide) (fun K hK => ?_)
                  refine skip_ (w1 := ?_) (by rfl) rfl ?_ ?_
                  rotate_left
                  ·go_simp
                   rfl
                  refine hK.out _ _ ?_
                  clear hK K
                  refine GS.pu 16 (some 74) HT_.out ?_
                  refine last_ (i := 17) (N := none) #[true, true, true, true, true, true, true, true, true, true, true, true, true, true, true, true, true, true] rfl rfl (one_of HT_.out (by kernel_rfl)) (by decide) (fun K hK => ?_)
                  refine skip_ (w1 := ?_) (by rfl) rfl ?_ ?_
                  rotate_left
                  ·go_simp
                   rfl
                  refine hK.out _ _ ?_
                  clear hK K
                  refine done_ (done_of HT_.out (by kernel_rfl)) ?_
                  try go_wp2
                  go_roundg k3
                  case measure => have := HK1.out; have := HJ6.out; have := HK3.out; omega
                  case rel => exact ⟨(y307), (ji18), (by first | rfl | (simp; done) | (simp only [← hji18] <;> (first | rfl | simp)) | (simp [*]; done)), H', ⟨by have := HK1.out; have := HJ6.out; have := HK3.out; omega⟩, ⟨by (with_reducible repeat (first | apply Kd.R_alloc | apply Kd.R_drewN | apply Kd.R_drew)); exact HQ30.out⟩, ⟨by repeat (first | (with_reducible first | exact HB.out | apply lqA | apply lqN | apply lqD | refine lqS ?_ GB24.out | refine lqS ?_ GB24.out) | exact HB.out)⟩⟩
                 ·rw [if_neg c23] at H
                  have c23b0 : decide ((rd x7_3 x9_3) < (rd x7_3 (ji18))) = false := decide_eq_false c23
                  clear c23
                  have H' := Aside0.mk H
                  clear H
                  try go_wp2
                  have n0_ := Aside0.mk (Kd.R_drew HO_7.out)
                  have n1_ := Aside0.mk (lqD HB.out)
                  clear HO_7
                  clear HB
                  have HO_7 := n0_
                  have HB := n1_
                  clear n0_ n1_
                  obtain ⟨Ao32, co32, eo32⟩ := Kd.R_slice HO_7.out
                  (first | subst eo32 | (injection eo32 with f1_ f2_ f3_; have f4_ := f1_.symm; have f5_ := f3_.symm; clear f1_ f2_ f3_; subst f4_; subst f5_))
                  have p302 : 0 ≤ ((ji18) : Int) := of_decide_eq_true (by first | (with_reducible assumption) | assumption)
                  have q302 : (ji18) < (x7_3.length : Int) := of_decide_eq_true (by first | (with_reducible assumption) | assumption)
                  obtain ⟨ad302, e302, hx302_0⟩ := Kd.at_int (Kd.R_reads' HO_7.out).2.2 (ji18) p302 q302
                  cases e302
                  replace p302 := eq_true p302
                  replace q302 := eq_true q302
                  have p303 : 0 ≤ (x9_3 : Int) := of_decide_eq_true (by first | (with_reducible assumption) | assumption)
                  have q303 : x9_3 < (x7_3.length : Int) := of_decide_eq_true (by first | (with_reducible assumption) | assumption)
                  obtain ⟨ad303, e303, hx303_0⟩ := Kd.at_int (Kd.R_reads' HO_7.out).2.2 x9_3 p303 q303
                  obtain rfl : ad302 = ad303 := (by injection e303)
                  replace p303 := eq_true p303
                  replace q303 := eq_true q303
                  refine start_ (n := 14) (S := fun w' => w'.cell? (ad302.add ((ji18)).toNat) = some (.int .i64 (rd x7_3 (ji18))) ∧ w'.cell? (ad302.add (x9_3).toNat) = some (.int .i64 (rd x7_3 x9_3))) (ds := []) #[false, false, false, false, false, false, false, false, false, false, false, false, false, false] (by kernel_rfl) rfl rfl ⟨hx302_0, hx303_0⟩ (fun hHeld => ?_); refine with_tabW spileref39_intact.tab8 spileref39_intact.bits8 (fun HT_ HW_ => ?_)
                  generalize wr.drew = w31 at HO_7 HB hx302_0 hx303_0 hHeld ⊢
                  refine GS.pu 0 (some 45) HT_.out ?_
                  refine GS.pu 1 (some 46) HT_.out ?_
                  refine GS.pu 2 (some 47) HT_.out ?_
                  refine GS.pu 3 (some 48) HT_.out ?_
                  refine GS.pu 4 (some 49) HT_.out ?_
                  refine GS.pu 5 (some 50) HT_.out ?_
                  refine GS.pu 6 (some 51) HT_.out ?_
                  refine GS.pu 8 (some 53) HT_.out ?_
                  refine GS.pu 9 (some 54) HT_.out ?_
                  refine GS.pu 10 (some 55) HT_.out ?_
                  refine GS.tk 7 (some 52) HT_.out HW_.out hHeld ?_
                  refine GS.tk 11 (some 56) HT_.out HW_.out hHeld ?_
                  refine GS.pu 12 (some 57) HT_.out ?_
                  refine GS.pu 13 (some 58) HT_.out ?_
                  refine done_ (done_of HT_.out (by kernel_rfl)) ?_
                  try go_wp2
                  go_roundg k3
                  case measure => have := HK1.out; have := HJ6.out; have := HK3.out; omega
                  case rel => exact ⟨(x7_3), (wrap64 (x8_1 + 1)), (by first | rfl | (simp; done) | (simp [*]; done)), H', ⟨by have := HK1.out; have := HJ6.out; have := HK3.out; omega⟩, ⟨by (with_reducible repeat (first | apply Kd.R_alloc | apply Kd.R_drewN | apply Kd.R_drew)); exact HO_7.out⟩, ⟨GS.lB HB.out⟩⟩
                ·rw [if_neg c22] at H
                 exact absurd H (by simp)
               ·rw [if_neg c21] at H
                exact absurd H (by simp)
              ·rw [if_neg c20] at H
               exact absurd H (by simp)
             ·rw [if_neg c19] at H
              exact absurd H (by simp)
            ·rw [if_neg c17] at H
             have c17b0 : decide (0 < x9_3) = false := decide_eq_false c17
             clear c17
             have H' := Aside0.mk H
             clear H
             try go_wp2
             have n0_ := Aside0.mk (Kd.R_drew HO_7.out)
             have n1_ := Aside0.mk (lqD HB.out)
             clear HO_7
             clear HB
             have HO_7 := n0_
             have HB := n1_
             clear n0_ n1_
             refine start_ (n := 14) (S := fun w' => True) (ds := []) #[false, false, false, false, false, false, false, false, false, false, false, false, false, false] (by kernel_rfl) rfl rfl trivial (fun hHeld => ?_); refine with_tabW spileref39_intact.tab8 spileref39_intact.bits8 (fun HT_ HW_ => ?_)
             generalize wr.drew = w33 at HO_7 HB hHeld ⊢
             refine GS.pu 0 (some 45) HT_.out ?_
             refine GS.pu 1 (some 46) HT_.out ?_
             refine GS.pu 2 (some 47) HT_.out ?_
             refine GS.pn 3 (some 48) HT_.out ?_
             refine GS.pn 4 (some 49) HT_.out ?_
             refine GS.pn 5 (some 50) HT_.out ?_
             refine GS.pn 6 (some 51) HT_.out ?_
             refine GS.pn 7 (some 52) HT_.out ?_
             refine GS.pn 8 (some 53) HT_.out ?_
             refine GS.pn 9 (some 54) HT_.out ?_
             refine GS.pn 10 (some 55) HT_.out ?_
             refine GS.pn 11 (some 56) HT_.out ?_
             refine GS.pn 12 (some 57) HT_.out ?_
             refine GS.pu 13 (some 58) HT_.out ?_
             refine done_ (done_of HT_.out (by kernel_rfl)) ?_
             try go_wp2
             go_roundg k3
             case measure => have := HK1.out; have := HJ6.out; have := HK3.out; omega
             case rel => exact ⟨(x7_3), (wrap64 (x8_1 + 1)), (by first | rfl | (simp; done) | (simp [*]; done)), H', ⟨by have := HK1.out; have := HJ6.out; have := HK3.out; omega⟩, ⟨by (with_reducible repeat (first | apply Kd.R_alloc | apply Kd.R_drewN | apply Kd.R_drew)); exact HO_7.out⟩, ⟨GS.lB HB.out⟩⟩
         ·rw [if_neg c14] at H
          exact absurd H (by simp)
        ·rw [if_neg c13] at H
         exact absurd H (by simp)
       ·rw [if_neg c12] at H
        exact absurd H (by simp)
   ·rw [if_neg c6] at H
    have c6b0 : decide (x8_1 < (l0.length : Int)) = false := decide_eq_false c6
    clear c6
    obtain rfl := Option.some.inj H
    go_wp2
    go_ret
    exact ⟨_, by first | rfl | (simp [errW_none, errW_some] <;> rfl) | (simp [*, errW_none, errW_some] <;> rfl), by (with_reducible repeat (first | apply Kd.R_alloc | apply Kd.R_drewN | apply Kd.R_drew)); exact HO_7.out, GS.lB HB.out⟩

end Go.Proofs.Ytfjenooajbdcmaa.K
