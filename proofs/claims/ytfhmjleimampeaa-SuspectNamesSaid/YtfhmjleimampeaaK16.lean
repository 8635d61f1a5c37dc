-- PRINTED by print.py (a twelfth state) out of the translation. Not trusted: Lean checks it.
import Derived.Test.YtfhmjleimampeaaK0
import Derived.Test.YtfhmjleimampeaaGPu
import Derived.Test.YtfhmjleimampeaaGSym
import Derived.Test.YtfhmjleimampeaaGShort
namespace Go.Proofs.Ytfhmjleimampeaa.K
open Go.RowKit Go.Proofs.YtfhmjleimampeaaW.PrintWords Go.Proofs.YtfhmjleimampeaaW.PrintLast Go.Proofs.YtfhmjleimampeaaW.PrintMore
attribute [local go_sem] max2_int min2_int max_two min_two max_three min_three max_four min_four   -- for this text's walks alone
set_option linter.unusedVariables false
set_option linter.unusedSimpArgs false

/-! ### spileref33_total: function 65 -/
def spileref33_total.l0 : Nat → List Int → Int → Int → Option (Int)
 | 0, _, _, _ => none
 | k + 1, x0, x3, x4 => if x4 < (x0.length : Int) then (if 0 ≤ x4 then (spileref33_total.l0 k x0 (wrap64 (x3 + (rd x0 x4))) (wrap64 (x4 + 1))) else (none)) else (some x3)
def spileref33_total.f (k : Nat) (l0 : List Int) : Option (Int) := spileref33_total.l0 k l0 0 0
theorem spileref33_total.mono_l : ∀ k, (∀ y0 y1 y2, LeO (spileref33_total.l0 k y0 y1 y2) (spileref33_total.l0 (k + 1) y0 y1 y2))
 | 0 => fun _ _ _ r h => by simp [spileref33_total.l0] at h
 | k + 1 => by
  have ih0 := spileref33_total.mono_l k
  ·intro y0 y1 y2
   unfold spileref33_total.l0
   repeat' first
   | (with_reducible exact ih0 _ _ _)
   | (with_reducible exact LeO.refl _)
   | (with_reducible exact LeO.none _)
   | (with_reducible refine LeO.ite ?_ ?_)
   | (with_reducible refine LeO.bind ?_ (fun _ => ?_))
   | exact ih0 _ _ _
   | exact LeO.none _
   | refine LeO.ite ?_ ?_
   | refine LeO.bind ?_ (fun _ => ?_)
theorem spileref33_total.mono : ∀ a0 k, LeO (spileref33_total.f k a0) (spileref33_total.f (k + 1) a0) := by
 intro a0 k
 have ih0 := spileref33_total.mono_l k
 unfold spileref33_total.f
 repeat' first
   | (with_reducible exact ih0 _ _ _)
   | (with_reducible exact LeO.refl _)
   | (with_reducible exact LeO.none _)
   | (with_reducible refine LeO.ite ?_ ?_)
   | (with_reducible refine LeO.bind ?_ (fun _ => ?_))
   | exact ih0 _ _ _
   | exact LeO.none _
   | refine LeO.ite ?_ ?_
   | refine LeO.bind ?_ (fun _ => ?_)
set_option maxHeartbeats 8000000 in
set_option maxRecDepth 100000 in
theorem spileref33_total.calls (k : Nat) (A0 : Option Addr) (c0 : Nat) (l0 : List Int) (r : Int) (w : World) (hr0 : Kd.C (Kd.int .i64) w A0 l0.length l0) (hc0 : l0.length ≤ c0) (h : spileref33_total.f k l0 = some r) :
  Calls Try.prog 65 #[.slice A0 l0.length c0] w fun e w' => e = .returned (.int .i64 r) ∧ Drawn0 w w' := by
 have HR0 := Aside0.mk hr0
 have HC0 := Aside0.mk hc0
 clear hr0 hc0
 have H : (spileref33_total.l0 k l0 0 0) = some r := h
 clear h
 have H' := Aside0.mk H
 clear H
 go_enter Try.func65, Try.ntmps65
 go_wp2
 go_loopg [3, 4] k (fun kq v3 v4 w' => ∃ (x3_1 : Int) (x4_1 : Int), v3 = .int .i64 x3_1 ∧ v4 = .int .i64 x4_1 ∧ Aside0 (spileref33_total.l0 kq l0 x3_1 x4_1 = some r) ∧ Aside0 (kq ≤ k) ∧ Drawn0 w w')
 case atStart => exact ⟨(0), (0), (by first | rfl | (simp; done) | (simp [*]; done)), (by first | rfl | (simp; done) | (simp [*]; done)), H', ⟨Nat.le_refl _⟩, by repeat (first | exact Drawn0.refl _ | apply Drawn0.step)⟩
 case round =>
  clear H'
  obtain ⟨x3_1, x4_1, rfl, rfl, HA, HK1, ⟨m1, rfl⟩⟩ := hrel
  cases gk with
  | zero => exact absurd HA.out (by simp [spileref33_total.l0])
  | succ k1 =>
   have H := HA.out
   clear HA
   simp only [spileref33_total.l0] at H
   by_cases c2 : x4_1 < (l0.length : Int)
   ·rw [if_pos c2] at H
    have c2b0 : decide (x4_1 < (l0.length : Int)) = true := decide_eq_true c2
    clear c2
    by_cases c3 : 0 ≤ x4_1
    ·rw [if_pos c3] at H
     have c3b0 : decide (0 ≤ x4_1) = true := decide_eq_true c3
     clear c3
     have H' := Aside0.mk H
     clear H
     have p399 : 0 ≤ (x4_1 : Int) := of_decide_eq_true (by first | (with_reducible assumption) | assumption)
     have q399 : x4_1 < (l0.length : Int) := of_decide_eq_true (by first | (with_reducible assumption) | assumption)
     obtain ⟨ad399, e399, hx399_0⟩ := Kd.at_int HR0.out x4_1 p399 q399
     cases e399
     replace p399 := eq_true p399
     replace q399 := eq_true q399
     go_wp2
     go_roundg k1
     case measure => have := HK1.out; omega
     case rel => exact ⟨(wrap64 (x3_1 + (rd l0 x4_1))), (wrap64 (x4_1 + 1)), (by first | rfl | (simp; done) | (simp [*]; done)), (by first | rfl | (simp; done) | (simp [*]; done)), H', ⟨by have := HK1.out; omega⟩, by repeat (first | exact Drawn0.refl _ | apply Drawn0.step)⟩
    ·rw [if_neg c3] at H
     exact absurd H (by simp)
   ·rw [if_neg c2] at H
    have c2b0 : decide (x4_1 < (l0.length : Int)) = false := decide_eq_false c2
    clear c2
    obtain rfl := Option.some.inj H
    go_wp2
    go_ret
    exact ⟨by first | rfl | (simp; done) | (simp [*]; done), by repeat (first | exact Drawn0.refl _ | apply Drawn0.step)⟩

/-! ### spileref33_ways: function 66 -/
mutual
def spileref33_ways.l0 : Nat → Int → Int → List Int → Int → Option (Int)
 | 0, _, _, _, _ => none
 | k + 1, x0, x1, x5, x6 => if x6 ≤ x0 then (spileref33_ways.l1 k x0 x1 x5 x6 (([1] : List Int)) 1) else (if 0 ≤ x1 then (if x1 < (x5.length : Int) then (some (rd x5 x1)) else (none)) else (none))
def spileref33_ways.l1 : Nat → Int → Int → List Int → Int → List Int → Int → Option (Int)
 | 0, _, _, _, _, _, _ => none
 | k + 1, x0, x1, x5, x6, x7, x8 => if x8 < x6 then (if 0 ≤ (wrap64 (x8 - 1)) then (if (wrap64 (x8 - 1)) < (x5.length : Int) then (if 0 ≤ x8 then (if x8 < (x5.length : Int) then (if x7.length < 17592186044416 then (spileref33_ways.l1 k x0 x1 x5 x6 (x7 ++ [wrap64 ((rd x5 (wrap64 (x8 - 1))) + (rd x5 x8))]) (wrap64 (x8 + 1))) else (none)) else (none)) else (none)) else (none)) else (none)) else (if x7.length < 17592186044416 then (spileref33_ways.l0 k x0 x1 (x7 ++ [1]) (wrap64 (x6 + 1))) else (none))
end
def spileref33_ways.f (k : Nat) (a0 : Int) (a1 : Int) : Option (Int) := spileref33_ways.l0 k a0 a1 (([1] : List Int)) 1
theorem spileref33_ways.mono_l : ∀ k, (∀ y0 y1 y2 y3, LeO (spileref33_ways.l0 k y0 y1 y2 y3) (spileref33_ways.l0 (k + 1) y0 y1 y2 y3)) ∧ (∀ y0 y1 y2 y3 y4 y5, LeO (spileref33_ways.l1 k y0 y1 y2 y3 y4 y5) (spileref33_ways.l1 (k + 1) y0 y1 y2 y3 y4 y5))
 | 0 => ⟨fun _ _ _ _ r h => by simp [spileref33_ways.l0] at h, fun _ _ _ _ _ _ r h => by simp [spileref33_ways.l1] at h⟩
 | k + 1 => by
  obtain ⟨ih0, ih1⟩ := spileref33_ways.mono_l k
  refine ⟨?_, ?_⟩
  ·intro y0 y1 y2 y3
   unfold spileref33_ways.l0
   repeat' first
   | (with_reducible exact ih0 _ _ _ _)
   | (with_reducible exact ih1 _ _ _ _ _ _)
   | (with_reducible exact LeO.refl _)
   | (with_reducible exact LeO.none _)
   | (with_reducible refine LeO.ite ?_ ?_)
   | (with_reducible refine LeO.bind ?_ (fun _ => ?_))
   | exact ih0 _ _ _ _
   | exact ih1 _ _ _ _ _ _
   | exact LeO.none _
   | refine LeO.ite ?_ ?_
   | refine LeO.bind ?_ (fun _ => ?_)
  ·intro y0 y1 y2 y3 y4 y5
   unfold spileref33_ways.l1
   repeat' first
   | (with_reducible exact ih0 _ _ _ _)
   | (with_reducible exact ih1 _ _ _ _ _ _)
   | (with_reducible exact LeO.refl _)
   | (with_reducible exact LeO.none _)
   | (with_reducible refine LeO.ite ?_ ?_)
   | (with_reducible refine LeO.bind ?_ (fun _ => ?_))
   | exact ih0 _ _ _ _
   | exact ih1 _ _ _ _ _ _
   | exact LeO.none _
   | refine LeO.ite ?_ ?_
   | refine LeO.bind ?_ (fun _ => ?_)
theorem spileref33_ways.mono : ∀ a0 a1 k, LeO (spileref33_ways.f k a0 a1) (spileref33_ways.f (k + 1) a0 a1) := by
 intro a0 a1 k
 obtain ⟨ih0, ih1⟩ := spileref33_ways.mono_l k
 unfold spileref33_ways.f
 repeat' first
   | (with_reducible exact ih0 _ _ _ _)
   | (with_reducible exact ih1 _ _ _ _ _ _)
   | (with_reducible exact LeO.refl _)
   | (with_reducible exact LeO.none _)
   | (with_reducible refine LeO.ite ?_ ?_)
   | (with_reducible refine LeO.bind ?_ (fun _ => ?_))
   | exact ih0 _ _ _ _
   | exact ih1 _ _ _ _ _ _
   | exact LeO.none _
   | refine LeO.ite ?_ ?_
   | refine LeO.bind ?_ (fun _ => ?_)
def spileref33_ways.T9 : Bool × List (List Nat × List Nat) := (true, [([], []), ([], []), ([], []), ([2], [2]), ([1, 3], [1, 3]), ([4], [4]), ([], []), ([], []), ([6, 7], [6, 7]), ([8], [8]), ([5, 9], [5, 9]), ([10], [10]), ([0, 11], [0, 11]), ([12, 12, 0, 1, 2, 3, 4, 5, 6, 7, 8, 9, 10, 11, 12], [0, 12])])
def spileref33_ways.B9 : List Nat := [0, 0, 0, 4, 14, 30, 0, 0, 192, 448, 1022, 2046, 4095, 8191]
theorem spileref33_ways.tab9 : rtab .any (opsOf Try.f66 9) = spileref33_ways.T9 := by kernel_rfl
theorem spileref33_ways.bits9 : waitsOk spileref33_ways.T9.2 spileref33_ways.B9 = true := by kernel_rfl
set_option maxHeartbeats 8000000 in
set_option maxRecDepth 100000 in
theorem spileref33_ways.calls (k : Nat) (a0 : Int) (a1 : Int) (r : Int) (w : World) (h : spileref33_ways.f k a0 a1 = some r) :
  Calls Try.prog 66 #[.int .i64 a0, .int .i64 a1] w fun e w' => e = .returned (.int .i64 r) ∧ Below w.heap.size w w' := by
 have HB := Aside0.mk (Below.refl w.heap.size w)
 have H : (spileref33_ways.l0 k a0 a1 (([1] : List Int)) 1) = some r := h
 clear h
 obtain ⟨y400, hy400⟩ : ∃ y_ : List Int, y_ = (([1] : List Int)) := ⟨_, rfl⟩
 replace H : (spileref33_ways.l0 k a0 a1 y400 1) = some r := by first | (rw [hy400]; with_reducible exact H) | (have H2_ := (Option.bind_some _ _).symm.trans H; rw [hy400]; with_reducible exact H2_) | (have H2_ := (Option.bind_some _ _).symm.trans H; with_reducible exact H2_) | with_reducible exact H | (rw [hy400]; exact H) | exact H
 have Ny400 := Aside0.mk hy400
 clear hy400
 have H' := Aside0.mk H
 clear H
 go_enter Try.func66, Try.ntmps66
 go_wp2_with (first | ((with_reducible refine gqD (N := 9) rfl ?_); refine Kd.R_lit (Kd.int .i64) _ 3 ?hg (N := 9) ?hd (xs := ([1] : List Int)) (inner := [.int .i64 1]) (ok := fun _ => True) (okp := fun _ => True) ?hr ?hp (fun _ hk => hk) trivial (Below.refl _ _) (Nat.le_refl _) (by simp) ?_; (case hd => rfl); (case hg => rfl); (case hr => first | (go_simp; done) | (go_simp; rfl)); (case hp => exact (Reps.one (show Kd.M (Kd.int .i64) _ _ _ 1 [.int .i64 1] from rfl) (Reps.none _ _))); intro v401 w3 ho4 hb hg_ hnew_; clear hg_ hnew_; (first | rw [← Ny400.out] at ho4 | (simp only [Int.reduceToNat] at ho4; rw [← Ny400.out] at ho4)); have n0_ := Aside0.mk (Kd.R_lower ho4 (lqZ (GS.lB HB.out))); have n1_ := Aside0.mk (lqT (GS.lB HB.out) hb); clear HB; have HO402 := n0_; have HB := n1_; clear n0_ n1_; clear hb ho4))
 go_loopg [5, 6] k (fun kq v5 v6 w' => ∃ (x5_1 : List Int) (x6_1 : Int), v6 = .int .i64 x6_1 ∧ Aside0 (spileref33_ways.l0 kq a0 a1 x5_1 x6_1 = some r) ∧ Aside0 (kq ≤ k) ∧ Aside0 (Kd.R (Kd.int .i64) 3 w' w.heap.size (fun _ => True) v5 x5_1) ∧ Aside0 (Below w.heap.size w w'))
 case atStart => exact ⟨(y400), (1), (by first | rfl | (simp; done) | (simp [*]; done)), H', ⟨Nat.le_refl _⟩, ⟨by (with_reducible repeat (first | apply Kd.R_alloc | apply Kd.R_drewN | apply Kd.R_drew)); exact HO402.out⟩, ⟨GS.lB HB.out⟩⟩
 case round =>
  clear H'
  try clear p2
  obtain ⟨x5_1, x6_1, rfl, HA, HK1, HO_5, HB⟩ := hrel
  cases gk with
  | zero => exact absurd HA.out (by simp [spileref33_ways.l0])
  | succ k1 =>
   have H := HA.out
   clear HA
   simp only [spileref33_ways.l0] at H
   by_cases c5 : x6_1 ≤ a0
   ·rw [if_pos c5] at H
    have c5b0 : decide (x6_1 ≤ a0) = true := decide_eq_true c5
    clear c5
    obtain ⟨y404, hy404⟩ : ∃ y_ : List Int, y_ = (([1] : List Int)) := ⟨_, rfl⟩
    replace H : (spileref33_ways.l1 k1 a0 a1 x5_1 x6_1 y404 1) = some r := by first | (rw [hy404]; with_reducible exact H) | (have H2_ := (Option.bind_some _ _).symm.trans H; rw [hy404]; with_reducible exact H2_) | (have H2_ := (Option.bind_some _ _).symm.trans H; with_reducible exact H2_) | with_reducible exact H | (rw [hy404]; exact H) | exact H
    have Ny404 := Aside0.mk hy404
    clear hy404
    have H' := Aside0.mk H
    clear H
    go_wp2_with (first | ((with_reducible refine gqD (N := 15) rfl ?_); refine Kd.R_lit (Kd.int .i64) _ 3 ?hg (N := 15) ?hd (xs := ([1] : List Int)) (inner := [.int .i64 1]) (ok := fun _ => True) (okp := fun _ => True) ?hr ?hp (fun _ hk => hk) trivial (Below.refl _ _) (Nat.le_refl _) (by simp) ?_; (case hd => rfl); (case hg => rfl); (case hr => first | (go_simp; done) | (go_simp; rfl)); (case hp => exact (Reps.one (show Kd.M (Kd.int .i64) _ _ _ 1 [.int .i64 1] from rfl) (Reps.none _ _))); intro v405 w6 ho7 hb hg_ hnew_; clear hg_ hnew_; (first | rw [← Ny404.out] at ho7 | (simp only [Int.reduceToNat] at ho7; rw [← Ny404.out] at ho7)); have n0_ := Aside0.mk (Kd.R_elder' (GS.rR HO_5.out) (Kd.R_base ho7) hb); have n1_ := Aside0.mk (Kd.R_lower (Kd.R_new' ho7 (Kd.R_lt (GS.rR HO_5.out))) (lqZ (GS.lB HB.out))); have n2_ := Aside0.mk (lqT (GS.lB HB.out) hb); clear HO_5; clear HB; have HO_5 := n0_; have HO406 := n1_; have HB := n2_; clear n0_ n1_ n2_; clear hb ho7))
    go_loopg [7, 8] k1 (fun kq v7 v8 w' => ∃ (x7_2 : List Int) (x8_2 : Int), v8 = .int .i64 x8_2 ∧ Aside0 (spileref33_ways.l1 kq a0 a1 x5_1 x6_1 x7_2 x8_2 = some r) ∧ Aside0 (kq ≤ k1) ∧ Aside0 (Kd.R (Kd.int .i64) 3 w' w.heap.size (fun k_ => some k_ ≠ (v7 : Value).ownBlock) u5 x5_1) ∧ Aside0 (Kd.R (Kd.int .i64) 3 w' w.heap.size (fun k_ => some k_ ≠ (u5 : Value).ownBlock) v7 x7_2) ∧ Aside0 (Below w.heap.size w w'))
    case atStart => exact ⟨(y404), (1), (by first | rfl | (simp; done) | (simp [*]; done)), H', ⟨Nat.le_refl _⟩, ⟨by (with_reducible repeat (first | apply Kd.R_alloc | apply Kd.R_drewN | apply Kd.R_drew)); exact Kd.R_mono HO_5.out (fun _ hk => GS.cj hk)⟩, ⟨by (with_reducible repeat (first | apply Kd.R_alloc | apply Kd.R_drewN | apply Kd.R_drew)); exact Kd.R_mono HO406.out (fun _ hk => GS.cj hk)⟩, ⟨GS.lB HB.out⟩⟩
    case round =>
     clear H'
     try clear p2
     try clear c5
     try clear c5b0
     try clear c6
     try clear p2
     obtain ⟨x7_2, x8_2, rfl, HA, HK2, HO_5, HO_7, HB⟩ := hrel
     cases gk with
     | zero => exact absurd HA.out (by simp [spileref33_ways.l1])
     | succ k2 =>
      have H := HA.out
      clear HA
      simp only [spileref33_ways.l1] at H
      by_cases c8 : x8_2 < x6_1
      ·rw [if_pos c8] at H
       have c8b0 : decide (x8_2 < x6_1) = true := decide_eq_true c8
       clear c8
       obtain ⟨ji9, hji9⟩ : ∃ j_ : Int, (wrap64 (x8_2 - 1)) = j_ := ⟨_, rfl⟩
       replace H : (if 0 ≤ (ji9) then (if (ji9) < (x5_1.length : Int) then (if 0 ≤ x8_2 then (if x8_2 < (x5_1.length : Int) then (if x7_2.length < 17592186044416 then (spileref33_ways.l1 k2 a0 a1 x5_1 x6_1 (x7_2 ++ [wrap64 ((rd x5_1 (ji9)) + (rd x5_1 x8_2))]) (wrap64 (x8_2 + 1))) else (none)) else (none)) else (none)) else (none)) else (none)) = some r := by first | (rw [hji9] at H; exact H) | (simp only [hji9] at H ⊢; exact H)
       have hji9w : (IntKind.i64.wrap (x8_2 - 1)) = ji9 := (i64_w _).trans hji9
       by_cases c10 : 0 ≤ (ji9)
       ·rw [if_pos c10] at H
        have c10b0 : decide (0 ≤ (ji9)) = true := decide_eq_true c10
        clear c10
        by_cases c11 : (ji9) < (x5_1.length : Int)
        ·rw [if_pos c11] at H
         have c11b0 : decide ((ji9) < (x5_1.length : Int)) = true := decide_eq_true c11
         clear c11
         by_cases c12 : 0 ≤ x8_2
         ·rw [if_pos c12] at H
          have c12b0 : decide (0 ≤ x8_2) = true := decide_eq_true c12
          clear c12
          by_cases c13 : x8_2 < (x5_1.length : Int)
          ·rw [if_pos c13] at H
           have c13b0 : decide (x8_2 < (x5_1.length : Int)) = true := decide_eq_true c13
           clear c13
           by_cases c14 : x7_2.length < 17592186044416
           ·rw [if_pos c14] at H
            have LMc14 := Aside0.mk c14
            clear c14
            obtain ⟨y409, hy409⟩ : ∃ y_ : List Int, y_ = (x7_2 ++ [wrap64 ((rd x5_1 (ji9)) + (rd x5_1 x8_2))]) := ⟨_, rfl⟩
            replace H : (spileref33_ways.l1 k2 a0 a1 x5_1 x6_1 y409 (wrap64 (x8_2 + 1))) = some r := by first | (rw [hy409]; with_reducible exact H) | (have H2_ := (Option.bind_some _ _).symm.trans H; rw [hy409]; with_reducible exact H2_) | (have H2_ := (Option.bind_some _ _).symm.trans H; with_reducible exact H2_) | with_reducible exact H | (rw [hy409]; exact H) | exact H
            have Ny409 := Aside0.mk hy409
            clear hy409
            have H' := Aside0.mk H
            clear H
            try go_wp2
            have n0_ := Aside0.mk (Kd.R_drew HO_5.out)
            have n1_ := Aside0.mk (Kd.R_drew HO_7.out)
            have n2_ := Aside0.mk (lqD HB.out)
            clear HO_5
            clear HO_7
            clear HB
            have HO_5 := n0_
            have HO_7 := n1_
            have HB := n2_
            clear n0_ n1_ n2_
            obtain ⟨Ao16, co16, eo16⟩ := Kd.R_slice HO_5.out
            (first | subst eo16 | (injection eo16 with f1_ f2_ f3_; have f4_ := f1_.symm; have f5_ := f3_.symm; clear f1_ f2_ f3_; subst f4_; subst f5_))
            have p407 : 0 ≤ ((ji9) : Int) := of_decide_eq_true (by first | (with_reducible assumption) | assumption)
            have q407 : (ji9) < (x5_1.length : Int) := of_decide_eq_true (by first | (with_reducible assumption) | assumption)
            obtain ⟨ad407, e407, hx407_0⟩ := Kd.at_int (Kd.R_reads' HO_5.out).2.2 (ji9) p407 q407
            cases e407
            replace p407 := eq_true p407
            replace q407 := eq_true q407
            have p408 : 0 ≤ (x8_2 : Int) := of_decide_eq_true (by first | (with_reducible assumption) | assumption)
            have q408 : x8_2 < (x5_1.length : Int) := of_decide_eq_true (by first | (with_reducible assumption) | assumption)
            obtain ⟨ad408, e408, hx408_0⟩ := Kd.at_int (Kd.R_reads' HO_5.out).2.2 x8_2 p408 q408
            obtain rfl : ad407 = ad408 := (by injection e408)
            replace p408 := eq_true p408
            replace q408 := eq_true q408
            refine start_ (n := 14) (S := fun w' => w'.cell? (ad407.add ((ji9)).toNat) = some (.int .i64 (rd x5_1 (ji9))) ∧ w'.cell? (ad407.add (x8_2).toNat) = some (.int .i64 (rd x5_1 x8_2))) (ds := [11, 12]) #[false, false, false, false, false, false, false, false, false, false, false, false, false, false] (by kernel_rfl) rfl rfl ⟨hx407_0, hx408_0⟩ (fun hHeld => ?_); refine with_tabW spileref33_ways.tab9 spileref33_ways.bits9 (fun HT_ HW_ => ?_)
            generalize wr.drew = w15 at HO_5 HO_7 HB hx407_0 hx408_0 hHeld ⊢
            refine GS.pu 0 (some 21) HT_.out ?_
            refine GS.pu 1 (some 22) HT_.out ?_
            refine GS.pu 2 (some 23) HT_.out ?_
            refine GS.pu 3 (some 24) HT_.out ?_
            refine GS.pu 4 (some 25) HT_.out ?_
            refine GS.pu 6 (some 27) HT_.out ?_
            refine GS.pu 7 (some 28) HT_.out ?_
            refine GS.pu 8 (some 29) HT_.out ?_
            refine GS.tk 5 (some 26) HT_.out HW_.out hHeld ?_
            refine GS.tk 9 (some 30) HT_.out HW_.out hHeld ?_
            refine GS.pu 10 (some 31) HT_.out ?_
            refine last_ (i := 11) (N := some 32) #[true, true, true, true, true, true, true, true, true, true, true, true, false, false] rfl rfl (one_of HT_.out (by kernel_rfl)) (by decide) (fun K hK => ?_)
            refine value_ (w1 := ?_) (v := ?_) (by rfl) rfl ?_ ?_
            rotate_left 2
            ·go_simp
             constructor
             ·rfl
             ·rfl
            refine hK.out _ _ ?_
            clear hK K
            refine norm_ (a' := ?_) ?_ ?_
            rotate_left
            ·show Act.put _ (some 32) _ = _
             simp only [Act.put, List.setIfInBounds_toArray, List.set_cons_zero, List.set_cons_succ, i64_w, i32_w]
             rfl
            refine last_ (i := 12) (N := some 33) #[true, true, true, true, true, true, true, true, true, true, true, true, true, false] rfl rfl (one_of HT_.out (by kernel_rfl)) (by decide) (fun K hK => ?_)
            refine Kd.R_append_step (Kd.int .i64) (w0 := w) w.heap.size (by rfl) (.tmp 21) (.tmp 32) 31 3 (.int .i64 0) 8 rfl Try.underlying31 info3 rfl (by decide) (by omega) u7 x7_2 (wrap64 ((rd x5_1 (ji9)) + (rd x5_1 x8_2))) [.int .i64 (wrap64 ((rd x5_1 (ji9)) + (rd x5_1 x8_2)))] (fun k_ => some k_ ≠ (.slice (some ad407) x5_1.length co16 : Value).ownBlock) (fun _ => False) rfl rfl ?aP (fun _ hk => hk.elim) ?aF ?aO ?aB ?aS ?aL ?_
            (case aP => exact rfl)
            (case aB => exact (GS.lB HB.out))
            (case aF => exact (fun k_ hk => Kd.fresh' (Kd.R_lt (GS.rR HO_5.out)) k_ hk))
            (case aO => exact (GS.rR HO_7.out))
            (case aS => exact (lqZ (GS.lB HB.out)))
            (case aL => have := LMc14.out; omega)
            intro v410 w17 ho hb hg hat
            rw [← Ny409.out] at ho
            have n0_ := Aside0.mk (Kd.R_after (ok := (fun _ => True)) (GS.rR (Kd.R_mono HO_5.out (fun _ hk => GS.cj hk))) hg hat)
            have n1_ := Aside0.mk (hb)
            have n2_ := Aside0.mk (ho)
            clear HO_5
            clear HB
            clear HO_7
            have HO_5 := n0_
            have HB := n1_
            have HO411 := n2_
            clear n0_ n1_ n2_
            clear ho hb hg hat
            refine hK.out _ _ ?_
            clear hK K
            refine norm_ (a' := ?_) ?_ ?_
            rotate_left
            ·show Act.put _ (some 33) _ = _
             simp only [Act.put, List.setIfInBounds_toArray, List.set_cons_zero, List.set_cons_succ, i64_w, i32_w]
             rfl
            refine GS.pu 13 (some 7) HT_.out ?_
            refine done_ (done_of HT_.out (by kernel_rfl)) ?_
            try go_wp2
            go_roundg k2
            case measure => have := HK1.out; have := HK2.out; omega
            case rel => exact ⟨(y409), (wrap64 (x8_2 + 1)), (by first | rfl | (simp; done) | (simp [*]; done)), H', ⟨by have := HK1.out; have := HK2.out; omega⟩, ⟨by (with_reducible repeat (first | apply Kd.R_alloc | apply Kd.R_drewN | apply Kd.R_drew)); exact Kd.R_mono HO_5.out (fun _ hk => GS.cj hk)⟩, ⟨by (with_reducible repeat (first | apply Kd.R_alloc | apply Kd.R_drewN | apply Kd.R_drew)); exact HO411.out⟩, ⟨GS.lB HB.out⟩⟩
           ·rw [if_neg c14] at H
            exact absurd H (by simp)
          ·rw [if_neg c13] at H
           exact absurd H (by simp)
         ·rw [if_neg c12] at H
          exact absurd H (by simp)
        ·rw [if_neg c11] at H
         exact absurd H (by simp)
       ·rw [if_neg c10] at H
        exact absurd H (by simp)
      ·rw [if_neg c8] at H
       have c8b0 : decide (x8_2 < x6_1) = false := decide_eq_false c8
       clear c8
       by_cases c18 : x7_2.length < 17592186044416
       ·rw [if_pos c18] at H
        have LMc18 := Aside0.mk c18
        clear c18
        obtain ⟨y412, hy412⟩ : ∃ y_ : List Int, y_ = (x7_2 ++ [1]) := ⟨_, rfl⟩
        replace H : (spileref33_ways.l0 k2 a0 a1 y412 (wrap64 (x6_1 + 1))) = some r := by first | (rw [hy412]; with_reducible exact H) | (have H2_ := (Option.bind_some _ _).symm.trans H; rw [hy412]; with_reducible exact H2_) | (have H2_ := (Option.bind_some _ _).symm.trans H; with_reducible exact H2_) | with_reducible exact H | (rw [hy412]; exact H) | exact H
        have Ny412 := Aside0.mk hy412
        clear hy412
        have H' := Aside0.mk H
        clear H
        go_wp2_with (first | ((with_reducible refine gate_builtin (b := .append) (xs := #[.tmp 34, .tmp 35]) rfl ?_); at_builtin; refine Kd.R_append (Kd.int .i64) (w0 := w) w.heap.size rfl (.tmp 34) (.tmp 35) 31 3 (.int .i64 0) 8 rfl Try.underlying31 info3 rfl (by decide) (by omega) u7 x7_2 1 [.int .i64 1] (fun k_ => some k_ ≠ (u5 : Value).ownBlock) (fun _ => False) rfl rfl ?aP (fun _ hk => hk.elim) ?aF ?aO ?aB ?aS ?aL ?_; (case aP => exact rfl); (case aB => exact (GS.lB HB.out)); (case aF => exact (fun k_ hk => Kd.fresh' (Kd.R_lt (GS.rR HO_5.out)) k_ hk)); (case aO => exact (GS.rR HO_7.out)); (case aS => exact (lqZ (GS.lB HB.out))); (case aL => have := LMc18.out; omega); intro v413 w19 ho hb hg hat; rw [← Ny412.out] at ho; have n0_ := Aside0.mk (Kd.R_after (ok := (fun _ => True)) (GS.rR (Kd.R_mono HO_5.out (fun _ hk => GS.cj hk))) hg hat); have n1_ := Aside0.mk (hb); have n2_ := Aside0.mk (ho); clear HO_5; clear HB; clear HO_7; have HO_5 := n0_; have HB := n1_; have HO414 := n2_; clear n0_ n1_ n2_; clear ho hb hg hat))
        go_roundg k2
        case measure => have := HK1.out; have := HK2.out; omega
        case rel => exact ⟨(y412), (wrap64 (x6_1 + 1)), (by first | rfl | (simp; done) | (simp [*]; done)), H', ⟨by have := HK1.out; have := HK2.out; omega⟩, ⟨by (with_reducible repeat (first | apply Kd.R_alloc | apply Kd.R_drewN | apply Kd.R_drew)); exact Kd.R_mono HO414.out (fun _ hk => trivial)⟩, ⟨GS.lB HB.out⟩⟩
       ·rw [if_neg c18] at H
        exact absurd H (by simp)
   ·rw [if_neg c5] at H
    have c5b0 : decide (x6_1 ≤ a0) = false := decide_eq_false c5
    clear c5
    by_cases c20 : 0 ≤ a1
    ·rw [if_pos c20] at H
     have c20b0 : decide (0 ≤ a1) = true := decide_eq_true c20
     clear c20
     by_cases c21 : a1 < (x5_1.length : Int)
     ·rw [if_pos c21] at H
      have c21b0 : decide (a1 < (x5_1.length : Int)) = true := decide_eq_true c21
      clear c21
      obtain rfl := Option.some.inj H
      obtain ⟨Ao22, co22, eo22⟩ := Kd.R_slice HO_5.out
      subst eo22
      have p403 : 0 ≤ (a1 : Int) := of_decide_eq_true (by first | (with_reducible assumption) | assumption)
      have q403 : a1 < (x5_1.length : Int) := of_decide_eq_true (by first | (with_reducible assumption) | assumption)
      obtain ⟨ad403, e403, hx403_0⟩ := Kd.at_int (Kd.R_reads' HO_5.out).2.2 a1 p403 q403
      cases e403
      replace p403 := eq_true p403
      replace q403 := eq_true q403
      go_wp2
      go_ret
      exact ⟨by first | rfl | (simp [errW_none, errW_some] <;> rfl) | (simp [*, errW_none, errW_some] <;> rfl), GS.lB HB.out⟩
     ·rw [if_neg c21] at H
      exact absurd H (by simp)
    ·rw [if_neg c20] at H
     exact absurd H (by simp)

end Go.Proofs.Ytfhmjleimampeaa.K
