-- PRINTED by print.py (a twelfth state) out of the translation. Not trusted: Lean checks it.
import Derived.Test.YtfhmjleimampeaaK0
import Derived.Test.YtfhmjleimampeaaGSym
import Derived.Test.YtfhmjleimampeaaGShort
namespace Go.Proofs.Ytfhmjleimampeaa.K
open Go.RowKit Go.Proofs.YtfhmjleimampeaaW.PrintWords Go.Proofs.YtfhmjleimampeaaW.PrintLast Go.Proofs.YtfhmjleimampeaaW.PrintMore
attribute [local go_sem] max2_int min2_int max_two min_two max_three min_three max_four min_four   -- for this text's walks alone
set_option linter.unusedVariables false
set_option linter.unusedSimpArgs false

/-! ### rank_Orders: function 48 -/
mutual
def rank_Orders.j0 : Nat → Int → Int → Bool → Option (Int × Int)
 | 0, _, _, _ => none
 | k + 1, x0, x1, x33 => if x33 = true then (some (0, 2)) else (rank_Orders.l0 k x0 x1 (([1] : List Int)) 1)
def rank_Orders.l0 : Nat → Int → Int → List Int → Int → Option (Int × Int)
 | 0, _, _, _, _ => none
 | k + 1, x0, x1, x6, x7 => if x7 < x0 then (if 0 ≤ (wrap64 ((x6.length : Int) + x7)) then (if (wrap64 ((x6.length : Int) + x7) : Int).toNat ≤ 35184372088832 then (rank_Orders.l1 k x0 x1 x7 (List.replicate (wrap64 ((x6.length : Int) + x7) : Int).toNat 0) x6 (x6.length : Int) 0) else (none)) else (none)) else (if 0 ≤ x1 then (if x1 ≤ (x6.length : Int) then ((some (x6.drop (x1 : Int).toNat : List Int)).bind fun y139 => (rank_Orders.l3 k 0 y139 (y139.length : Int) 0)) else (none)) else (none))
def rank_Orders.l1 : Nat → Int → Int → Int → List Int → List Int → Int → Int → Option (Int × Int)
 | 0, _, _, _, _, _, _, _ => none
 | k + 1, x0, x1, x7, x8, x45, x46, x47 => if x47 < x46 then (if 0 ≤ x47 then (if x47 < (x45.length : Int) then (rank_Orders.l2 k x0 x1 x7 x8 x47 (rd x45 x47) x45 x46 x47 (wrap64 (x7 + 1)) 0) else (none)) else (none)) else (rank_Orders.l0 k x0 x1 x8 (wrap64 (x7 + 1)))
def rank_Orders.l2 : Nat → Int → Int → Int → List Int → Int → Int → List Int → Int → Int → Int → Int → Option (Int × Int)
 | 0, _, _, _, _, _, _, _, _, _, _, _ => none
 | k + 1, x0, x1, x7, x8, x9, x10, x45, x46, x47, x53, x54 => if x54 < x53 then (if 0 ≤ (wrap64 (x9 + x54)) then (if (wrap64 (x9 + x54)) < (x8.length : Int) then (rank_Orders.l2 k x0 x1 x7 (x8.set ((wrap64 (x9 + x54)) : Int).toNat (wrap64 ((rd x8 (wrap64 (x9 + x54))) + x10))) x9 x10 x45 x46 x47 x53 (wrap64 (x54 + 1))) else (none)) else (none)) else (rank_Orders.l1 k x0 x1 x7 x8 x45 x46 (wrap64 (x47 + 1)))
def rank_Orders.l3 : Nat → Int → List Int → Int → Int → Option (Int × Int)
 | 0, _, _, _, _ => none
 | k + 1, x12, x71, x72, x73 => if x73 < x72 then (if 0 ≤ x73 then (if x73 < (x71.length : Int) then (rank_Orders.l3 k (wrap64 (x12 + (rd x71 x73))) x71 x72 (wrap64 (x73 + 1))) else (none)) else (none)) else (some (x12, 0))
end
def rank_Orders.f (k : Nat) (a0 : Int) (a1 : Int) : Option (Int × Int) := if a0 < 1 then (rank_Orders.j0 k a0 a1 true) else (if a0 > 20 then (rank_Orders.j0 k a0 a1 true) else (if a1 < 0 then (rank_Orders.j0 k a0 a1 true) else (rank_Orders.j0 k a0 a1 (decide (a1 > (wrap64 (Int.tdiv (wrap64 (a0 * (wrap64 (a0 - 1)))) 2)))))))
theorem rank_Orders.mono_l : ∀ k, (∀ y0 y1 y2, LeO (rank_Orders.j0 k y0 y1 y2) (rank_Orders.j0 (k + 1) y0 y1 y2)) ∧ (∀ y0 y1 y2 y3, LeO (rank_Orders.l0 k y0 y1 y2 y3) (rank_Orders.l0 (k + 1) y0 y1 y2 y3)) ∧ (∀ y0 y1 y2 y3 y4 y5 y6, LeO (rank_Orders.l1 k y0 y1 y2 y3 y4 y5 y6) (rank_Orders.l1 (k + 1) y0 y1 y2 y3 y4 y5 y6)) ∧ (∀ y0 y1 y2 y3 y4 y5 y6 y7 y8 y9 y10, LeO (rank_Orders.l2 k y0 y1 y2 y3 y4 y5 y6 y7 y8 y9 y10) (rank_Orders.l2 (k + 1) y0 y1 y2 y3 y4 y5 y6 y7 y8 y9 y10)) ∧ (∀ y0 y1 y2 y3, LeO (rank_Orders.l3 k y0 y1 y2 y3) (rank_Orders.l3 (k + 1) y0 y1 y2 y3))
 | 0 => ⟨fun _ _ _ r h => by simp [rank_Orders.j0] at h, fun _ _ _ _ r h => by simp [rank_Orders.l0] at h, fun _ _ _ _ _ _ _ r h => by simp [rank_Orders.l1] at h, fun _ _ _ _ _ _ _ _ _ _ _ r h => by simp [rank_Orders.l2] at h, fun _ _ _ _ r h => by simp [rank_Orders.l3] at h⟩
 | k + 1 => by
  obtain ⟨ih0, ih1, ih2, ih3, ih4⟩ := rank_Orders.mono_l k
  refine ⟨?_, ?_, ?_, ?_, ?_⟩
  ·intro y0 y1 y2
   unfold rank_Orders.j0
   repeat' first
   | (with_reducible exact ih0 _ _ _)
   | (with_reducible exact ih1 _ _ _ _)
   | (with_reducible exact ih2 _ _ _ _ _ _ _)
   | (with_reducible exact ih3 _ _ _ _ _ _ _ _ _ _ _)
   | (with_reducible exact ih4 _ _ _ _)
   | (with_reducible exact LeO.refl _)
   | (with_reducible exact LeO.none _)
   | (with_reducible refine LeO.ite ?_ ?_)
   | (with_reducible refine LeO.bind ?_ (fun _ => ?_))
   | exact ih0 _ _ _
   | exact ih1 _ _ _ _
   | exact ih2 _ _ _ _ _ _ _
   | exact ih3 _ _ _ _ _ _ _ _ _ _ _
   | exact ih4 _ _ _ _
   | exact LeO.none _
   | refine LeO.ite ?_ ?_
   | refine LeO.bind ?_ (fun _ => ?_)
  ·intro y0 y1 y2 y3
   unfold rank_Orders.l0
   repeat' first
   | (with_reducible exact ih0 _ _ _)
   | (with_reducible exact ih1 _ _ _ _)
   | (with_reducible exact ih2 _ _ _ _ _ _ _)
   | (with_reducible exact ih3 _ _ _ _ _ _ _ _ _ _ _)
   | (with_reducible exact ih4 _ _ _ _)
   | (with_reducible exact LeO.refl _)
   | (with_reducible exact LeO.none _)
   | (with_reducible refine LeO.ite ?_ ?_)
   | (with_reducible refine LeO.bind ?_ (fun _ => ?_))
   | exact ih0 _ _ _
   | exact ih1 _ _ _ _
   | exact ih2 _ _ _ _ _ _ _
   | exact ih3 _ _ _ _ _ _ _ _ _ _ _
   | exact ih4 _ _ _ _
   | exact LeO.none _
   | refine LeO.ite ?_ ?_
   | refine LeO.bind ?_ (fun _ => ?_)
  ·intro y0 y1 y2 y3 y4 y5 y6
   unfold rank_Orders.l1
   repeat' first
   | (with_reducible exact ih0 _ _ _)
   | (with_reducible exact ih1 _ _ _ _)
   | (with_reducible exact ih2 _ _ _ _ _ _ _)
   | (with_reducible exact ih3 _ _ _ _ _ _ _ _ _ _ _)
   | (with_reducible exact ih4 _ _ _ _)
   | (with_reducible exact LeO.refl _)
   | (with_reducible exact LeO.none _)
   | (with_reducible refine LeO.ite ?_ ?_)
   | (with_reducible refine LeO.bind ?_ (fun _ => ?_))
   | exact ih0 _ _ _
   | exact ih1 _ _ _ _
   | exact ih2 _ _ _ _ _ _ _
   | exact ih3 _ _ _ _ _ _ _ _ _ _ _
   | exact ih4 _ _ _ _
   | exact LeO.none _
   | refine LeO.ite ?_ ?_
   | refine LeO.bind ?_ (fun _ => ?_)
  ·intro y0 y1 y2 y3 y4 y5 y6 y7 y8 y9 y10
   unfold rank_Orders.l2
   repeat' first
   | (with_reducible exact ih0 _ _ _)
   | (with_reducible exact ih1 _ _ _ _)
   | (with_reducible exact ih2 _ _ _ _ _ _ _)
   | (with_reducible exact ih3 _ _ _ _ _ _ _ _ _ _ _)
   | (with_reducible exact ih4 _ _ _ _)
   | (with_reducible exact LeO.refl _)
   | (with_reducible exact LeO.none _)
   | (with_reducible refine LeO.ite ?_ ?_)
   | (with_reducible refine LeO.bind ?_ (fun _ => ?_))
   | exact ih0 _ _ _
   | exact ih1 _ _ _ _
   | exact ih2 _ _ _ _ _ _ _
   | exact ih3 _ _ _ _ _ _ _ _ _ _ _
   | exact ih4 _ _ _ _
   | exact LeO.none _
   | refine LeO.ite ?_ ?_
   | refine LeO.bind ?_ (fun _ => ?_)
  ·intro y0 y1 y2 y3
   unfold rank_Orders.l3
   repeat' first
   | (with_reducible exact ih0 _ _ _)
   | (with_reducible exact ih1 _ _ _ _)
   | (with_reducible exact ih2 _ _ _ _ _ _ _)
   | (with_reducible exact ih3 _ _ _ _ _ _ _ _ _ _ _)
   | (with_reducible exact ih4 _ _ _ _)
   | (with_reducible exact LeO.refl _)
   | (with_reducible exact LeO.none _)
   | (with_reducible refine LeO.ite ?_ ?_)
   | (with_reducible refine LeO.bind ?_ (fun _ => ?_))
   | exact ih0 _ _ _
   | exact ih1 _ _ _ _
   | exact ih2 _ _ _ _ _ _ _
   | exact ih3 _ _ _ _ _ _ _ _ _ _ _
   | exact ih4 _ _ _ _
   | exact LeO.none _
   | refine LeO.ite ?_ ?_
   | refine LeO.bind ?_ (fun _ => ?_)
theorem rank_Orders.mono : ∀ a0 a1 k, LeO (rank_Orders.f k a0 a1) (rank_Orders.f (k + 1) a0 a1) := by
 intro a0 a1 k
 obtain ⟨ih0, ih1, ih2, ih3, ih4⟩ := rank_Orders.mono_l k
 unfold rank_Orders.f
 repeat' first
   | (with_reducible exact ih0 _ _ _)
   | (with_reducible exact ih1 _ _ _ _)
   | (with_reducible exact ih2 _ _ _ _ _ _ _)
   | (with_reducible exact ih3 _ _ _ _ _ _ _ _ _ _ _)
   | (with_reducible exact ih4 _ _ _ _)
   | (with_reducible exact LeO.refl _)
   | (with_reducible exact LeO.none _)
   | (with_reducible refine LeO.ite ?_ ?_)
   | (with_reducible refine LeO.bind ?_ (fun _ => ?_))
   | exact ih0 _ _ _
   | exact ih1 _ _ _ _
   | exact ih2 _ _ _ _ _ _ _
   | exact ih3 _ _ _ _ _ _ _ _ _ _ _
   | exact ih4 _ _ _ _
   | exact LeO.none _
   | refine LeO.ite ?_ ?_
   | refine LeO.bind ?_ (fun _ => ?_)
set_option maxHeartbeats 8000000 in
set_option maxRecDepth 100000 in
theorem rank_Orders.calls (k : Nat) (a0 : Int) (a1 : Int) (r1 : Int) (r2 : Int) (w : World) (h : rank_Orders.f k a0 a1 = some (r1, r2)) :
  Calls Try.prog 48 #[.int .i64 a0, .int .i64 a1] w fun e w' => e = .returned (.tuple #[.int .i64 r1, .int .i64 r2]) ∧ Below w.heap.size w w' := by
 have HB := Aside0.mk (Below.refl w.heap.size w)
 have H : (if a0 < 1 then (rank_Orders.j0 k a0 a1 true) else (if a0 > 20 then (rank_Orders.j0 k a0 a1 true) else (if a1 < 0 then (rank_Orders.j0 k a0 a1 true) else (rank_Orders.j0 k a0 a1 (decide (a1 > (wrap64 (Int.tdiv (wrap64 (a0 * (wrap64 (a0 - 1)))) 2)))))))) = some (r1, r2) := h
 clear h
 have HC3 := Aside0.mk H
 clear H
 go_enter Try.func48, Try.ntmps48
 go_upto_region 1 with (fail)
 go_cut [33] (fun v33 wc => ∃ (kq : Nat) (x33_2 : Bool), v33 = .bool x33_2 ∧ Aside0 (rank_Orders.j0 kq a0 a1 x33_2 = some (r1, r2)) ∧ Aside0 (kq ≤ k) ∧ Aside0 (Below w.heap.size w wc))
 case first =>
  have H := HC3.out
  clear HC3
  by_cases c4 : a0 < 1
  ·rw [if_pos c4] at H
   have c4b0 : decide (a0 < 1) = true := decide_eq_true c4
   clear c4
   (first | rw [c4b0] | (simp only [i64_w, i32_w]; rw [c4b0]) | skip)
   have H' := Aside0.mk H
   clear H
   go_wp2
   go_meet
   case rel => exact ⟨_, (true), (by first | rfl | (simp; done) | (simp [*]; done)), H', ⟨by first | omega | exact Nat.le_refl _⟩, ⟨GS.lB HB.out⟩⟩
  ·rw [if_neg c4] at H
   have c4b0 : decide (a0 < 1) = false := decide_eq_false c4
   clear c4
   (first | rw [c4b0] | (simp only [i64_w, i32_w]; rw [c4b0]) | skip)
   by_cases c5 : a0 > 20
   ·rw [if_pos c5] at H
    have c5b0 : decide (20 < a0) = true := decide_eq_true c5
    clear c5
    have H' := Aside0.mk H
    clear H
    go_wp2
    go_meet
    case rel => exact ⟨_, (true), (by first | rfl | (simp; done) | (simp [*]; done)), H', ⟨by first | omega | exact Nat.le_refl _⟩, ⟨GS.lB HB.out⟩⟩
   ·rw [if_neg c5] at H
    have c5b0 : decide (20 < a0) = false := decide_eq_false c5
    clear c5
    by_cases c6 : a1 < 0
    ·rw [if_pos c6] at H
     have c6b0 : decide (a1 < 0) = true := decide_eq_true c6
     clear c6
     have H' := Aside0.mk H
     clear H
     go_wp2
     go_meet
     case rel => exact ⟨_, (true), (by first | rfl | (simp; done) | (simp [*]; done)), H', ⟨by first | omega | exact Nat.le_refl _⟩, ⟨GS.lB HB.out⟩⟩
    ·rw [if_neg c6] at H
     have c6b0 : decide (a1 < 0) = false := decide_eq_false c6
     clear c6
     have H' := Aside0.mk H
     clear H
     go_wp2
     go_meet
     case rel => exact ⟨_, (decide (a1 > (wrap64 (Int.tdiv (wrap64 (a0 * (wrap64 (a0 - 1)))) 2)))), (by first | rfl | (simp; done) | (simp [*]; done)), H', ⟨by first | omega | exact Nat.le_refl _⟩, ⟨GS.lB HB.out⟩⟩
 case rest =>
  clear HC3
  try clear p2
  try clear c4
  try clear c4b0
  try clear c5
  try clear c5b0
  try clear c6
  try clear c6b0
  try clear p6
  obtain ⟨kq, x33_2, rfl, HA, HJ2, HB⟩ := hcut
  cases kq with
  | zero => exact absurd HA.out (by simp [rank_Orders.j0])
  | succ kj2 =>
   have H := HA.out
   clear HA
   simp only [rank_Orders.j0] at H
   by_cases c7 : x33_2 = true
   ·subst c7
    have H1 : (some (0, 2)) = some (r1, r2) := by rw [if_pos rfl] at H; exact H
    clear H
    have H := H1
    clear H1
    simp only [Option.some.injEq, Prod.mk.injEq] at H
    obtain ⟨rfl, rfl⟩ := H
    go_wp2
    go_ret2
    exact ⟨by first | rfl | (simp [errW_none, errW_some] <;> rfl) | (simp [*, errW_none, errW_some] <;> rfl), GS.lB HB.out⟩
   ·replace c7 := Bool.eq_false_iff.mpr c7
    subst c7
    have H1 : (rank_Orders.l0 kj2 a0 a1 (([1] : List Int)) 1) = some (r1, r2) := by rw [if_neg (show ¬ (false = true) by decide)] at H; exact H
    clear H
    have H := H1
    clear H1
    obtain ⟨y130, hy130⟩ : ∃ y_ : List Int, y_ = (([1] : List Int)) := ⟨_, rfl⟩
    replace H : (rank_Orders.l0 kj2 a0 a1 y130 1) = some (r1, r2) := by first | (rw [hy130]; with_reducible exact H) | (have H2_ := (Option.bind_some _ _).symm.trans H; rw [hy130]; with_reducible exact H2_) | (have H2_ := (Option.bind_some _ _).symm.trans H; with_reducible exact H2_) | with_reducible exact H | (rw [hy130]; exact H) | exact H
    have Ny130 := Aside0.mk hy130
    clear hy130
    have H' := Aside0.mk H
    clear H
    go_wp2_with (first | ((with_reducible refine gqD (N := 34) rfl ?_); refine Kd.R_lit (Kd.int .i64) _ 3 ?hg (N := 34) ?hd (xs := ([1] : List Int)) (inner := [.int .i64 1]) (ok := fun _ => True) (okp := fun _ => True) ?hr ?hp (fun _ hk => hk) trivial (Below.refl _ _) (Nat.le_refl _) (by simp) ?_; (case hd => rfl); (case hg => rfl); (case hr => first | (go_simp; done) | (go_simp; rfl)); (case hp => exact (Reps.one (show Kd.M (Kd.int .i64) _ _ _ 1 [.int .i64 1] from rfl) (Reps.none _ _))); intro v131 w8 ho9 hb hg_ hnew_; clear hg_ hnew_; (first | rw [← Ny130.out] at ho9 | (simp only [Int.reduceToNat] at ho9; rw [← Ny130.out] at ho9)); have n0_ := Aside0.mk (Kd.R_lower ho9 (lqZ (GS.lB HB.out))); have n1_ := Aside0.mk (lqT (GS.lB HB.out) hb); clear HB; have HO132 := n0_; have HB := n1_; clear n0_ n1_; clear hb ho9))
    go_loopg [6, 7] kj2 (fun kq v6 v7 w' => ∃ (x6_2 : List Int) (x7_2 : Int), v7 = .int .i64 x7_2 ∧ Aside0 (rank_Orders.l0 kq a0 a1 x6_2 x7_2 = some (r1, r2)) ∧ Aside0 (kq ≤ kj2) ∧ Aside0 (Kd.R (Kd.int .i64) 3 w' w.heap.size (fun _ => True) v6 x6_2) ∧ Aside0 (Below w.heap.size w w'))
    case atStart => exact ⟨(y130), (1), (by first | rfl | (simp; done) | (simp [*]; done)), H', ⟨Nat.le_refl _⟩, ⟨by (with_reducible repeat (first | apply Kd.R_alloc | apply Kd.R_drewN | apply Kd.R_drew)); exact HO132.out⟩, ⟨GS.lB HB.out⟩⟩
    case round =>
     clear H'
     try clear p2
     try clear c4
     try clear c4b0
     try clear c5
     try clear c5b0
     try clear c6
     try clear c6b0
     try clear p6
     try clear c7
     try clear p2
     try clear p6
     obtain ⟨x6_2, x7_2, rfl, HA, HK2, HO_6, HB⟩ := hrel
     cases gk with
     | zero => exact absurd HA.out (by simp [rank_Orders.l0])
     | succ k2 =>
      have H := HA.out
      clear HA
      simp only [rank_Orders.l0] at H
      by_cases c10 : x7_2 < a0
      ·rw [if_pos c10] at H
       have c10b0 : decide (x7_2 < a0) = true := decide_eq_true c10
       clear c10
       obtain ⟨ji11, hji11⟩ : ∃ j_ : Int, (wrap64 ((x6_2.length : Int) + x7_2)) = j_ := ⟨_, rfl⟩
       replace H : (if 0 ≤ (ji11) then (if (ji11 : Int).toNat ≤ 35184372088832 then (rank_Orders.l1 k2 a0 a1 x7_2 (List.replicate (ji11 : Int).toNat 0) x6_2 (x6_2.length : Int) 0) else (none)) else (none)) = some (r1, r2) := by first | (rw [hji11] at H; exact H) | (simp only [hji11] at H ⊢; exact H)
       have hji11w : (IntKind.i64.wrap ((x6_2.length : Int) + x7_2)) = ji11 := (i64_w _).trans hji11
       by_cases c12 : 0 ≤ (ji11)
       ·rw [if_pos c12] at H
        have c12b0 := eq_true c12
        have c12b1 : decide (0 ≤ (ji11)) = true := decide_eq_true c12
        clear c12
        by_cases c13 : (ji11 : Int).toNat ≤ 35184372088832
        ·rw [if_pos c13] at H
         have c13b0 := eq_true c13
         have c13b1 : decide ((ji11 : Int).toNat ≤ 35184372088832) = true := decide_eq_true c13
         clear c13
         obtain ⟨y133, hy133⟩ : ∃ y_ : List Int, y_ = (List.replicate (ji11 : Int).toNat 0) := ⟨_, rfl⟩
         replace H : (rank_Orders.l1 k2 a0 a1 x7_2 y133 x6_2 (x6_2.length : Int) 0) = some (r1, r2) := by first | (rw [hy133]; with_reducible exact H) | (have H2_ := (Option.bind_some _ _).symm.trans H; rw [hy133]; with_reducible exact H2_) | (have H2_ := (Option.bind_some _ _).symm.trans H; with_reducible exact H2_) | with_reducible exact H | (rw [hy133]; exact H) | exact H
         have Ny133 := Aside0.mk hy133
         clear hy133
         have H' := Aside0.mk H
         clear H
         obtain ⟨Ao14, co14, eo14⟩ := Kd.R_slice HO_6.out
         subst eo14
         go_wp2_with (first | ((with_reducible refine gqD (N := 44) rfl ?_); refine Kd.R_make (Kd.int .i64) _ 3 rfl (N := 44) rfl 31 _ _ rfl ji11 rfl rfl Try.underlying31 (.int .i64 0) 8 info3 rfl (by decide) (by omega) 0 (ok := fun _ => True) (okp := fun _ => True) rfl (fun _ hk => hk) trivial (of_decide_eq_true (by first | (with_reducible assumption) | assumption)) (Nat.le_trans (Nat.mul_le_mul_right _ (of_decide_eq_true (by first | (with_reducible assumption) | assumption) : ji11.toNat ≤ 35184372088832)) (by omega)) (Below.refl _ _) (Nat.le_refl _) ?_; intro v134 w15 ho16 hb hg_ hnew_; clear hg_ hnew_; (first | rw [← Ny133.out] at ho16 | (simp only [Int.reduceToNat] at ho16; rw [← Ny133.out] at ho16)); have n0_ := Aside0.mk (Kd.R_elder' (GS.rR HO_6.out) (Kd.R_base ho16) hb); have n1_ := Aside0.mk (Kd.R_lower (Kd.R_new' ho16 (Kd.R_lt (GS.rR HO_6.out))) (lqZ (GS.lB HB.out))); have n2_ := Aside0.mk (lqT (GS.lB HB.out) hb); clear HO_6; clear HB; have HO_6 := n0_; have HO135 := n1_; have HB := n2_; clear n0_ n1_ n2_; clear hb ho16))
         go_loopg [47] k2 (fun kq v47 w' => ∃ (x8_3 : List Int) (x47_3 : Int), v47 = .int .i64 x47_3 ∧ Aside0 (rank_Orders.l1 kq a0 a1 x7_2 x8_3 x6_2 (x6_2.length : Int) x47_3 = some (r1, r2)) ∧ Aside0 (kq ≤ k2) ∧ Aside0 (Kd.R (Kd.int .i64) 3 w' w.heap.size (fun k_ => some k_ ≠ ((.slice Ao14 x6_2.length co14) : Value).ownBlock) v134 x8_3) ∧ Aside0 (Kd.R (Kd.int .i64) 3 w' w.heap.size (fun k_ => some k_ ≠ (v134 : Value).ownBlock) (.slice Ao14 x6_2.length co14) x6_2) ∧ Aside0 (Below w.heap.size w w'))
         case atStart => exact ⟨(y133), (0), (by first | rfl | (simp; done) | (simp [*]; done)), H', ⟨Nat.le_refl _⟩, ⟨by (with_reducible repeat (first | apply Kd.R_alloc | apply Kd.R_drewN | apply Kd.R_drew)); exact Kd.R_mono HO135.out (fun _ hk => GS.cj hk)⟩, ⟨by (with_reducible repeat (first | apply Kd.R_alloc | apply Kd.R_drewN | apply Kd.R_drew)); exact Kd.R_mono HO_6.out (fun _ hk => GS.cj hk)⟩, ⟨GS.lB HB.out⟩⟩
         case round =>
          clear H'
          try clear c1
          try clear p2
          try clear c4
          try clear c4b0
          try clear c5
          try clear c5b0
          try clear c6
          try clear c6b0
          try clear p6
          try clear c7
          try clear c10
          try clear c10b0
          try clear c12
          try clear c12b0
          try clear c12b1
          try clear c13
          try clear c13b0
          try clear c13b1
          try clear p2
          try clear p6
          obtain ⟨x8_3, x47_3, rfl, HA, HK3, HO_8, HO_45, HB⟩ := hrel
          cases gk with
          | zero => exact absurd HA.out (by simp [rank_Orders.l1])
          | succ k3 =>
           have H := HA.out
           clear HA
           simp only [rank_Orders.l1] at H
           by_cases c17 : x47_3 < (x6_2.length : Int)
           ·rw [if_pos c17] at H
            have c17b0 : decide (x47_3 < (x6_2.length : Int)) = true := decide_eq_true c17
            clear c17
            by_cases c18 : 0 ≤ x47_3
            ·rw [if_pos c18] at H
             have c18b0 : decide (0 ≤ x47_3) = true := decide_eq_true c18
             clear c18
             by_cases c19 : x47_3 < (x6_2.length : Int)
             ·rw [if_pos c19] at H
              have c19b0 : decide (x47_3 < (x6_2.length : Int)) = true := decide_eq_true c19
              clear c19
              have H' := Aside0.mk H
              clear H
              have p136 : 0 ≤ (x47_3 : Int) := of_decide_eq_true (by first | (with_reducible assumption) | assumption)
              have q136 : x47_3 < (x6_2.length : Int) := of_decide_eq_true (by first | (with_reducible assumption) | assumption)
              obtain ⟨ad136, e136, hx136_0⟩ := Kd.at_int (Kd.R_reads' HO_45.out).2.2 x47_3 p136 q136
              cases e136
              replace p136 := eq_true p136
              replace q136 := eq_true q136
              go_wp2
              go_loopg [54] k3 (fun kq v54 w' => ∃ (x8_4 : List Int) (x54_4 : Int), v54 = .int .i64 x54_4 ∧ Aside0 (rank_Orders.l2 kq a0 a1 x7_2 x8_4 x47_3 (rd x6_2 x47_3) x6_2 (x6_2.length : Int) x47_3 (wrap64 (x7_2 + 1)) x54_4 = some (r1, r2)) ∧ Aside0 (kq ≤ k3) ∧ Aside0 (Kd.R (Kd.int .i64) 3 w' w.heap.size (fun k_ => some k_ ≠ ((.slice (some ad136) x6_2.length co14) : Value).ownBlock) v134 x8_4) ∧ Aside0 (Kd.R (Kd.int .i64) 3 w' w.heap.size (fun k_ => some k_ ≠ (v134 : Value).ownBlock) (.slice (some ad136) x6_2.length co14) x6_2) ∧ Aside0 (Below w.heap.size w w'))
              case atStart => exact ⟨(x8_3), (0), (by first | rfl | (simp; done) | (simp [*]; done)), H', ⟨Nat.le_refl _⟩, ⟨by (with_reducible repeat (first | apply Kd.R_alloc | apply Kd.R_drewN | apply Kd.R_drew)); exact HO_8.out⟩, ⟨by (with_reducible repeat (first | apply Kd.R_alloc | apply Kd.R_drewN | apply Kd.R_drew)); exact HO_45.out⟩, ⟨GS.lB HB.out⟩⟩
              case round =>
               clear H'
               try clear c1
               try clear p1
               try clear q1
               try clear hx1
               try clear p2
               try clear c4
               try clear c4b0
               try clear c5
               try clear c5b0
               try clear c6
               try clear c6b0
               try clear p6
               try clear c7
               try clear c10
               try clear c10b0
               try clear c12
               try clear c12b0
               try clear c12b1
               try clear c13
               try clear c13b0
               try clear c13b1
               try clear p13
               try clear q13
               try clear hx13
               try clear c17
               try clear c17b0
               try clear c18
               try clear c18b0
               try clear c19
               try clear c19b0
               try clear hx136_0
               try clear p136
               try clear p2
               try clear p6
               try clear q136
               obtain ⟨x8_4, x54_4, rfl, HA, HK4, HO_8, HO_45, HB⟩ := hrel
               cases gk with
               | zero => exact absurd HA.out (by simp [rank_Orders.l2])
               | succ k4 =>
                have H := HA.out
                clear HA
                simp only [rank_Orders.l2] at H
                by_cases c20 : x54_4 < (wrap64 (x7_2 + 1))
                ·rw [if_pos c20] at H
                 have c20b0 : decide (x54_4 < (wrap64 (x7_2 + 1))) = true := decide_eq_true c20
                 clear c20
                 obtain ⟨ji21, hji21⟩ : ∃ j_ : Int, (wrap64 (x47_3 + x54_4)) = j_ := ⟨_, rfl⟩
                 replace H : (if 0 ≤ (ji21) then (if (ji21) < (x8_4.length : Int) then (rank_Orders.l2 k4 a0 a1 x7_2 (x8_4.set ((ji21) : Int).toNat (wrap64 ((rd x8_4 (ji21)) + (rd x6_2 x47_3)))) x47_3 (rd x6_2 x47_3) x6_2 (x6_2.length : Int) x47_3 (wrap64 (x7_2 + 1)) (wrap64 (x54_4 + 1))) else (none)) else (none)) = some (r1, r2) := by first | (rw [hji21] at H; exact H) | (simp only [hji21] at H ⊢; exact H)
                 have hji21w : (IntKind.i64.wrap (x47_3 + x54_4)) = ji21 := (i64_w _).trans hji21
                 by_cases c22 : 0 ≤ (ji21)
                 ·rw [if_pos c22] at H
                  have c22b0 : decide (0 ≤ (ji21)) = true := decide_eq_true c22
                  clear c22
                  by_cases c23 : (ji21) < (x8_4.length : Int)
                  ·rw [if_pos c23] at H
                   have c23b0 : decide ((ji21) < (x8_4.length : Int)) = true := decide_eq_true c23
                   clear c23
                   obtain ⟨y138, hy138⟩ : ∃ y_ : List Int, y_ = (x8_4.set ((ji21) : Int).toNat (wrap64 ((rd x8_4 (ji21)) + (rd x6_2 x47_3)))) := ⟨_, rfl⟩
                   replace H : (rank_Orders.l2 k4 a0 a1 x7_2 y138 x47_3 (rd x6_2 x47_3) x6_2 (x6_2.length : Int) x47_3 (wrap64 (x7_2 + 1)) (wrap64 (x54_4 + 1))) = some (r1, r2) := by first | (rw [hy138]; with_reducible exact H) | (have H2_ := (Option.bind_some _ _).symm.trans H; rw [hy138]; with_reducible exact H2_) | (have H2_ := (Option.bind_some _ _).symm.trans H; with_reducible exact H2_) | with_reducible exact H | (rw [hy138]; exact H) | exact H
                   have Ny138 := Aside0.mk hy138
                   clear hy138
                   have H' := Aside0.mk H
                   clear H
                   obtain ⟨Ao25, co25, eo25⟩ := Kd.R_slice HO_8.out
                   subst eo25
                   have p137 : 0 ≤ ((ji21) : Int) := of_decide_eq_true (by first | (with_reducible assumption) | assumption)
                   have q137 : (ji21) < (x8_4.length : Int) := of_decide_eq_true (by first | (with_reducible assumption) | assumption)
                   obtain ⟨ad137, e137, hx137_0⟩ := Kd.at_int (Kd.R_reads' HO_8.out).2.2 (ji21) p137 q137
                   cases e137
                   replace p137 := eq_true p137
                   replace q137 := eq_true q137
                   have p24 : 0 ≤ ((ji21) : Int) := of_decide_eq_true (by first | (with_reducible assumption) | assumption)
                   have q24 : ((ji21) : Int) < ((x8_4.length : Int) : Int) := of_decide_eq_true (by first | (with_reducible assumption) | assumption)
                   obtain ⟨go24, co24, eo24, gb24, gl24, cl24, HG24⟩ := Kd.R_form HO_8.out (by omega)
                   (first | cases eo24 | (injection eo24 with ea_ en_ ec_; (first | subst ea_ | (injection ea_ with ea_; subst ea_)); subst ec_; clear en_))
                   have GB24 := Aside0.mk gb24
                   have GG24 := Aside0.mk HG24
                   clear gb24 gl24 HG24
                   (first | simp only [add_plain] at hx137_0 | skip)
                   obtain ⟨hx24_0, hf24_0⟩ := Kd.R_celln 0 HO_8.out ((ji21) : Int) p24 q24
                   replace p24 := eq_true p24
                   replace q24 := eq_true q24
                   have HP26 := Kd.R_putg HO_8.out ((ji21) : Int) (wrap64 ((rd x8_4 (ji21)) + (rd x6_2 x47_3)))
                   go_wp2_with (first | ((with_reducible refine gate_store (t := 3) (p := 65) rfl ?_); refine store_event (t := 3) (p := 65) (v := ?vo_w27) (w1 := (wr.setCell ⟨go24, ((ji21) : Int).toNat, none⟩ (.int .i64 (wrap64 ((rd x8_4 (ji21)) + (rd x6_2 x47_3)))))) ?hg ?ho ?hn ?hr ?_; (case ho => rfl); (case hg => rfl); (case hn => rfl); (case hr => first | (go_simp; done) | (go_simp; rfl)); intro w27 hw; have hg : wr.grownBy w27 (some go24) := (by rw [hw]; exact HP26.2); have hp_ : Kd.R (Kd.int .i64) 3 w27 w.heap.size (fun k_ => some k_ ≠ (.slice (some ad136) x6_2.length co14 : Value).ownBlock) (.slice (some ⟨go24, 0, none⟩) x8_4.length co25) y138 := (by rw [hw, Ny138.out]; exact HP26.1); clear HP26; have n0_ := Aside0.mk (hp_); have n1_ := Aside0.mk (Kd.R_after (v := (.slice (some ⟨go24, 0, none⟩) x8_4.length co25)) (v1 := (.slice (some ⟨go24, 0, none⟩) x8_4.length co25)) (ok := (fun _ => True)) (GS.rR (Kd.R_mono HO_45.out (fun _ hk => GS.cj hk))) hg (.inl rfl)); have n2_ := Aside0.mk ((by rw [hw]; exact lqS (HB.out) GB24.out : Below w.heap.size w w27)); clear HO_8; clear HO_45; clear HB; have HO_8 := n0_; have HO_45 := n1_; have HB := n2_; clear n0_ n1_ n2_; clear hg hw hp_))
                   go_roundg k4
                   case measure => have := HJ2.out; have := HK2.out; have := HK3.out; have := HK4.out; omega
                   case rel => exact ⟨(y138), (wrap64 (x54_4 + 1)), (by first | rfl | (simp; done) | (simp [*]; done)), H', ⟨by have := HJ2.out; have := HK2.out; have := HK3.out; have := HK4.out; omega⟩, ⟨by (with_reducible repeat (first | apply Kd.R_alloc | apply Kd.R_drewN | apply Kd.R_drew)); exact HO_8.out⟩, ⟨by (with_reducible repeat (first | apply Kd.R_alloc | apply Kd.R_drewN | apply Kd.R_drew)); exact Kd.R_mono HO_45.out (fun _ hk => GS.cj hk)⟩, ⟨GS.lB HB.out⟩⟩
                  ·rw [if_neg c23] at H
                   exact absurd H (by simp)
                 ·rw [if_neg c22] at H
                  exact absurd H (by simp)
                ·rw [if_neg c20] at H
                 have c20b0 : decide (x54_4 < (wrap64 (x7_2 + 1))) = false := decide_eq_false c20
                 clear c20
                 have H' := Aside0.mk H
                 clear H
                 go_wp2
                 go_roundg k4
                 case measure => have := HJ2.out; have := HK2.out; have := HK3.out; have := HK4.out; omega
                 case rel => exact ⟨(x8_4), (wrap64 (x47_3 + 1)), (by first | rfl | (simp; done) | (simp [*]; done)), H', ⟨by have := HJ2.out; have := HK2.out; have := HK3.out; have := HK4.out; omega⟩, ⟨by (with_reducible repeat (first | apply Kd.R_alloc | apply Kd.R_drewN | apply Kd.R_drew)); exact HO_8.out⟩, ⟨by (with_reducible repeat (first | apply Kd.R_alloc | apply Kd.R_drewN | apply Kd.R_drew)); exact HO_45.out⟩, ⟨GS.lB HB.out⟩⟩
             ·rw [if_neg c19] at H
              exact absurd H (by simp)
            ·rw [if_neg c18] at H
             exact absurd H (by simp)
           ·rw [if_neg c17] at H
            have c17b0 : decide (x47_3 < (x6_2.length : Int)) = false := decide_eq_false c17
            clear c17
            have H' := Aside0.mk H
            clear H
            go_wp2
            go_roundg k3
            case measure => have := HJ2.out; have := HK2.out; have := HK3.out; omega
            case rel => exact ⟨(x8_3), (wrap64 (x7_2 + 1)), (by first | rfl | (simp; done) | (simp [*]; done)), H', ⟨by have := HJ2.out; have := HK2.out; have := HK3.out; omega⟩, ⟨by (with_reducible repeat (first | apply Kd.R_alloc | apply Kd.R_drewN | apply Kd.R_drew)); exact Kd.R_mono HO_8.out (fun _ hk => trivial)⟩, ⟨GS.lB HB.out⟩⟩
        ·rw [if_neg c13] at H
         exact absurd H (by simp)
       ·rw [if_neg c12] at H
        exact absurd H (by simp)
      ·rw [if_neg c10] at H
       have c10b0 : decide (x7_2 < a0) = false := decide_eq_false c10
       clear c10
       by_cases c28 : 0 ≤ a1
       ·rw [if_pos c28] at H
        have c28b0 := eq_true c28
        have c28b1 : decide (0 ≤ a1) = true := decide_eq_true c28
        clear c28
        by_cases c29 : a1 ≤ (x6_2.length : Int)
        ·rw [if_pos c29] at H
         have c29b0 := eq_true c29
         have c29b1 : decide (a1 ≤ (x6_2.length : Int)) = true := decide_eq_true c29
         clear c29
         obtain ⟨y139, hy139⟩ : ∃ y_ : List Int, y_ = (x6_2.drop (a1 : Int).toNat) := ⟨_, rfl⟩
         replace H : (rank_Orders.l3 k2 0 y139 (y139.length : Int) 0) = some (r1, r2) := by first | (rw [hy139]; with_reducible exact H) | (have H2_ := (Option.bind_some _ _).symm.trans H; rw [hy139]; with_reducible exact H2_) | (have H2_ := (Option.bind_some _ _).symm.trans H; with_reducible exact H2_) | with_reducible exact H | (rw [hy139]; exact H) | exact H
         have Ny139 := Aside0.mk hy139
         clear hy139
         have H' := Aside0.mk H
         clear H
         obtain ⟨Ao31, co31, eo31⟩ := Kd.R_slice HO_6.out
         subst eo31
         have q30 : (a1 : Int) ≤ ((x6_2.length : Int) : Int) := of_decide_eq_true (by first | (with_reducible assumption) | assumption)
         obtain ⟨i030, hi030, _, hsz30, _⟩ := info_parts info3
         have hroom30 : x6_2.length ≤ co31 := (Kd.R_reads' HO_6.out).2.1
         have hC30 : Kd.C (Kd.int .i64) _ Ao31 x6_2.length x6_2 := (Kd.R_reads' HO_6.out).2.2
         have q030 : (0 : Int) ≤ (a1 : Int) := of_decide_eq_true (by first | (with_reducible assumption) | assumption)
         have hcut30 := cut_from (P := Try.prog) 31 3 .i64 Try.underlying31 hi030 1 hsz30 Ao31 x6_2.length co31 a1 q030 q30
         have hr30 := Kd.C_drop (m := (a1 : Int).toNat) (c := co31) hC30 (by omega) hroom30
         obtain ⟨A30, hA30⟩ : ∃ A1, A1 = (if co31 = (a1 : Int).toNat then Ao31 else (Ao31 : Option Addr).map (·.add ((a1 : Int).toNat * 1))) := ⟨_, rfl⟩
         obtain ⟨c30, hc30⟩ : ∃ c1, c1 = co31 - (a1 : Int).toNat := ⟨_, rfl⟩
         have hy30 : y139.length = x6_2.length - (a1 : Int).toNat := (by rw [Ny139.out, List.length_drop] <;> omega)
         rw [show (x6_2).drop (a1 : Int).toNat = y139 from Ny139.out.symm] at hr30
         replace hr30 : Kd.C (Kd.int .i64) _ A30 y139.length y139 := (by rw [hA30]; exact hr30)
         rw [← hy30, ← hA30, ← hc30] at hcut30
         have HR142 := Aside0.mk hr30
         have HC142 := Aside0.mk (show y139.length ≤ c30 from by rw [hy30, hc30]; exact Nat.sub_le_sub_right hroom30 _)
         clear hr30 hC30 hroom30 hi030 hsz30 hc30
         have KY30 := Aside0.mk hy30
         have KA30 := Aside0.mk hA30
         clear hy30 hA30
         have KL30 := Aside0.mk (show (a1 : Int).toNat ≤ x6_2.length from by omega)
         replace q30 := eq_true q30
         go_wp2
         go_loopg [12, 73] k2 (fun kq v12 v73 w' => ∃ (x12_3 : Int) (x73_3 : Int), v12 = .int .i64 x12_3 ∧ v73 = .int .i64 x73_3 ∧ Aside0 (rank_Orders.l3 kq x12_3 y139 (y139.length : Int) x73_3 = some (r1, r2)) ∧ Aside0 (kq ≤ k2) ∧ Aside0 (Kd.C (Kd.int .i64) w' A30 y139.length y139) ∧ Aside0 (Below w.heap.size w w'))
         case atStart => exact ⟨(0), (0), (by first | rfl | (simp; done) | (simp [*]; done)), (by first | rfl | (simp; done) | (simp [*]; done)), H', ⟨Nat.le_refl _⟩, ⟨by repeat (first | (with_reducible exact HR142.out) | (with_reducible refine Kd.C_alloc ?_ _) | (with_reducible refine Kd.C_drewN ?_ _) | (with_reducible refine Kd.C_drew ?_) | exact HR142.out)⟩, ⟨GS.lB HB.out⟩⟩
         case round =>
          clear H'
          try clear c1
          try clear p1
          try clear q1
          try clear hx1
          try clear c2
          try clear p2
          try clear q2
          try clear hx2
          try clear hf2
          try clear c3
          try clear q3
          try clear c4
          try clear c4b0
          try clear c5
          try clear c5b0
          try clear c6
          try clear c6b0
          try clear p6
          try clear c7
          try clear c10
          try clear c10b0
          try clear c12
          try clear c12b0
          try clear c12b1
          try clear c13
          try clear c13b0
          try clear c13b1
          try clear p13
          try clear q13
          try clear hx13
          try clear c17
          try clear c17b0
          try clear c18
          try clear c18b0
          try clear c19
          try clear c19b0
          try clear c20
          try clear c20b0
          try clear c22
          try clear c22b0
          try clear c23
          try clear c23b0
          try clear p24
          try clear q24
          try clear hx24
          try clear hf24
          try clear c28
          try clear c28b0
          try clear c28b1
          try clear c29
          try clear c29b0
          try clear c29b1
          try clear c30
          try clear q30
          try clear hx136_0
          try clear hx137_0
          try clear hx24_0
          try clear p1
          try clear p13
          try clear p136
          try clear p137
          try clear p2
          try clear p24
          try clear p6
          try clear q030
          try clear q1
          try clear q13
          try clear q136
          try clear q137
          try clear q24
          try clear q30
          obtain ⟨x12_3, x73_3, rfl, rfl, HA, HK3, HR142, HB⟩ := hrel
          cases gk with
          | zero => exact absurd HA.out (by simp [rank_Orders.l3])
          | succ k3 =>
           have H := HA.out
           clear HA
           simp only [rank_Orders.l3] at H
           by_cases c32 : x73_3 < (y139.length : Int)
           ·rw [if_pos c32] at H
            have c32b0 : decide (x73_3 < (y139.length : Int)) = true := decide_eq_true c32
            clear c32
            by_cases c33 : 0 ≤ x73_3
            ·rw [if_pos c33] at H
             have c33b0 : decide (0 ≤ x73_3) = true := decide_eq_true c33
             clear c33
             by_cases c34 : x73_3 < (y139.length : Int)
             ·rw [if_pos c34] at H
              have c34b0 : decide (x73_3 < (y139.length : Int)) = true := decide_eq_true c34
              clear c34
              have H' := Aside0.mk H
              clear H
              have p143 : 0 ≤ (x73_3 : Int) := of_decide_eq_true (by first | (with_reducible assumption) | assumption)
              have q143 : x73_3 < (y139.length : Int) := of_decide_eq_true (by first | (with_reducible assumption) | assumption)
              obtain ⟨ad143, e143, hx143_0⟩ := Kd.at_int HR142.out x73_3 p143 q143
              cases e143
              replace p143 := eq_true p143
              replace q143 := eq_true q143
              go_wp2
              go_roundg k3
              case measure => have := HJ2.out; have := HK2.out; have := HK3.out; omega
              case rel => exact ⟨(wrap64 (x12_3 + (rd y139 x73_3))), (wrap64 (x73_3 + 1)), (by first | rfl | (simp; done) | (simp [*]; done)), (by first | rfl | (simp; done) | (simp [*]; done)), H', ⟨by have := HJ2.out; have := HK2.out; have := HK3.out; omega⟩, ⟨by repeat (first | (with_reducible exact HR142.out) | (with_reducible refine Kd.C_alloc ?_ _) | (with_reducible refine Kd.C_drewN ?_ _) | (with_reducible refine Kd.C_drew ?_) | exact HR142.out)⟩, ⟨GS.lB HB.out⟩⟩
             ·rw [if_neg c34] at H
              exact absurd H (by simp)
            ·rw [if_neg c33] at H
             exact absurd H (by simp)
           ·rw [if_neg c32] at H
            have c32b0 : decide (x73_3 < (y139.length : Int)) = false := decide_eq_false c32
            clear c32
            simp only [Option.some.injEq, Prod.mk.injEq] at H
            obtain ⟨rfl, rfl⟩ := H
            go_wp2
            go_ret2
            exact ⟨by first | rfl | (simp [errW_none, errW_some] <;> rfl) | (simp [*, errW_none, errW_some] <;> rfl), GS.lB HB.out⟩
        ·rw [if_neg c29] at H
         exact absurd H (by simp)
       ·rw [if_neg c28] at H
        exact absurd H (by simp)

-- GIVEN: function 23 (suspect_Trend)

-- NOT PRINTED: function 75 (slices_AppendSeq_int_int)

-- NOT PRINTED: function 69 (slices_Collect_int)

/-! ### cmp_isNaN_int: function 95 -/
def cmp_isNaN_int.f (a0 : Int) : Option (Bool) := some (a0 != a0)
set_option maxHeartbeats 8000000 in
set_option maxRecDepth 100000 in
theorem cmp_isNaN_int.calls (a0 : Int) (r : Bool) (w : World) (h : cmp_isNaN_int.f a0 = some r) :
  Calls Try.prog 95 #[.int .i64 a0] w fun e w' => e = .returned (.bool r) ∧ Drawn0 w w' := by
 have H : (some (a0 != a0)) = some r := h
 clear h
 obtain rfl := Option.some.inj H
 go_enter Try.func95, Try.ntmps95
 go_wp2
 go_ret
 exact ⟨by first | rfl | (simp; done) | (simp [*]; done), by repeat (first | exact Drawn0.refl _ | apply Drawn0.step)⟩

/-! ### cmp_Less_int: function 85 -/
def cmp_Less_int.f (a0 : Int) (a1 : Int) : Option (Bool) := (cmp_isNaN_int.f a0).bind fun t144 => (if t144 = true then ((cmp_isNaN_int.f a1).bind fun t145 => (if t145 = true then (some (decide (a0 < a1))) else (some true))) else (some (decide (a0 < a1))))
set_option maxHeartbeats 8000000 in
set_option maxRecDepth 100000 in
theorem cmp_Less_int.calls (a0 : Int) (a1 : Int) (r : Bool) (w : World) (h : cmp_Less_int.f a0 a1 = some r) :
  Calls Try.prog 85 #[.int .i64 a0, .int .i64 a1] w fun e w' => e = .returned (.bool r) ∧ Drawn0 w w' := by
 have H : ((cmp_isNaN_int.f a0).bind fun t144 => (if t144 = true then ((cmp_isNaN_int.f a1).bind fun t145 => (if t145 = true then (some (decide (a0 < a1))) else (some true))) else (some (decide (a0 < a1))))) = some r := h
 clear h
 replace H := Option.bind_eq_some_iff.mp H
 obtain ⟨t144, A30, H⟩ := H
 replace H : (if t144 = true then ((cmp_isNaN_int.f a1).bind fun t145 => (if t145 = true then (some (decide (a0 < a1))) else (some true))) else (some (decide (a0 < a1)))) = some r := H
 have A3 := Aside0.mk A30
 clear A30
 by_cases c4 : t144 = true
 ·subst c4
  have H1 : ((cmp_isNaN_int.f a1).bind fun t145 => (if t145 = true then (some (decide (a0 < a1))) else (some true))) = some r := by rw [if_pos rfl] at H; exact H
  clear H
  have H := H1
  clear H1
  replace H := Option.bind_eq_some_iff.mp H
  obtain ⟨t145, A50, H⟩ := H
  replace H : (if t145 = true then (some (decide (a0 < a1))) else (some true)) = some r := H
  have A5 := Aside0.mk A50
  clear A50
  by_cases c6 : t145 = true
  ·subst c6
   have H1 : (some (decide (a0 < a1))) = some r := by rw [if_pos rfl] at H; exact H
   clear H
   have H := H1
   clear H1
   obtain rfl := Option.some.inj H
   go_enter Try.func85, Try.ntmps85
   go_wp2_with (first | ((with_reducible refine gqC (f := 95) rfl ?_); refine GS.gL (some 6) Try.func95 #[.int .i64 a0] ?_; (with_reducible refine (cmp_isNaN_int.calls a0 true _ A3.out).mono ?_); rintro e w' ⟨rfl, ⟨nd, rfl⟩⟩; refine ⟨_, rfl, ?_⟩) | (go_at_call 95; (with_reducible refine (cmp_isNaN_int.calls a1 true _ A5.out).mono ?_); rintro e w' ⟨rfl, ⟨nd, rfl⟩⟩))
   go_ret
   exact ⟨by first | rfl | (simp; done) | (simp [*]; done), by repeat (first | exact Drawn0.refl _ | apply Drawn0.step)⟩
  ·replace c6 := Bool.eq_false_iff.mpr c6
   subst c6
   have H1 : (some true) = some r := by rw [if_neg (show ¬ (false = true) by decide)] at H; exact H
   clear H
   have H := H1
   clear H1
   obtain rfl := Option.some.inj H
   go_enter Try.func85, Try.ntmps85
   go_wp2_with (first | ((with_reducible refine gqC (f := 95) rfl ?_); refine GS.gL (some 6) Try.func95 #[.int .i64 a0] ?_; (with_reducible refine (cmp_isNaN_int.calls a0 true _ A3.out).mono ?_); rintro e w' ⟨rfl, ⟨nd, rfl⟩⟩; refine ⟨_, rfl, ?_⟩) | (go_at_call 95; (with_reducible refine (cmp_isNaN_int.calls a1 false _ A5.out).mono ?_); rintro e w' ⟨rfl, ⟨nd, rfl⟩⟩))
   go_ret
   exact ⟨by first | rfl | (simp; done) | (simp [*]; done), by repeat (first | exact Drawn0.refl _ | apply Drawn0.step)⟩
 ·replace c4 := Bool.eq_false_iff.mpr c4
  subst c4
  have H1 : (some (decide (a0 < a1))) = some r := by rw [if_neg (show ¬ (false = true) by decide)] at H; exact H
  clear H
  have H := H1
  clear H1
  obtain rfl := Option.some.inj H
  go_enter Try.func85, Try.ntmps85
  go_wp2_with (first | ((with_reducible refine gqC (f := 95) rfl ?_); refine GS.gL (some 6) Try.func95 #[.int .i64 a0] ?_; (with_reducible refine (cmp_isNaN_int.calls a0 false _ A3.out).mono ?_); rintro e w' ⟨rfl, ⟨nd, rfl⟩⟩; refine ⟨_, rfl, ?_⟩))
  go_ret
  exact ⟨by first | rfl | (simp; done) | (simp [*]; done), by repeat (first | exact Drawn0.refl _ | apply Drawn0.step)⟩

end Go.Proofs.Ytfhmjleimampeaa.K
