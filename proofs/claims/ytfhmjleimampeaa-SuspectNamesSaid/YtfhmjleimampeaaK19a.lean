-- PRINTED by print.py (a twelfth state) out of the translation. Not trusted: Lean checks it.
import Derived.Test.YtfhmjleimampeaaK0
import Derived.Test.YtfhmjleimampeaaGPu
import Derived.Test.YtfhmjleimampeaaGSym
import Derived.Test.YtfhmjleimampeaaGShort
import Derived.Test.YtfhmjleimampeaaK14
import Derived.Test.YtfhmjleimampeaaK16
import Derived.Test.YtfhmjleimampeaaK18
namespace Go.Proofs.Ytfhmjleimampeaa.K
open Go.RowKit Go.Proofs.YtfhmjleimampeaaW.PrintWords Go.Proofs.YtfhmjleimampeaaW.PrintLast Go.Proofs.YtfhmjleimampeaaW.PrintMore
attribute [local go_sem] max2_int min2_int max_two min_two max_three min_three max_four min_four   -- for this text's walks alone
set_option linter.unusedVariables false
set_option linter.unusedSimpArgs false

/-! ### spileref33_Orders: function 50 -/
mutual
def spileref33_Orders.j0 : Nat → Int → Int → Bool → Option (Int × Int)
 | 0, _, _, _ => none
 | k + 1, x0, x1, x29 => if x29 = true then (some (0, 2)) else (spileref33_Orders.l0 k x0 x1 (([1] : List Int)) 2)
def spileref33_Orders.l0 : Nat → Int → Int → List Int → Int → Option (Int × Int)
 | 0, _, _, _, _ => none
 | k + 1, x0, x1, x6, x7 => if x7 ≤ x0 then (if 0 ≤ (wrap64 ((wrap64 ((x6.length : Int) + x7)) - 1)) then (if (wrap64 ((wrap64 ((x6.length : Int) + x7)) - 1) : Int).toNat ≤ 35184372088832 then (spileref33_Orders.l1 k x0 x1 x6 x7 (List.replicate (wrap64 ((wrap64 ((x6.length : Int) + x7)) - 1) : Int).toNat 0) 0) else (none)) else (none)) else (if 0 ≤ x1 then (if x1 ≤ (x6.length : Int) then ((spileref33_total.f k (x6.drop (x1 : Int).toNat)).bind fun t472 => (some (t472, 0))) else (none)) else (none))
def spileref33_Orders.l1 : Nat → Int → Int → List Int → Int → List Int → Int → Option (Int × Int)
 | 0, _, _, _, _, _, _ => none
 | k + 1, x0, x1, x6, x7, x8, x9 => if x9 < (x6.length : Int) then (spileref33_Orders.l2 k x0 x1 x6 x7 x8 x9 0) else (spileref33_Orders.l0 k x0 x1 x8 (wrap64 (x7 + 1)))
def spileref33_Orders.l2 : Nat → Int → Int → List Int → Int → List Int → Int → Int → Option (Int × Int)
 | 0, _, _, _, _, _, _, _ => none
 | k + 1, x0, x1, x6, x7, x8, x9, x10 => if x10 < x7 then (if 0 ≤ (wrap64 (x9 + x10)) then (if (wrap64 (x9 + x10)) < (x8.length : Int) then (if 0 ≤ x9 then (if x9 < (x6.length : Int) then (spileref33_Orders.l2 k x0 x1 x6 x7 (x8.set ((wrap64 (x9 + x10)) : Int).toNat (wrap64 ((rd x8 (wrap64 (x9 + x10))) + (rd x6 x9)))) x9 (wrap64 (x10 + 1))) else (none)) else (none)) else (none)) else (none)) else (spileref33_Orders.l1 k x0 x1 x6 x7 x8 (wrap64 (x9 + 1)))
end
def spileref33_Orders.f (k : Nat) (a0 : Int) (a1 : Int) : Option (Int × Int) := if a0 < 1 then (spileref33_Orders.j0 k a0 a1 true) else (if a0 > 20 then (spileref33_Orders.j0 k a0 a1 true) else (if a1 < 0 then (spileref33_Orders.j0 k a0 a1 true) else (spileref33_Orders.j0 k a0 a1 (decide (a1 > (wrap64 (Int.tdiv (wrap64 (a0 * (wrap64 (a0 - 1)))) 2)))))))
theorem spileref33_Orders.mono_l : ∀ k, (∀ y0 y1 y2, LeO (spileref33_Orders.j0 k y0 y1 y2) (spileref33_Orders.j0 (k + 1) y0 y1 y2)) ∧ (∀ y0 y1 y2 y3, LeO (spileref33_Orders.l0 k y0 y1 y2 y3) (spileref33_Orders.l0 (k + 1) y0 y1 y2 y3)) ∧ (∀ y0 y1 y2 y3 y4 y5, LeO (spileref33_Orders.l1 k y0 y1 y2 y3 y4 y5) (spileref33_Orders.l1 (k + 1) y0 y1 y2 y3 y4 y5)) ∧ (∀ y0 y1 y2 y3 y4 y5 y6, LeO (spileref33_Orders.l2 k y0 y1 y2 y3 y4 y5 y6) (spileref33_Orders.l2 (k + 1) y0 y1 y2 y3 y4 y5 y6))
 | 0 => ⟨fun _ _ _ r h => by simp [spileref33_Orders.j0] at h, fun _ _ _ _ r h => by simp [spileref33_Orders.l0] at h, fun _ _ _ _ _ _ r h => by simp [spileref33_Orders.l1] at h, fun _ _ _ _ _ _ _ r h => by simp [spileref33_Orders.l2] at h⟩
 | k + 1 => by
  obtain ⟨ih0, ih1, ih2, ih3⟩ := spileref33_Orders.mono_l k
  refine ⟨?_, ?_, ?_, ?_⟩
  ·intro y0 y1 y2
   unfold spileref33_Orders.j0
   repeat' first
   | (with_reducible exact ih0 _ _ _)
   | (with_reducible exact ih1 _ _ _ _)
   | (with_reducible exact ih2 _ _ _ _ _ _)
   | (with_reducible exact ih3 _ _ _ _ _ _ _)
   | (with_reducible exact spileref33_total.mono _ _)
   | (with_reducible exact LeO.refl _)
   | (with_reducible exact LeO.none _)
   | (with_reducible refine LeO.ite ?_ ?_)
   | (with_reducible refine LeO.bind ?_ (fun _ => ?_))
   | exact ih0 _ _ _
   | exact ih1 _ _ _ _
   | exact ih2 _ _ _ _ _ _
   | exact ih3 _ _ _ _ _ _ _
   | exact spileref33_total.mono _ _
   | exact LeO.none _
   | refine LeO.ite ?_ ?_
   | refine LeO.bind ?_ (fun _ => ?_)
  ·intro y0 y1 y2 y3
   unfold spileref33_Orders.l0
   repeat' first
   | (with_reducible exact ih0 _ _ _)
   | (with_reducible exact ih1 _ _ _ _)
   | (with_reducible exact ih2 _ _ _ _ _ _)
   | (with_reducible exact ih3 _ _ _ _ _ _ _)
   | (with_reducible exact spileref33_total.mono _ _)
   | (with_reducible exact LeO.refl _)
   | (with_reducible exact LeO.none _)
   | (with_reducible refine LeO.ite ?_ ?_)
   | (with_reducible refine LeO.bind ?_ (fun _ => ?_))
   | exact ih0 _ _ _
   | exact ih1 _ _ _ _
   | exact ih2 _ _ _ _ _ _
   | exact ih3 _ _ _ _ _ _ _
   | exact spileref33_total.mono _ _
   | exact LeO.none _
   | refine LeO.ite ?_ ?_
   | refine LeO.bind ?_ (fun _ => ?_)
  ·intro y0 y1 y2 y3 y4 y5
   unfold spileref33_Orders.l1
   repeat' first
   | (with_reducible exact ih0 _ _ _)
   | (with_reducible exact ih1 _ _ _ _)
   | (with_reducible exact ih2 _ _ _ _ _ _)
   | (with_reducible exact ih3 _ _ _ _ _ _ _)
   | (with_reducible exact spileref33_total.mono _ _)
   | (with_reducible exact LeO.refl _)
   | (with_reducible exact LeO.none _)
   | (with_reducible refine LeO.ite ?_ ?_)
   | (with_reducible refine LeO.bind ?_ (fun _ => ?_))
   | exact ih0 _ _ _
   | exact ih1 _ _ _ _
   | exact ih2 _ _ _ _ _ _
   | exact ih3 _ _ _ _ _ _ _
   | exact spileref33_total.mono _ _
   | exact LeO.none _
   | refine LeO.ite ?_ ?_
   | refine LeO.bind ?_ (fun _ => ?_)
  ·intro y0 y1 y2 y3 y4 y5 y6
   unfold spileref33_Orders.l2
   repeat' first
   | (with_reducible exact ih0 _ _ _)
   | (with_reducible exact ih1 _ _ _ _)
   | (with_reducible exact ih2 _ _ _ _ _ _)
   | (with_reducible exact ih3 _ _ _ _ _ _ _)
   | (with_reducible exact spileref33_total.mono _ _)
   | (with_reducible exact LeO.refl _)
   | (with_reducible exact LeO.none _)
   | (with_reducible refine LeO.ite ?_ ?_)
   | (with_reducible refine LeO.bind ?_ (fun _ => ?_))
   | exact ih0 _ _ _
   | exact ih1 _ _ _ _
   | exact ih2 _ _ _ _ _ _
   | exact ih3 _ _ _ _ _ _ _
   | exact spileref33_total.mono _ _
   | exact LeO.none _
   | refine LeO.ite ?_ ?_
   | refine LeO.bind ?_ (fun _ => ?_)
theorem spileref33_Orders.mono : ∀ a0 a1 k, LeO (spileref33_Orders.f k a0 a1) (spileref33_Orders.f (k + 1) a0 a1) := by
 intro a0 a1 k
 obtain ⟨ih0, ih1, ih2, ih3⟩ := spileref33_Orders.mono_l k
 unfold spileref33_Orders.f
 repeat' first
   | (with_reducible exact ih0 _ _ _)
   | (with_reducible exact ih1 _ _ _ _)
   | (with_reducible exact ih2 _ _ _ _ _ _)
   | (with_reducible exact ih3 _ _ _ _ _ _ _)
   | (with_reducible exact spileref33_total.mono _ _)
   | (with_reducible exact LeO.refl _)
   | (with_reducible exact LeO.none _)
   | (with_reducible refine LeO.ite ?_ ?_)
   | (with_reducible refine LeO.bind ?_ (fun _ => ?_))
   | exact ih0 _ _ _
   | exact ih1 _ _ _ _
   | exact ih2 _ _ _ _ _ _
   | exact ih3 _ _ _ _ _ _ _
   | exact spileref33_total.mono _ _
   | exact LeO.none _
   | refine LeO.ite ?_ ?_
   | refine LeO.bind ?_ (fun _ => ?_)
def spileref33_Orders.T14 : Bool × List (List Nat × List Nat) := (true, [([], []), ([], []), ([], []), ([1, 2], [1, 2]), ([], []), ([], []), ([], []), ([5, 6], [5, 6]), ([4, 7], [4, 7]), ([8], [8]), ([], []), ([], []), ([10, 11], [10, 11]), ([12], [12]), ([9, 13], [9, 13]), ([0, 3, 0, 1, 2, 3, 4, 5, 6, 7, 8, 9, 10, 11, 12, 13, 14], [0, 3]), ([15, 14, 0, 1, 2, 3, 4, 5, 6, 7, 8, 9, 10, 11, 12, 13, 14], [14, 15])])
def spileref33_Orders.B14 : List Nat := [0, 0, 0, 6, 0, 0, 0, 96, 240, 496, 0, 0, 3072, 7168, 16368, 32767, 65535]
theorem spileref33_Orders.tab14 : rtab .any (opsOf Try.f50 14) = spileref33_Orders.T14 := by kernel_rfl
theorem spileref33_Orders.bits14 : waitsOk spileref33_Orders.T14.2 spileref33_Orders.B14 = true := by kernel_rfl
set_option maxHeartbeats 8000000 in
set_option maxRecDepth 100000 in
theorem spileref33_Orders.calls (k : Nat) (a0 : Int) (a1 : Int) (r1 : Int) (r2 : Int) (w : World) (h : spileref33_Orders.f k a0 a1 = some (r1, r2)) :
  Calls Try.prog 50 #[.int .i64 a0, .int .i64 a1] w fun e w' => e = .returned (.tuple #[.int .i64 r1, .int .i64 r2]) ∧ Below w.heap.size w w' := by
 have HB := Aside0.mk (Below.refl w.heap.size w)
 have H : (if a0 < 1 then (spileref33_Orders.j0 k a0 a1 true) else (if a0 > 20 then (spileref33_Orders.j0 k a0 a1 true) else (if a1 < 0 then (spileref33_Orders.j0 k a0 a1 true) else (spileref33_Orders.j0 k a0 a1 (decide (a1 > (wrap64 (Int.tdiv (wrap64 (a0 * (wrap64 (a0 - 1)))) 2)))))))) = some (r1, r2) := h
 clear h
 have HC3 := Aside0.mk H
 clear H
 go_enter Try.func50, Try.ntmps50
 go_upto_region 1 with (fail)
 go_cut [29] (fun v29 wc => ∃ (kq : Nat) (x29_2 : Bool), v29 = .bool x29_2 ∧ Aside0 (spileref33_Orders.j0 kq a0 a1 x29_2 = some (r1, r2)) ∧ Aside0 (kq ≤ k) ∧ Aside0 (Below w.heap.size w wc))
 case first =>
  have H := HC3.out
  clear HC3
  by_cases c4 : a0 < 1
  ·rw [if_pos c4] at H
   have c4b0 : decide (a0 < 1) = true := decide_eq_true c4
   clear c4
   (first | rw [c4b0] | (simp only [i64_w, i32_w]; rw [c4b0]) | skip)
   have H' := Aside0.mk H
   clear H
   go_wp2
   go_meet
   case rel => exact ⟨_, (true), (by first | rfl | (simp; done) | (simp [*]; done)), H', ⟨by first | omega | exact Nat.le_refl _⟩, ⟨GS.lB HB.out⟩⟩
  ·rw [if_neg c4] at H
   have c4b0 : decide (a0 < 1) = false := decide_eq_false c4
   clear c4
   (first | rw [c4b0] | (simp only [i64_w, i32_w]; rw [c4b0]) | skip)
   by_cases c5 : a0 > 20
   ·rw [if_pos c5] at H
    have c5b0 : decide (20 < a0) = true := decide_eq_true c5
    clear c5
    have H' := Aside0.mk H
    clear H
    go_wp2
    go_meet
    case rel => exact ⟨_, (true), (by first | rfl | (simp; done) | (simp [*]; done)), H', ⟨by first | omega | exact Nat.le_refl _⟩, ⟨GS.lB HB.out⟩⟩
   ·rw [if_neg c5] at H
    have c5b0 : decide (20 < a0) = false := decide_eq_false c5
    clear c5
    by_cases c6 : a1 < 0
    ·rw [if_pos c6] at H
     have c6b0 : decide (a1 < 0) = true := decide_eq_true c6
     clear c6
     have H' := Aside0.mk H
     clear H
     go_wp2
     go_meet
     case rel => exact ⟨_, (true), (by first | rfl | (simp; done) | (simp [*]; done)), H', ⟨by first | omega | exact Nat.le_refl _⟩, ⟨GS.lB HB.out⟩⟩
    ·rw [if_neg c6] at H
     have c6b0 : decide (a1 < 0) = false := decide_eq_false c6
     clear c6
     have H' := Aside0.mk H
     clear H
     go_wp2
     go_meet
     case rel => exact ⟨_, (decide (a1 > (wrap64 (Int.tdiv (wrap64 (a0 * (wrap64 (a0 - 1)))) 2)))), (by first | rfl | (simp; done) | (simp [*]; done)), H', ⟨by first | omega | exact Nat.le_refl _⟩, ⟨GS.lB HB.out⟩⟩
 case rest =>
  clear HC3
  try clear p2
  try clear c4
  try clear c4b0
  try clear c5
  try clear c5b0
  try clear c6
  try clear c6b0
  try clear p6
  obtain ⟨kq, x29_2, rfl, HA, HJ2, HB⟩ := hcut
  cases kq with
  | zero => exact absurd HA.out (by simp [spileref33_Orders.j0])
  | succ kj2 =>
   have H := HA.out
   clear HA
   simp only [spileref33_Orders.j0] at H
   by_cases c7 : x29_2 = true
   ·subst c7
    have H1 : (some (0, 2)) = some (r1, r2) := by rw [if_pos rfl] at H; exact H
    clear H
    have H := H1
    clear H1
    simp only [Option.some.injEq, Prod.mk.injEq] at H
    obtain ⟨rfl, rfl⟩ := H
    go_wp2
    go_ret2
    exact ⟨by first | rfl | (simp [errW_none, errW_some] <;> rfl) | (simp [*, errW_none, errW_some] <;> rfl), GS.lB HB.out⟩
   ·replace c7 := Bool.eq_false_iff.mpr c7
    subst c7
    have H1 : (spileref33_Orders.l0 kj2 a0 a1 (([1] : List Int)) 2) = some (r1, r2) := by rw [if_neg (show ¬ (false = true) by decide)] at H; exact H
    clear H
    have H := H1
    clear H1
    obtain ⟨y465, hy465⟩ : ∃ y_ : List Int, y_ = (([1] : List Int)) := ⟨_, rfl⟩
    replace H : (spileref33_Orders.l0 kj2 a0 a1 y465 2) = some (r1, r2) := by first | (rw [hy465]; with_reducible exact H) | (have H2_ := (Option.bind_some _ _).symm.trans H; rw [hy465]; with_reducible exact H2_) | (have H2_ := (Option.bind_some _ _).symm.trans H; with_reducible exact H2_) | with_reducible exact H | (rw [hy465]; exact H) | exact H
    have Ny465 := Aside0.mk hy465
    clear hy465
    have H' := Aside0.mk H
    clear H
    go_wp2_with (first | ((with_reducible refine gqD (N := 30) rfl ?_); refine Kd.R_lit (Kd.int .i64) _ 3 ?hg (N := 30) ?hd (xs := ([1] : List Int)) (inner := [.int .i64 1]) (ok := fun _ => True) (okp := fun _ => True) ?hr ?hp (fun _ hk => hk) trivial (Below.refl _ _) (Nat.le_refl _) (by simp) ?_; (case hd => rfl); (case hg => rfl); (case hr => first | (go_simp; done) | (go_simp; rfl)); (case hp => exact (Reps.one (show Kd.M (Kd.int .i64) _ _ _ 1 [.int .i64 1] from rfl) (Reps.none _ _))); intro v466 w8 ho9 hb hg_ hnew_; clear hg_ hnew_; (first | rw [← Ny465.out] at ho9 | (simp only [Int.reduceToNat] at ho9; rw [← Ny465.out] at ho9)); have n0_ := Aside0.mk (Kd.R_lower ho9 (lqZ (GS.lB HB.out))); have n1_ := Aside0.mk (lqT (GS.lB HB.out) hb); clear HB; have HO467 := n0_; have HB := n1_; clear n0_ n1_; clear hb ho9))
    go_loopg [6, 7] kj2 (fun kq v6 v7 w' => ∃ (x6_2 : List Int) (x7_2 : Int), v7 = .int .i64 x7_2 ∧ Aside0 (spileref33_Orders.l0 kq a0 a1 x6_2 x7_2 = some (r1, r2)) ∧ Aside0 (kq ≤ kj2) ∧ Aside0 (Kd.R (Kd.int .i64) 3 w' w.heap.size (fun _ => True) v6 x6_2) ∧ Aside0 (Below w.heap.size w w'))
    case atStart => exact ⟨(y465), (2), (by first | rfl | (simp; done) | (simp [*]; done)), H', ⟨Nat.le_refl _⟩, ⟨by (with_reducible repeat (first | apply Kd.R_alloc | apply Kd.R_drewN | apply Kd.R_drew)); exact HO467.out⟩, ⟨GS.lB HB.out⟩⟩
    case round =>
     clear H'
     try clear p2
     try clear c4
     try clear c4b0
     try clear c5
     try clear c5b0
     try clear c6
     try clear c6b0
     try clear p6
     try clear c7
     try clear p2
     try clear p6
     obtain ⟨x6_2, x7_2, rfl, HA, HK2, HO_6, HB⟩ := hrel
     cases gk with
     | zero => exact absurd HA.out (by simp [spileref33_Orders.l0])
     | succ k2 =>
      have H := HA.out
      clear HA
      simp only [spileref33_Orders.l0] at H
      by_cases c10 : x7_2 ≤ a0
      ·rw [if_pos c10] at H
       have c10b0 : decide (x7_2 ≤ a0) = true := decide_eq_true c10
       clear c10
       obtain ⟨ji11, hji11⟩ : ∃ j_ : Int, (wrap64 ((wrap64 ((x6_2.length : Int) + x7_2)) - 1)) = j_ := ⟨_, rfl⟩
       replace H : (if 0 ≤ (ji11) then (if (ji11 : Int).toNat ≤ 35184372088832 then (spileref33_Orders.l1 k2 a0 a1 x6_2 x7_2 (List.replicate (ji11 : Int).toNat 0) 0) else (none)) else (none)) = some (r1, r2) := by first | (rw [hji11] at H; exact H) | (simp only [hji11] at H ⊢; exact H)
       have hji11w : (IntKind.i64.wrap ((wrap64 ((x6_2.length : Int) + x7_2)) - 1)) = ji11 := (i64_w _).trans hji11
       by_cases c12 : 0 ≤ (ji11)
       ·rw [if_pos c12] at H
        have c12b0 := eq_true c12
        have c12b1 : decide (0 ≤ (ji11)) = true := decide_eq_true c12
        clear c12
        by_cases c13 : (ji11 : Int).toNat ≤ 35184372088832
        ·rw [if_pos c13] at H
         have c13b0 := eq_true c13
         have c13b1 : decide ((ji11 : Int).toNat ≤ 35184372088832) = true := decide_eq_true c13
         clear c13
         obtain ⟨y473, hy473⟩ : ∃ y_ : List Int, y_ = (List.replicate (ji11 : Int).toNat 0) := ⟨_, rfl⟩
         replace H : (spileref33_Orders.l1 k2 a0 a1 x6_2 x7_2 y473 0) = some (r1, r2) := by first | (rw [hy473]; with_reducible exact H) | (have H2_ := (Option.bind_some _ _).symm.trans H; rw [hy473]; with_reducible exact H2_) | (have H2_ := (Option.bind_some _ _).symm.trans H; with_reducible exact H2_) | with_reducible exact H | (rw [hy473]; exact H) | exact H
         have Ny473 := Aside0.mk hy473
         clear hy473
         have H' := Aside0.mk H
         clear H
         obtain ⟨Ao14, co14, eo14⟩ := Kd.R_slice HO_6.out
         subst eo14
         go_wp2_with (first | ((with_reducible refine gqD (N := 41) rfl ?_); refine Kd.R_make (Kd.int .i64) _ 3 rfl (N := 41) rfl 31 _ _ rfl ji11 rfl rfl Try.underlying31 (.int .i64 0) 8 info3 rfl (by decide) (by omega) 0 (ok := fun _ => True) (okp := fun _ => True) rfl (fun _ hk => hk) trivial (of_decide_eq_true (by first | (with_reducible assumption) | assumption)) (Nat.le_trans (Nat.mul_le_mul_right _ (of_decide_eq_true (by first | (with_reducible assumption) | assumption) : ji11.toNat ≤ 35184372088832)) (by omega)) (Below.refl _ _) (Nat.le_refl _) ?_; intro v474 w15 ho16 hb hg_ hnew_; clear hg_ hnew_; (first | rw [← Ny473.out] at ho16 | (simp only [Int.reduceToNat] at ho16; rw [← Ny473.out] at ho16)); have n0_ := Aside0.mk (Kd.R_elder' (GS.rR HO_6.out) (Kd.R_base ho16) hb); have n1_ := Aside0.mk (Kd.R_lower (Kd.R_new' ho16 (Kd.R_lt (GS.rR HO_6.out))) (lqZ (GS.lB HB.out))); have n2_ := Aside0.mk (lqT (GS.lB HB.out) hb); clear HO_6; clear HB; have HO_6 := n0_; have HO475 := n1_; have HB := n2_; clear n0_ n1_ n2_; clear hb ho16))
         go_loopg [9] k2 (fun kq v9 w' => ∃ (x8_3 : List Int) (x9_3 : Int), v9 = .int .i64 x9_3 ∧ Aside0 (spileref33_Orders.l1 kq a0 a1 x6_2 x7_2 x8_3 x9_3 = some (r1, r2)) ∧ Aside0 (kq ≤ k2) ∧ Aside0 (Kd.R (Kd.int .i64) 3 w' w.heap.size (fun k_ => some k_ ≠ (v474 : Value).ownBlock) (.slice Ao14 x6_2.length co14) x6_2) ∧ Aside0 (Kd.R (Kd.int .i64) 3 w' w.heap.size (fun k_ => some k_ ≠ ((.slice Ao14 x6_2.length co14) : Value).ownBlock) v474 x8_3) ∧ Aside0 (Below w.heap.size w w'))
         case atStart => exact ⟨(y473), (0), (by first | rfl | (simp; done) | (simp [*]; done)), H', ⟨Nat.le_refl _⟩, ⟨by (with_reducible repeat (first | apply Kd.R_alloc | apply Kd.R_drewN | apply Kd.R_drew)); exact Kd.R_mono HO_6.out (fun _ hk => GS.cj hk)⟩, ⟨by (with_reducible repeat (first | apply Kd.R_alloc | apply Kd.R_drewN | apply Kd.R_drew)); exact Kd.R_mono HO475.out (fun _ hk => GS.cj hk)⟩, ⟨GS.lB HB.out⟩⟩
         case round =>
          clear H'
          try clear c1
          try clear p2
          try clear c4
          try clear c4b0
          try clear c5
          try clear c5b0
          try clear c6
          try clear c6b0
          try clear p6
          try clear c7
          try clear c10
          try clear c10b0
          try clear c12
          try clear c12b0
          try clear c12b1
          try clear c13
          try clear c13b0
          try clear c13b1
          try clear p2
          try clear p6
          obtain ⟨x8_3, x9_3, rfl, HA, HK3, HO_6, HO_8, HB⟩ := hrel
          cases gk with
          | zero => exact absurd HA.out (by simp [spileref33_Orders.l1])
          | succ k3 =>
           have H := HA.out
           clear HA
           simp only [spileref33_Orders.l1] at H
           by_cases c17 : x9_3 < (x6_2.length : Int)
           ·rw [if_pos c17] at H
            have c17b0 : decide (x9_3 < (x6_2.length : Int)) = true := decide_eq_true c17
            clear c17
            have H' := Aside0.mk H
            clear H
            go_wp2
            go_loopg [10] k3 (fun kq v10 w' => ∃ (x8_4 : List Int) (x10_4 : Int), v10 = .int .i64 x10_4 ∧ Aside0 (spileref33_Orders.l2 kq a0 a1 x6_2 x7_2 x8_4 x9_3 x10_4 = some (r1, r2)) ∧ Aside0 (kq ≤ k3) ∧ Aside0 (Kd.R (Kd.int .i64) 3 w' w.heap.size (fun k_ => some k_ ≠ (v474 : Value).ownBlock) (.slice Ao14 x6_2.length co14) x6_2) ∧ Aside0 (Kd.R (Kd.int .i64) 3 w' w.heap.size (fun k_ => some k_ ≠ ((.slice Ao14 x6_2.length co14) : Value).ownBlock) v474 x8_4) ∧ Aside0 (Below w.heap.size w w'))
            case atStart => exact ⟨(x8_3), (0), (by first | rfl | (simp; done) | (simp [*]; done)), H', ⟨Nat.le_refl _⟩, ⟨by (with_reducible repeat (first | apply Kd.R_alloc | apply Kd.R_drewN | apply Kd.R_drew)); exact HO_6.out⟩, ⟨by (with_reducible repeat (first | apply Kd.R_alloc | apply Kd.R_drewN | apply Kd.R_drew)); exact HO_8.out⟩, ⟨GS.lB HB.out⟩⟩
            case round =>
             clear H'
             try clear c1
             try clear p2
             try clear c4
             try clear c4b0
             try clear c5
             try clear c5b0
             try clear c6
             try clear c6b0
             try clear p6
             try clear c7
             try clear c10
             try clear c10b0
             try clear c12
             try clear c12b0
             try clear c12b1
             try clear c13
             try clear c13b0
             try clear c13b1
             try clear c17
             try clear c17b0
             try clear p2
             try clear p6
             obtain ⟨x8_4, x10_4, rfl, HA, HK4, HO_6, HO_8, HB⟩ := hrel
             cases gk with
             | zero => exact absurd HA.out (by simp [spileref33_Orders.l2])
             | succ k4 =>
              have H := HA.out
              clear HA
              simp only [spileref33_Orders.l2] at H
              by_cases c18 : x10_4 < x7_2
              ·rw [if_pos c18] at H
               have c18b0 : decide (x10_4 < x7_2) = true := decide_eq_true c18
               clear c18
               obtain ⟨ji19, hji19⟩ : ∃ j_ : Int, (wrap64 (x9_3 + x10_4)) = j_ := ⟨_, rfl⟩
               replace H : (if 0 ≤ (ji19) then (if (ji19) < (x8_4.length : Int) then (if 0 ≤ x9_3 then (if x9_3 < (x6_2.length : Int) then (spileref33_Orders.l2 k4 a0 a1 x6_2 x7_2 (x8_4.set ((ji19) : Int).toNat (wrap64 ((rd x8_4 (ji19)) + (rd x6_2 x9_3)))) x9_3 (wrap64 (x10_4 + 1))) else (none)) else (none)) else (none)) else (none)) = some (r1, r2) := by first | (rw [hji19] at H; exact H) | (simp only [hji19] at H ⊢; exact H)
               have hji19w : (IntKind.i64.wrap (x9_3 + x10_4)) = ji19 := (i64_w _).trans hji19
               by_cases c20 : 0 ≤ (ji19)
               ·rw [if_pos c20] at H
                have c20b0 : decide (0 ≤ (ji19)) = true := decide_eq_true c20
                clear c20
                by_cases c21 : (ji19) < (x8_4.length : Int)
                ·rw [if_pos c21] at H
                 have c21b0 : decide ((ji19) < (x8_4.length : Int)) = true := decide_eq_true c21
                 clear c21
                 by_cases c22 : 0 ≤ x9_3
                 ·rw [if_pos c22] at H
                  have c22b0 : decide (0 ≤ x9_3) = true := decide_eq_true c22
                  clear c22
                  by_cases c23 : x9_3 < (x6_2.length : Int)
                  ·rw [if_pos c23] at H
                   have c23b0 : decide (x9_3 < (x6_2.length : Int)) = true := decide_eq_true c23
                   clear c23
                   obtain ⟨y478, hy478⟩ : ∃ y_ : List Int, y_ = (x8_4.set ((ji19) : Int).toNat (wrap64 ((rd x8_4 (ji19)) + (rd x6_2 x9_3)))) := ⟨_, rfl⟩
                   replace H : (spileref33_Orders.l2 k4 a0 a1 x6_2 x7_2 y478 x9_3 (wrap64 (x10_4 + 1))) = some (r1, r2) := by first | (rw [hy478]; with_reducible exact H) | (have H2_ := (Option.bind_some _ _).symm.trans H; rw [hy478]; with_reducible exact H2_) | (have H2_ := (Option.bind_some _ _).symm.trans H; with_reducible exact H2_) | with_reducible exact H | (rw [hy478]; exact H) | exact H
                   have Ny478 := Aside0.mk hy478
                   clear hy478
                   have H' := Aside0.mk H
                   clear H
                   try go_wp2
                   have n0_ := Aside0.mk (Kd.R_drew HO_6.out)
                   have n1_ := Aside0.mk (Kd.R_drew HO_8.out)
                   have n2_ := Aside0.mk (lqD HB.out)
                   clear HO_6
                   clear HO_8
                   clear HB
                   have HO_6 := n0_
                   have HO_8 := n1_
                   have HB := n2_
                   clear n0_ n1_ n2_
                   obtain ⟨Ao26, co26, eo26⟩ := Kd.R_slice HO_8.out
                   (first | subst eo26 | (injection eo26 with f1_ f2_ f3_; have f4_ := f1_.symm; have f5_ := f3_.symm; clear f1_ f2_ f3_; subst f4_; subst f5_))
                   have p476 : 0 ≤ ((ji19) : Int) := of_decide_eq_true (by first | (with_reducible assumption) | assumption)
                   have q476 : (ji19) < (x8_4.length : Int) := of_decide_eq_true (by first | (with_reducible assumption) | assumption)
                   obtain ⟨ad476, e476, hx476_0⟩ := Kd.at_int (Kd.R_reads' HO_8.out).2.2 (ji19) p476 q476
                   cases e476
                   replace p476 := eq_true p476
                   replace q476 := eq_true q476
                   have p477 : 0 ≤ (x9_3 : Int) := of_decide_eq_true (by first | (with_reducible assumption) | assumption)
                   have q477 : x9_3 < (x6_2.length : Int) := of_decide_eq_true (by first | (with_reducible assumption) | assumption)
                   obtain ⟨ad477, e477, hx477_0⟩ := Kd.at_int (Kd.R_reads' HO_6.out).2.2 x9_3 p477 q477
                   cases e477
                   replace p477 := eq_true p477
                   replace q477 := eq_true q477
                   have p24 : 0 ≤ ((ji19) : Int) := of_decide_eq_true (by first | (with_reducible assumption) | assumption)
                   have q24 : ((ji19) : Int) < ((x8_4.length : Int) : Int) := of_decide_eq_true (by first | (with_reducible assumption) | assumption)
                   obtain ⟨go24, co24, eo24, gb24, gl24, cl24, HG24⟩ := Kd.R_form HO_8.out (by omega)
                   (first | cases eo24 | (injection eo24 with ea_ en_ ec_; (first | subst ea_ | (injection ea_ with ea_; subst ea_)); subst ec_; clear en_))
                   have GB24 := Aside0.mk gb24
                   have GG24 := Aside0.mk HG24
                   clear gb24 gl24 HG24
                   (first | simp only [add_plain] at hx476_0 | skip)
                   obtain ⟨hx24_0, hf24_0⟩ := Kd.R_celln 0 HO_8.out ((ji19) : Int) p24 q24
                   replace p24 := eq_true p24
                   replace q24 := eq_true q24
                   have HP27 := Kd.R_putn HO_8.out ((ji19) : Int) (wrap64 ((rd x8_4 (ji19)) + (rd x6_2 x9_3)))
                   rw [← Ny478.out] at HP27
                   have HQ27 := Aside0.mk HP27
                   clear HP27
                   refine start_ (n := 17) (S := fun w' => w'.cell? ⟨go24, ((ji19)).toNat, none⟩ = some (.int .i64 (rd x8_4 (ji19))) ∧ w'.cell? (ad477.add (x9_3).toNat) = some (.int .i64 (rd x6_2 x9_3))) (ds := [16]) #[false, false, false, false, false, false, false, false, false, false, false, false, false, false, false, false, false] (by kernel_rfl) rfl rfl ⟨hx476_0, hx477_0⟩ (fun hHeld => ?_); refine with_tabW spileref33_Orders.tab14 spileref33_Orders.bits14 (fun HT_ HW_ => ?_)
                   generalize wr.drew = w25 at HO_6 HO_8 HB GG24 HQ27 hf24_0 hx24_0 hx476_0 hx477_0 hHeld ⊢
                   refine GS.pu 0 (some 53) HT_.out ?_
                   refine GS.pu 1 (some 54) HT_.out ?_
                   refine GS.pu 2 (some 55) HT_.out ?_
                   refine GS.pu 3 (some 56) HT_.out ?_
                   refine GS.pu 4 (some 57) HT_.out ?_
                   refine GS.pu 5 (some 58) HT_.out ?_
                   refine GS.pu 6 (some 59) HT_.out ?_
                   refine GS.pu 7 (some 60) HT_.out ?_
                   refine GS.pu 8 (some 61) HT_.out ?_
                   refine GS.pu 10 (some 63) HT_.out ?_
                   refine GS.pu 11 (some 64) HT_.out ?_
                   refine GS.pu 12 (some 65) HT_.out ?_
                   refine GS.tk 9 (some 62) HT_.out HW_.out hHeld ?_
                   refine GS.tk 13 (some 66) HT_.out HW_.out hHeld ?_
                   refine GS.pu 14 (some 67) HT_.out ?_
                   refine GS.pu 15 (some 68) HT_.out ?_
                   refine last_ (i := 16) (N := none) #[true, true, true, true, true, true, true, true, true, true, true, true, true, true, true, true, true] rfl rfl (one_of HT_.out (by kernel_rfl)) (by decide) (fun K hK => ?_)
                   refine skip_ (w1 := ?_) (by rfl) rfl ?_ ?_
                   rotate_left
                   ·go_simp
                    rfl
                   refine hK.out _ _ ?_
                   clear hK K
                   refine done_ (done_of HT_.out (by kernel_rfl)) ?_
                   try go_wp2
                   go_roundg k4
                   case measure => have := HJ2.out; have := HK2.out; have := HK3.out; have := HK4.out; omega
                   case rel => exact ⟨(y478), (wrap64 (x10_4 + 1)), (by first | rfl | (simp; done) | (simp [*]; done)), H', ⟨by have := HJ2.out; have := HK2.out; have := HK3.out; have := HK4.out; omega⟩, ⟨by (with_reducible repeat (first | apply Kd.R_alloc | apply Kd.R_drewN | apply Kd.R_drew)); exact Kd.R_mono (Kd.R_far (p := ⟨go24, ((ji19) : Int).toNat, none⟩) (Kd.R_mono HO_6.out (fun k_ hk => (⟨hk, fun e_ => hk (by rw [e_]; rfl)⟩ : _ ∧ k_ ≠ go24))) (fun _ hk => hk.2) (.int .i64 (wrap64 ((rd x8_4 (ji19)) + (rd x6_2 x9_3))))) (fun _ hk => GS.cj hk)⟩, ⟨by (with_reducible repeat (first | apply Kd.R_alloc | apply Kd.R_drewN | apply Kd.R_drew)); exact HQ27.out⟩, ⟨by repeat (first | (with_reducible first | exact HB.out | apply lqA | apply lqN | apply lqD | refine lqS ?_ GB24.out) | exact HB.out)⟩⟩
                  ·rw [if_neg c23] at H
                   exact absurd H (by simp)
                 ·rw [if_neg c22] at H
                  exact absurd H (by simp)
                ·rw [if_neg c21] at H
                 exact absurd H (by simp)
               ·rw [if_neg c20] at H
                exact absurd H (by simp)
              ·rw [if_neg c18] at H
               have c18b0 : decide (x10_4 < x7_2) = false := decide_eq_false c18
               clear c18
               have H' := Aside0.mk H
               clear H
               go_wp2
               go_roundg k4
               case measure => have := HJ2.out; have := HK2.out; have := HK3.out; have := HK4.out; omega
               case rel => exact ⟨(x8_4), (wrap64 (x9_3 + 1)), (by first | rfl | (simp; done) | (simp [*]; done)), H', ⟨by have := HJ2.out; have := HK2.out; have := HK3.out; have := HK4.out; omega⟩, ⟨by (with_reducible repeat (first | apply Kd.R_alloc | apply Kd.R_drewN | apply Kd.R_drew)); exact HO_6.out⟩, ⟨by (with_reducible repeat (first | apply Kd.R_alloc | apply Kd.R_drewN | apply Kd.R_drew)); exact HO_8.out⟩, ⟨GS.lB HB.out⟩⟩
           ·rw [if_neg c17] at H
            have c17b0 : decide (x9_3 < (x6_2.length : Int)) = false := decide_eq_false c17
            clear c17
            have H' := Aside0.mk H
            clear H
            go_wp2
            go_roundg k3
            case measure => have := HJ2.out; have := HK2.out; have := HK3.out; omega
            case rel => exact ⟨(x8_3), (wrap64 (x7_2 + 1)), (by first | rfl | (simp; done) | (simp [*]; done)), H', ⟨by have := HJ2.out; have := HK2.out; have := HK3.out; omega⟩, ⟨by (with_reducible repeat (first | apply Kd.R_alloc | apply Kd.R_drewN | apply Kd.R_drew)); exact Kd.R_mono HO_8.out (fun _ hk => trivial)⟩, ⟨GS.lB HB.out⟩⟩
        ·rw [if_neg c13] at H
         exact absurd H (by simp)
       ·rw [if_neg c12] at H
        exact absurd H (by simp)
      ·rw [if_neg c10] at H
       have c10b0 : decide (x7_2 ≤ a0) = false := decide_eq_false c10
       clear c10
       by_cases c28 : 0 ≤ a1
       ·rw [if_pos c28] at H
        have c28b0 := eq_true c28
        have c28b1 : decide (0 ≤ a1) = true := decide_eq_true c28
        clear c28
        by_cases c29 : a1 ≤ (x6_2.length : Int)
        ·rw [if_pos c29] at H
         have c29b0 := eq_true c29
         have c29b1 : decide (a1 ≤ (x6_2.length : Int)) = true := decide_eq_true c29
         clear c29
         obtain ⟨y468, hy468⟩ : ∃ y_ : List Int, y_ = (x6_2.drop (a1 : Int).toNat) := ⟨_, rfl⟩
         replace H : ((spileref33_total.f k2 y468).bind fun t472 => (some (t472, 0))) = some (r1, r2) := by first | (rw [hy468]; with_reducible exact H) | (have H2_ := (Option.bind_some _ _).symm.trans H; rw [hy468]; with_reducible exact H2_) | (have H2_ := (Option.bind_some _ _).symm.trans H; with_reducible exact H2_) | with_reducible exact H | (rw [hy468]; exact H) | exact H
         have Ny468 := Aside0.mk hy468
         clear hy468
         replace H := Option.bind_eq_some_iff.mp H
         obtain ⟨t472, A300, H⟩ := H
         replace H : (some (t472, 0)) = some (r1, r2) := H
         have A30 := Aside0.mk A300
         clear A300
         simp only [Option.some.injEq, Prod.mk.injEq] at H
         obtain ⟨rfl, rfl⟩ := H
         obtain ⟨Ao32, co32, eo32⟩ := Kd.R_slice HO_6.out
         subst eo32
         have q31 : (a1 : Int) ≤ ((x6_2.length : Int) : Int) := of_decide_eq_true (by first | (with_reducible assumption) | assumption)
         obtain ⟨i031, hi031, _, hsz31, _⟩ := info_parts info3
         have hroom31 : x6_2.length ≤ co32 := (Kd.R_reads' HO_6.out).2.1
         have hC31 : Kd.C (Kd.int .i64) _ Ao32 x6_2.length x6_2 := (Kd.R_reads' HO_6.out).2.2
         have q031 : (0 : Int) ≤ (a1 : Int) := of_decide_eq_true (by first | (with_reducible assumption) | assumption)
         have hcut31 := cut_from (P := Try.prog) 31 3 .i64 Try.underlying31 hi031 1 hsz31 Ao32 x6_2.length co32 a1 q031 q31
         have hr31 := Kd.C_drop (m := (a1 : Int).toNat) (c := co32) hC31 (by omega) hroom31
         obtain ⟨A31, hA31⟩ : ∃ A1, A1 = (if co32 = (a1 : Int).toNat then Ao32 else (Ao32 : Option Addr).map (·.add ((a1 : Int).toNat * 1))) := ⟨_, rfl⟩
         obtain ⟨c31, hc31⟩ : ∃ c1, c1 = co32 - (a1 : Int).toNat := ⟨_, rfl⟩
         have hy31 : y468.length = x6_2.length - (a1 : Int).toNat := (by rw [Ny468.out, List.length_drop] <;> omega)
         rw [show (x6_2).drop (a1 : Int).toNat = y468 from Ny468.out.symm] at hr31
         replace hr31 : Kd.C (Kd.int .i64) _ A31 y468.length y468 := (by rw [hA31]; exact hr31)
         rw [← hy31, ← hA31, ← hc31] at hcut31
         have HR471 := Aside0.mk hr31
         have HC471 := Aside0.mk (show y468.length ≤ c31 from by rw [hy31, hc31]; exact Nat.sub_le_sub_right hroom31 _)
         clear hr31 hC31 hroom31 hi031 hsz31 hc31
         have KY31 := Aside0.mk hy31
         have KA31 := Aside0.mk hA31
         clear hy31 hA31
         have KL31 := Aside0.mk (show (a1 : Int).toNat ≤ x6_2.length from by omega)
         replace q31 := eq_true q31
         go_wp2_with (first | ((with_reducible refine gqC (f := 65) rfl ?_); refine GS.gL (some 73) Try.func65 #[.slice A31 y468.length c31] ?_; (with_reducible refine (spileref33_total.calls k2 _ _ y468 t472 _ ?side1 ?side2 A30.out).mono ?_); (case side1 => repeat (first | exact (by repeat (first | (with_reducible exact HR471.out) | (with_reducible refine Kd.C_alloc ?_ _) | (with_reducible refine Kd.C_drewN ?_ _) | (with_reducible refine Kd.C_drew ?_) | exact HR471.out)) | (with_reducible refine Kd.C_alloc ?_ _) | (with_reducible refine Kd.C_drewN ?_ _) | (with_reducible refine Kd.C_drew ?_))); (case side2 => exact HC471.out); rintro e w' ⟨rfl, ⟨nd, rfl⟩⟩; refine ⟨_, rfl, ?_⟩))
         go_ret2
         exact ⟨by first | rfl | (simp [errW_none, errW_some] <;> rfl) | (simp [*, errW_none, errW_some] <;> rfl), GS.lB HB.out⟩
        ·rw [if_neg c29] at H
         exact absurd H (by simp)
       ·rw [if_neg c28] at H
        exact absurd H (by simp)

/-! ### spileref34_Trend: function 24 -/
def spileref34_Trend.f (k : Nat) (l0 : List (S30)) (a1 : Int) : Option (Int × Int × Int) := (spileref34_Of.f k l0 1 a1).bind fun bt479 => (if bt479.2.2 = 0 then (if (bt479.1.length : Int) > 20 then (some (0, 0, 8)) else ((spileref33_Rises.f k bt479.1).bind fun bt486 => ((spileref33_Orders.f k (bt479.1.length : Int) bt486.1).bind fun bt488 => ((spileref33_Orders.f k (bt479.1.length : Int) 0).bind fun bt490 => (some (bt488.1, bt490.1, 0)))))) else (some (0, 0, bt479.2.2)))
theorem spileref34_Trend.mono : ∀ a0 a1 k, LeO (spileref34_Trend.f k a0 a1) (spileref34_Trend.f (k + 1) a0 a1) := by
 intro a0 a1 k
 unfold spileref34_Trend.f
 repeat' first
   | (with_reducible exact spileref33_Orders.mono _ _ _)
   | (with_reducible exact spileref33_Rises.mono _ _)
   | (with_reducible exact spileref34_Of.mono _ _ _ _)
   | (with_reducible exact LeO.refl _)
   | (with_reducible exact LeO.none _)
   | (with_reducible refine LeO.ite ?_ ?_)
   | (with_reducible refine LeO.bind ?_ (fun _ => ?_))
   | exact spileref33_Orders.mono _ _ _
   | exact spileref33_Rises.mono _ _
   | exact spileref34_Of.mono _ _ _ _
   | exact LeO.none _
   | refine LeO.ite ?_ ?_
   | refine LeO.bind ?_ (fun _ => ?_)
set_option maxHeartbeats 8000000 in
set_option maxRecDepth 100000 in
theorem spileref34_Trend.calls (k : Nat) (A0 : Option Addr) (c0 : Nat) (l0 : List (S30)) (a1 : Int) (r1 : Int) (r2 : Int) (r3 : Int) (w : World) (hr0 : Kd.C k30 w A0 l0.length l0) (hc0 : l0.length ≤ c0) (h : spileref34_Trend.f k l0 a1 = some (r1, r2, r3)) :
  Calls Try.prog 24 #[.slice A0 l0.length c0, .int .i64 a1] w fun e w' => e = .returned (.tuple #[.int .i64 r1, .int .i64 r2, .int .i64 r3]) ∧ Below w.heap.size w w' := by
 have HR0 := Aside0.mk hr0
 have HC0 := Aside0.mk hc0
 clear hr0 hc0
 have HB := Aside0.mk (Below.refl w.heap.size w)
 have H : ((spileref34_Of.f k l0 1 a1).bind fun bt479 => (if bt479.2.2 = 0 then (if (bt479.1.length : Int) > 20 then (some (0, 0, 8)) else ((spileref33_Rises.f k bt479.1).bind fun bt486 => ((spileref33_Orders.f k (bt479.1.length : Int) bt486.1).bind fun bt488 => ((spileref33_Orders.f k (bt479.1.length : Int) 0).bind fun bt490 => (some (bt488.1, bt490.1, 0)))))) else (some (0, 0, bt479.2.2)))) = some (r1, r2, r3) := h
 clear h
 replace H := Option.bind_eq_some_iff.mp H
 obtain ⟨⟨t479, t480, t481⟩, A30, H⟩ := H
 replace H : (if t481 = 0 then (if (t479.length : Int) > 20 then (some (0, 0, 8)) else ((spileref33_Rises.f k t479).bind fun bt486 => ((spileref33_Orders.f k (t479.length : Int) bt486.1).bind fun bt488 => ((spileref33_Orders.f k (t479.length : Int) 0).bind fun bt490 => (some (bt488.1, bt490.1, 0)))))) else (some (0, 0, t481))) = some (r1, r2, r3) := H
 have A3 := Aside0.mk A30
 clear A30
 by_cases c4 : t481 = 0
 ·rw [if_pos c4] at H
  have c4b0 : (t481 == 0) = true := beq_iff_eq.mpr c4
  try simp only [beq_self_eq_true, Bool.not_true, Bool.false_or, Bool.true_and] at c4b0
  have c4b1 : (t481 != 0) = false := bne_eq_false_iff_eq.mpr c4
  clear c4
  by_cases c5 : (t479.length : Int) > 20
  ·rw [if_pos c5] at H
   have c5b0 : decide (20 < (t479.length : Int)) = true := decide_eq_true c5
   have c5b1 : decide (20 < t479.length) = true := decide_eq_true (by omega)
   clear c5
   simp only [Option.some.injEq, Prod.mk.injEq] at H
   obtain ⟨rfl, rfl, rfl⟩ := H
   go_enter Try.func24, Try.ntmps24
   go_wp2_with (first | ((with_reducible refine gqC (f := 16) rfl ?_); refine GS.gL (some 19) Try.func16 #[.slice A0 l0.length c0, .int .i64 1, .int .i64 a1] ?_; (with_reducible refine (spileref34_Of.calls k _ _ l0 1 a1 t479 t480 t481 _ ?side1 ?side2 A3.out).mono ?_); (case side1 => exact GS.rC HR0.out); (case side2 => exact HC0.out); rintro e w6 ⟨v482, v484, rfl, ho0, ho1, hb⟩; refine ⟨_, rfl, ?_⟩; have n0_ := Aside0.mk (Kd.R_lower ho0 (lqZ (GS.lB HB.out))); have n1_ := Aside0.mk (Kd.R_lower ho1 (lqZ (GS.lB HB.out))); have n2_ := Aside0.mk (lqT (GS.lB HB.out) hb); clear HB; have HO483 := n0_; have HO485 := n1_; have HB := n2_; clear n0_ n1_ n2_; (try clear hb); (try clear hb2); (try clear hk); (try clear hi); (try clear ho0); (try clear ho1); obtain ⟨Ao7, co7, eo7⟩ := Kd.R_slice HO483.out; subst eo7))
   go_ret3
   exact ⟨by first | rfl | (simp [errW_none, errW_some] <;> rfl) | (simp [*, errW_none, errW_some] <;> rfl), GS.lB HB.out⟩
  ·rw [if_neg c5] at H
   have c5b0 : decide (20 < (t479.length : Int)) = false := decide_eq_false c5
   have c5b1 : decide (20 < t479.length) = false := decide_eq_false (by omega)
   clear c5
   replace H := Option.bind_eq_some_iff.mp H
   obtain ⟨⟨t486, t487⟩, A80, H⟩ := H
   replace H : ((spileref33_Orders.f k (t479.length : Int) t486).bind fun bt488 => ((spileref33_Orders.f k (t479.length : Int) 0).bind fun bt490 => (some (bt488.1, bt490.1, 0)))) = some (r1, r2, r3) := H
   have A8 := Aside0.mk A80
   clear A80
   replace H := Option.bind_eq_some_iff.mp H
   obtain ⟨⟨t488, t489⟩, A90, H⟩ := H
   replace H : ((spileref33_Orders.f k (t479.length : Int) 0).bind fun bt490 => (some (t488, bt490.1, 0))) = some (r1, r2, r3) := H
   have A9 := Aside0.mk A90
   clear A90
   replace H := Option.bind_eq_some_iff.mp H
   obtain ⟨⟨t490, t491⟩, A100, H⟩ := H
   replace H : (some (t488, t490, 0)) = some (r1, r2, r3) := H
   have A10 := Aside0.mk A100
   clear A100
   simp only [Option.some.injEq, Prod.mk.injEq] at H
   obtain ⟨rfl, rfl, rfl⟩ := H
   go_enter Try.func24, Try.ntmps24
   go_wp2_with (first | ((with_reducible refine gqC (f := 16) rfl ?_); refine GS.gL (some 19) Try.func16 #[.slice A0 l0.length c0, .int .i64 1, .int .i64 a1] ?_; (with_reducible refine (spileref34_Of.calls k _ _ l0 1 a1 t479 t480 t481 _ ?side1 ?side2 A3.out).mono ?_); (case side1 => exact GS.rC HR0.out); (case side2 => exact HC0.out); rintro e w11 ⟨v482, v484, rfl, ho0, ho1, hb⟩; refine ⟨_, rfl, ?_⟩; have n0_ := Aside0.mk (Kd.R_lower ho0 (lqZ (GS.lB HB.out))); have n1_ := Aside0.mk (Kd.R_lower ho1 (lqZ (GS.lB HB.out))); have n2_ := Aside0.mk (lqT (GS.lB HB.out) hb); clear HB; have HO483 := n0_; have HO485 := n1_; have HB := n2_; clear n0_ n1_ n2_; (try clear hb); (try clear hb2); (try clear hk); (try clear hi); (try clear ho0); (try clear ho1); obtain ⟨Ao12, co12, eo12⟩ := Kd.R_slice HO483.out; subst eo12) | ((with_reducible refine gqC (f := 49) rfl ?_); refine GS.gL (some 31) Try.func49 #[.slice Ao12 t479.length co12] ?_; (with_reducible refine (spileref33_Rises.calls k _ _ t479 t486 t487 _ ?side1 ?side2 A8.out).mono ?_); (case side1 => repeat (first | exact (Kd.R_reads' HO483.out).2.2 | (with_reducible refine Kd.C_alloc ?_ _) | (with_reducible refine Kd.C_drewN ?_ _) | (with_reducible refine Kd.C_drew ?_))); (case side2 => exact (Kd.R_reads' HO483.out).2.1); rintro e w' ⟨rfl, ⟨nd, rfl⟩⟩; refine ⟨_, rfl, ?_⟩) | ((with_reducible refine gqC (f := 50) rfl ?_); refine GS.gL (some 38) Try.func50 #[.int .i64 (t479.length : Int), .int .i64 t486] ?_; (with_reducible refine (spileref33_Orders.calls k (t479.length : Int) t486 t488 t489 _ A9.out).mono ?_); rintro e w13 ⟨rfl, hb⟩; refine ⟨_, rfl, ?_⟩; have n0_ := Aside0.mk (Kd.R_below (GS.rR HO483.out) hb); have n1_ := Aside0.mk (Kd.R_below (GS.rR HO485.out) hb); have n2_ := Aside0.mk (lqT (GS.lB HB.out) hb); clear HO483; clear HO485; clear HB; have HO483 := n0_; have HO485 := n1_; have HB := n2_; clear n0_ n1_ n2_; (try clear hb); (try clear hb2); (try clear hk); (try clear hi)) | ((with_reducible refine gqC (f := 50) rfl ?_); refine GS.gL (some 44) Try.func50 #[.int .i64 (t479.length : Int), .int .i64 0] ?_; (with_reducible refine (spileref33_Orders.calls k (t479.length : Int) 0 t490 t491 _ A10.out).mono ?_); rintro e w14 ⟨rfl, hb⟩; refine ⟨_, rfl, ?_⟩; have n0_ := Aside0.mk (Kd.R_below (GS.rR HO483.out) hb); have n1_ := Aside0.mk (Kd.R_below (GS.rR HO485.out) hb); have n2_ := Aside0.mk (lqT (GS.lB HB.out) hb); clear HO483; clear HO485; clear HB; have HO483 := n0_; have HO485 := n1_; have HB := n2_; clear n0_ n1_ n2_; (try clear hb); (try clear hb2); (try clear hk); (try clear hi)))
   go_ret3
   exact ⟨by first | rfl | (simp [errW_none, errW_some] <;> rfl) | (simp [*, errW_none, errW_some] <;> rfl), GS.lB HB.out⟩
 ·rw [if_neg c4] at H
  have c4b0 : (t481 == 0) = false := beq_eq_false_iff_ne.mpr c4
  try simp only [beq_self_eq_true, Bool.not_true, Bool.false_or, Bool.true_and] at c4b0
  have c4b1 : (t481 != 0) = true := bne_iff_ne.mpr c4
  simp only [Option.some.injEq, Prod.mk.injEq] at H
  obtain ⟨rfl, rfl, rfl⟩ := H
  go_enter Try.func24, Try.ntmps24
  go_wp2_with (first | ((with_reducible refine gqC (f := 16) rfl ?_); refine GS.gL (some 19) Try.func16 #[.slice A0 l0.length c0, .int .i64 1, .int .i64 a1] ?_; (with_reducible refine (spileref34_Of.calls k _ _ l0 1 a1 t479 t480 t481 _ ?side1 ?side2 A3.out).mono ?_); (case side1 => exact GS.rC HR0.out); (case side2 => exact HC0.out); rintro e w15 ⟨v482, v484, rfl, ho0, ho1, hb⟩; refine ⟨_, rfl, ?_⟩; have n0_ := Aside0.mk (Kd.R_lower ho0 (lqZ (GS.lB HB.out))); have n1_ := Aside0.mk (Kd.R_lower ho1 (lqZ (GS.lB HB.out))); have n2_ := Aside0.mk (lqT (GS.lB HB.out) hb); clear HB; have HO483 := n0_; have HO485 := n1_; have HB := n2_; clear n0_ n1_ n2_; (try clear hb); (try clear hb2); (try clear hk); (try clear hi); (try clear ho0); (try clear ho1)))
  go_ret3
  exact ⟨by first | rfl | (simp [errW_none, errW_some] <;> rfl) | (simp [*, errW_none, errW_some] <;> rfl), GS.lB HB.out⟩

end Go.Proofs.Ytfhmjleimampeaa.K
