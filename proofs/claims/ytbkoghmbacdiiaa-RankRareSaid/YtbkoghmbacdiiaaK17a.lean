-- PRINTED by print.py (a twelfth state) out of the translation. Not trusted: Lean checks it.
import Derived.Test.YtbkoghmbacdiiaaK0
namespace Go.Proofs.Ytbkoghmbacdiiaa.K
open Go.RowKit Go.Proofs.YtbkoghmbacdiiaaW.PrintWords Go.Proofs.YtbkoghmbacdiiaaW.PrintLast Go.Proofs.YtbkoghmbacdiiaaW.PrintMore
attribute [local go_sem] max2_int min2_int max_two min_two max_three min_three max_four min_four   -- for this text's walks alone
set_option linter.unusedVariables false
set_option linter.unusedSimpArgs false

/-! ### rank_Ways: function 27 -/
mutual
def rank_Ways.j0 : Nat → Int → Int → Bool → Option (Int × Int)
 | 0, _, _, _ => none
 | k + 1, x0, x1, x23 => if x23 = true then (some (0, 2)) else (if 0 ≤ (wrap64 (x0 + 1)) then (if (wrap64 (x0 + 1) : Int).toNat ≤ 35184372088832 then ((some (List.replicate (wrap64 (x0 + 1) : Int).toNat 0 : List Int)).bind fun y470 => (if 0 < (y470.length : Int) then (rank_Ways.l0 k x1 (y470.set (0 : Int).toNat 1) x0 0) else (none))) else (none)) else (none))
def rank_Ways.l0 : Nat → Int → List Int → Int → Int → Option (Int × Int)
 | 0, _, _, _, _ => none
 | k + 1, x1, x6, x29, x30 => if x30 < x29 then (rank_Ways.l1 k x1 x6 (wrap64 (x30 + 1)) x29 x30) else (if 0 ≤ x1 then (if x1 < (x6.length : Int) then (some (rd x6 x1, 0)) else (none)) else (none))
def rank_Ways.l1 : Nat → Int → List Int → Int → Int → Int → Option (Int × Int)
 | 0, _, _, _, _, _ => none
 | k + 1, x1, x6, x8, x29, x30 => if x8 > 0 then (if 0 ≤ x8 then (if x8 < (x6.length : Int) then (if 0 ≤ (wrap64 (x8 - 1)) then (if (wrap64 (x8 - 1)) < (x6.length : Int) then (rank_Ways.l1 k x1 (x6.set (x8 : Int).toNat (wrap64 ((rd x6 x8) + (rd x6 (wrap64 (x8 - 1)))))) (wrap64 (x8 - 1)) x29 x30) else (none)) else (none)) else (none)) else (none)) else (rank_Ways.l0 k x1 x6 x29 (wrap64 (x30 + 1)))
end
def rank_Ways.f (k : Nat) (a0 : Int) (a1 : Int) : Option (Int × Int) := if a0 < 0 then (rank_Ways.j0 k a0 a1 true) else (if a0 > 60 then (rank_Ways.j0 k a0 a1 true) else (if a1 < 0 then (rank_Ways.j0 k a0 a1 true) else (rank_Ways.j0 k a0 a1 (decide (a1 > a0)))))
theorem rank_Ways.mono_l : ∀ k, (∀ y0 y1 y2, LeO (rank_Ways.j0 k y0 y1 y2) (rank_Ways.j0 (k + 1) y0 y1 y2)) ∧ (∀ y0 y1 y2 y3, LeO (rank_Ways.l0 k y0 y1 y2 y3) (rank_Ways.l0 (k + 1) y0 y1 y2 y3)) ∧ (∀ y0 y1 y2 y3 y4, LeO (rank_Ways.l1 k y0 y1 y2 y3 y4) (rank_Ways.l1 (k + 1) y0 y1 y2 y3 y4))
 | 0 => ⟨fun _ _ _ r h => by simp [rank_Ways.j0] at h, fun _ _ _ _ r h => by simp [rank_Ways.l0] at h, fun _ _ _ _ _ r h => by simp [rank_Ways.l1] at h⟩
 | k + 1 => by
  obtain ⟨ih0, ih1, ih2⟩ := rank_Ways.mono_l k
  refine ⟨?_, ?_, ?_⟩
  ·intro y0 y1 y2
   unfold rank_Ways.j0
   repeat' first
   | (with_reducible exact ih0 _ _ _)
   | (with_reducible exact ih1 _ _ _ _)
   | (with_reducible exact ih2 _ _ _ _ _)
   | (with_reducible exact LeO.refl _)
   | (with_reducible exact LeO.none _)
   | (with_reducible refine LeO.ite ?_ ?_)
   | (with_reducible refine LeO.bind ?_ (fun _ => ?_))
   | exact ih0 _ _ _
   | exact ih1 _ _ _ _
   | exact ih2 _ _ _ _ _
   | exact LeO.none _
   | refine LeO.ite ?_ ?_
   | refine LeO.bind ?_ (fun _ => ?_)
  ·intro y0 y1 y2 y3
   unfold rank_Ways.l0
   repeat' first
   | (with_reducible exact ih0 _ _ _)
   | (with_reducible exact ih1 _ _ _ _)
   | (with_reducible exact ih2 _ _ _ _ _)
   | (with_reducible exact LeO.refl _)
   | (with_reducible exact LeO.none _)
   | (with_reducible refine LeO.ite ?_ ?_)
   | (with_reducible refine LeO.bind ?_ (fun _ => ?_))
   | exact ih0 _ _ _
   | exact ih1 _ _ _ _
   | exact ih2 _ _ _ _ _
   | exact LeO.none _
   | refine LeO.ite ?_ ?_
   | refine LeO.bind ?_ (fun _ => ?_)
  ·intro y0 y1 y2 y3 y4
   unfold rank_Ways.l1
   repeat' first
   | (with_reducible exact ih0 _ _ _)
   | (with_reducible exact ih1 _ _ _ _)
   | (with_reducible exact ih2 _ _ _ _ _)
   | (with_reducible exact LeO.refl _)
   | (with_reducible exact LeO.none _)
   | (with_reducible refine LeO.ite ?_ ?_)
   | (with_reducible refine LeO.bind ?_ (fun _ => ?_))
   | exact ih0 _ _ _
   | exact ih1 _ _ _ _
   | exact ih2 _ _ _ _ _
   | exact LeO.none _
   | refine LeO.ite ?_ ?_
   | refine LeO.bind ?_ (fun _ => ?_)
theorem rank_Ways.mono : ∀ a0 a1 k, LeO (rank_Ways.f k a0 a1) (rank_Ways.f (k + 1) a0 a1) := by
 intro a0 a1 k
 obtain ⟨ih0, ih1, ih2⟩ := rank_Ways.mono_l k
 unfold rank_Ways.f
 repeat' first
   | (with_reducible exact ih0 _ _ _)
   | (with_reducible exact ih1 _ _ _ _)
   | (with_reducible exact ih2 _ _ _ _ _)
   | (with_reducible exact LeO.refl _)
   | (with_reducible exact LeO.none _)
   | (with_reducible refine LeO.ite ?_ ?_)
   | (with_reducible refine LeO.bind ?_ (fun _ => ?_))
   | exact ih0 _ _ _
   | exact ih1 _ _ _ _
   | exact ih2 _ _ _ _ _
   | exact LeO.none _
   | refine LeO.ite ?_ ?_
   | refine LeO.bind ?_ (fun _ => ?_)
def rank_Ways.T11 : Bool × List (List Nat × List Nat) := (true, [([], []), ([], []), ([0, 1], [0, 1]), ([2], [2]), ([], []), ([], []), ([5], [5]), ([4, 6], [4, 6]), ([7], [7]), ([3, 8], [3, 8]), ([0, 1, 0, 1, 2, 3, 4, 5, 6, 7, 8, 9], [0, 1]), ([10, 9, 0, 1, 2, 3, 4, 5, 6, 7, 8, 9], [9, 10])])
def rank_Ways.B11 : List Nat := [0, 0, 3, 7, 0, 0, 32, 112, 240, 511, 1023, 2047]
theorem rank_Ways.tab11 : rtab .any (opsOf Try.f27 11) = rank_Ways.T11 := by kernel_rfl
theorem rank_Ways.bits11 : waitsOk rank_Ways.T11.2 rank_Ways.B11 = true := by kernel_rfl
set_option maxHeartbeats 8000000 in
set_option maxRecDepth 100000 in
theorem rank_Ways.calls (k : Nat) (a0 : Int) (a1 : Int) (r1 : Int) (r2 : Int) (w : World) (h : rank_Ways.f k a0 a1 = some (r1, r2)) :
  Calls Try.prog 27 #[.int .i64 a0, .int .i64 a1] w fun e w' => e = .returned (.tuple #[.int .i64 r1, .int .i64 r2]) ∧ Below w.heap.size w w' := by
 have HB := Aside0.mk (Below.refl w.heap.size w)
 have H : (if a0 < 0 then (rank_Ways.j0 k a0 a1 true) else (if a0 > 60 then (rank_Ways.j0 k a0 a1 true) else (if a1 < 0 then (rank_Ways.j0 k a0 a1 true) else (rank_Ways.j0 k a0 a1 (decide (a1 > a0)))))) = some (r1, r2) := h
 clear h
 have HC3 := Aside0.mk H
 clear H
 go_enter Try.func27, Try.ntmps27
 go_upto_region 1 with (fail)
 go_cut [23] (fun v23 wc => ∃ (kq : Nat) (x23_2 : Bool), v23 = .bool x23_2 ∧ Aside0 (rank_Ways.j0 kq a0 a1 x23_2 = some (r1, r2)) ∧ Aside0 (kq ≤ k) ∧ Aside0 (Below w.heap.size w wc))
 case first =>
  have H := HC3.out
  clear HC3
  by_cases c4 : a0 < 0
  ·rw [if_pos c4] at H
   have c4b0 : decide (a0 < 0) = true := decide_eq_true c4
   clear c4
   (first | rw [c4b0] | (simp only [i64_w, i32_w]; rw [c4b0]) | skip)
   have H' := Aside0.mk H
   clear H
   go_wp2
   go_meet
   case rel => exact ⟨_, (true), (by first | rfl | (simp; done) | (simp [*]; done)), H', ⟨by first | omega | exact Nat.le_refl _⟩, ⟨by repeat (first | (with_reducible first | exact HB.out | apply lqA | apply lqN | apply lqD) | exact HB.out)⟩⟩
  ·rw [if_neg c4] at H
   have c4b0 : decide (a0 < 0) = false := decide_eq_false c4
   clear c4
   (first | rw [c4b0] | (simp only [i64_w, i32_w]; rw [c4b0]) | skip)
   by_cases c5 : a0 > 60
   ·rw [if_pos c5] at H
    have c5b0 : decide (60 < a0) = true := decide_eq_true c5
    clear c5
    have H' := Aside0.mk H
    clear H
    go_wp2
    go_meet
    case rel => exact ⟨_, (true), (by first | rfl | (simp; done) | (simp [*]; done)), H', ⟨by first | omega | exact Nat.le_refl _⟩, ⟨by repeat (first | (with_reducible first | exact HB.out | apply lqA | apply lqN | apply lqD) | exact HB.out)⟩⟩
   ·rw [if_neg c5] at H
    have c5b0 : decide (60 < a0) = false := decide_eq_false c5
    clear c5
    by_cases c6 : a1 < 0
    ·rw [if_pos c6] at H
     have c6b0 : decide (a1 < 0) = true := decide_eq_true c6
     clear c6
     have H' := Aside0.mk H
     clear H
     go_wp2
     go_meet
     case rel => exact ⟨_, (true), (by first | rfl | (simp; done) | (simp [*]; done)), H', ⟨by first | omega | exact Nat.le_refl _⟩, ⟨by repeat (first | (with_reducible first | exact HB.out | apply lqA | apply lqN | apply lqD) | exact HB.out)⟩⟩
    ·rw [if_neg c6] at H
     have c6b0 : decide (a1 < 0) = false := decide_eq_false c6
     clear c6
     have H' := Aside0.mk H
     clear H
     go_wp2
     go_meet
     case rel => exact ⟨_, (decide (a1 > a0)), (by first | rfl | (simp; done) | (simp [*]; done)), H', ⟨by first | omega | exact Nat.le_refl _⟩, ⟨by repeat (first | (with_reducible first | exact HB.out | apply lqA | apply lqN | apply lqD) | exact HB.out)⟩⟩
 case rest =>
  clear HC3
  try clear c2
  try clear p2
  try clear c4
  try clear c4b0
  try clear c5
  try clear c5b0
  try clear c6
  try clear c6b0
  obtain ⟨kq, x23_2, rfl, HA, HJ2, HB⟩ := hcut
  cases kq with
  | zero => exact absurd HA.out (by simp [rank_Ways.j0])
  | succ kj2 =>
   have H := HA.out
   clear HA
   simp only [rank_Ways.j0] at H
   by_cases c7 : x23_2 = true
   ·subst c7
    have H1 : (some (0, 2)) = some (r1, r2) := by rw [if_pos rfl] at H; exact H
    clear H
    have H := H1
    clear H1
    simp only [Option.some.injEq, Prod.mk.injEq] at H
    obtain ⟨rfl, rfl⟩ := H
    go_wp2
    go_ret2
    exact ⟨by first | rfl | (simp [errW_none, errW_some] <;> rfl) | (simp [*, errW_none, errW_some] <;> rfl), by repeat (first | (with_reducible first | exact HB.out | apply lqA | apply lqN | apply lqD) | exact HB.out)⟩
   ·replace c7 := Bool.eq_false_iff.mpr c7
    subst c7
    have H1 : (if 0 ≤ (wrap64 (a0 + 1)) then (if (wrap64 (a0 + 1) : Int).toNat ≤ 35184372088832 then ((some (List.replicate (wrap64 (a0 + 1) : Int).toNat 0 : List Int)).bind fun y470 => (if 0 < (y470.length : Int) then (rank_Ways.l0 kj2 a1 (y470.set (0 : Int).toNat 1) a0 0) else (none))) else (none)) else (none)) = some (r1, r2) := by rw [if_neg (show ¬ (false = true) by decide)] at H; exact H
    clear H
    have H := H1
    clear H1
    obtain ⟨ji8, hji8⟩ : ∃ j_ : Int, (wrap64 (a0 + 1)) = j_ := ⟨_, rfl⟩
    replace H : (if 0 ≤ (ji8) then (if (ji8 : Int).toNat ≤ 35184372088832 then ((some (List.replicate (ji8 : Int).toNat 0 : List Int)).bind fun y470 => (if 0 < (y470.length : Int) then (rank_Ways.l0 kj2 a1 (y470.set (0 : Int).toNat 1) a0 0) else (none))) else (none)) else (none)) = some (r1, r2) := by first | (rw [hji8] at H; exact H) | (simp only [hji8] at H ⊢; exact H)
    have hji8w : (IntKind.i64.wrap (a0 + 1)) = ji8 := (i64_w _).trans hji8
    by_cases c9 : 0 ≤ (ji8)
    ·rw [if_pos c9] at H
     have c9b0 := eq_true c9
     have c9b1 : decide (0 ≤ (ji8)) = true := decide_eq_true c9
     clear c9
     by_cases c10 : (ji8 : Int).toNat ≤ 35184372088832
     ·rw [if_pos c10] at H
      have c10b0 := eq_true c10
      have c10b1 : decide ((ji8 : Int).toNat ≤ 35184372088832) = true := decide_eq_true c10
      clear c10
      obtain ⟨y470, hy470⟩ : ∃ y_ : List Int, y_ = (List.replicate (ji8 : Int).toNat 0) := ⟨_, rfl⟩
      replace H : (if 0 < (y470.length : Int) then (rank_Ways.l0 kj2 a1 (y470.set (0 : Int).toNat 1) a0 0) else (none)) = some (r1, r2) := by first | (rw [hy470]; with_reducible exact H) | (have H2_ := (Option.bind_some _ _).symm.trans H; rw [hy470]; with_reducible exact H2_) | (have H2_ := (Option.bind_some _ _).symm.trans H; with_reducible exact H2_) | with_reducible exact H | (rw [hy470]; exact H) | exact H
      have Ny470 := Aside0.mk hy470
      clear hy470
      by_cases c11 : 0 < (y470.length : Int)
      ·rw [if_pos c11] at H
       have c11b0 : decide (0 < (y470.length : Int)) = true := decide_eq_true c11
       have c11b1 : decide (0 < y470.length) = true := decide_eq_true (by omega)
       clear c11
       obtain ⟨y473, hy473⟩ : ∃ y_ : List Int, y_ = (y470.set (0 : Int).toNat 1) := ⟨_, rfl⟩
       replace H : (rank_Ways.l0 kj2 a1 y473 a0 0) = some (r1, r2) := by first | (rw [hy473]; with_reducible exact H) | (have H2_ := (Option.bind_some _ _).symm.trans H; rw [hy473]; with_reducible exact H2_) | (have H2_ := (Option.bind_some _ _).symm.trans H; with_reducible exact H2_) | with_reducible exact H | (rw [hy473]; exact H) | exact H
       have Ny473 := Aside0.mk hy473
       clear hy473
       have H' := Aside0.mk H
       clear H
       go_wp2_with (first | ((with_reducible refine gqD (N := 26) rfl ?_); refine Kd.R_make (Kd.int .i64) _ 3 rfl (N := 26) rfl 27 _ _ rfl ji8 rfl rfl Try.underlying27 (.int .i64 0) 8 info3 rfl (by decide) (by omega) 0 (ok := fun _ => True) (okp := fun _ => True) rfl (fun _ hk => hk) trivial (of_decide_eq_true (by first | (with_reducible assumption) | assumption)) (Nat.le_trans (Nat.mul_le_mul_right _ (of_decide_eq_true (by first | (with_reducible assumption) | assumption) : ji8.toNat ≤ 35184372088832)) (by omega)) (Below.refl _ _) (Nat.le_refl _) ?_; intro v471 w13 ho14 hb hg_ hnew_; clear hg_ hnew_; (first | rw [← Ny470.out] at ho14 | (simp only [Int.reduceToNat] at ho14; rw [← Ny470.out] at ho14)); have n0_ := Aside0.mk (Kd.R_lower ho14 (lqZ (by repeat (first | (with_reducible first | exact HB.out | apply lqA | apply lqN | apply lqD) | exact HB.out)))); have n1_ := Aside0.mk (lqT (by repeat (first | (with_reducible first | exact HB.out | apply lqA | apply lqN | apply lqD) | exact HB.out)) hb); clear HB; have HO472 := n0_; have HB := n1_; clear n0_ n1_; clear hb ho14; have p12 : 0 ≤ (0 : Int) := (by omega); have q12 : (0 : Int) < ((y470.length : Int) : Int) := of_decide_eq_true (by first | (with_reducible assumption) | assumption); have qi12 : (0 < y470.length) = True := eq_true (by omega); obtain ⟨go12, co12, eo12, gb12, gl12, cl12, HG12⟩ := Kd.R_form HO472.out (by omega); (first | cases eo12 | (injection eo12 with ea_ en_ ec_; (first | subst ea_ | (injection ea_ with ea_; subst ea_)); subst ec_; clear en_)); have GB12 := Aside0.mk gb12; have GG12 := Aside0.mk HG12; clear gb12 gl12 HG12; obtain ⟨hx12_0, hf12_0⟩ := Kd.R_celln 0 HO472.out (0 : Int) p12 q12; (try rw [show ((0 : Int)).toNat = 0 from rfl] at hx12_0); (try simp only [Nat.reduceMul, Nat.zero_mul, Nat.zero_add, Nat.reduceAdd] at hx12_0); (try rw [show ((0 : Int)).toNat = 0 from rfl] at hf12_0); (try simp only [Nat.reduceMul, Nat.zero_mul, Nat.zero_add, Nat.reduceAdd] at hf12_0); replace p12 := eq_true p12; replace q12 := eq_true q12; obtain ⟨hy15_, hz15_⟩ := Kd.R_celln 0 HO472.out (0 : Int) (by omega) (of_decide_eq_true (by first | (with_reducible assumption) | assumption)); (try simp only [Int.reduceToNat, Int.toNat_zero, Int.toNat_ofNat, Nat.reduceMul, Nat.zero_mul, Nat.zero_add] at hy15_ hz15_); (try rw [show ((0 : Int)).toNat = 0 from rfl] at hy15_); (try rw [show ((0 : Int)).toNat = 0 from rfl] at hz15_); have HP15 := Kd.R_putg HO472.out (0 : Int) 1) | ((with_reducible refine gate_store (t := 3) (p := 28) rfl ?_); refine store_event (t := 3) (p := 28) (v := ?vo_w16) (w1 := (w13.setCell ⟨go12, (0 : Int).toNat, none⟩ (.int .i64 1))) ?hg ?ho ?hn ?hr ?_; (case ho => rfl); (case hg => rfl); (case hn => rfl); (case hr => first | (go_simp; done) | (go_simp; rfl)); intro w16 hw; have hg : w13.grownBy w16 (some go12) := (by rw [hw]; exact HP15.2); have hp_ : Kd.R (Kd.int .i64) 3 w16 w.heap.size (fun _ => True) (.slice (some ⟨go12, 0, none⟩) y470.length co12) y473 := (by rw [hw, Ny473.out]; exact HP15.1); clear HP15; have n0_ := Aside0.mk (hp_); have n1_ := Aside0.mk ((by rw [hw]; exact lqS (HB.out) GB12.out : Below w.heap.size w w16)); clear HO472; clear HB; have HO472 := n0_; have HB := n1_; clear n0_ n1_; clear hg hw hp_))
       go_loopg [30] kj2 (fun kq v30 w' => ∃ (x6_2 : List Int) (x30_2 : Int), v30 = .int .i64 x30_2 ∧ Aside0 (rank_Ways.l0 kq a1 x6_2 a0 x30_2 = some (r1, r2)) ∧ Aside0 (kq ≤ kj2) ∧ Aside0 (Kd.R (Kd.int .i64) 3 w' w.heap.size (fun _ => True) (.slice (some ⟨go12, 0, none⟩) y470.length co12) x6_2) ∧ Aside0 (Below w.heap.size w w'))
       case atStart => exact ⟨(y473), (0), (by first | rfl | (simp; done) | (simp [*]; done)), H', ⟨Nat.le_refl _⟩, ⟨by (with_reducible repeat (first | apply Kd.R_alloc | apply Kd.R_drewN | apply Kd.R_drew)); exact HO472.out⟩, ⟨by repeat (first | (with_reducible first | exact HB.out | apply lqA | apply lqN | apply lqD) | exact HB.out)⟩⟩
       case round =>
        clear H'
        try clear c1
        try clear p1
        try clear q1
        try clear hx1
        try clear qi1
        try clear c2
        try clear p2
        try clear c4
        try clear c4b0
        try clear c5
        try clear c5b0
        try clear c6
        try clear c6b0
        try clear p6
        try clear c7
        try clear c9
        try clear c9b0
        try clear c9b1
        try clear c10
        try clear c10b0
        try clear c10b1
        try clear c11
        try clear c11b0
        try clear c11b1
        try clear p12
        try clear q12
        try clear hx12
        try clear qi12
        try clear hf12
        try clear hx12_0
        try clear p12
        try clear p2
        try clear q12
        obtain ⟨x6_2, x30_2, rfl, HA, HK2, HO_6, HB⟩ := hrel
        have hl6_2 := (Kd.R_reads' HO_6.out).1
        rw [hl6_2] at HO_6
        (try simp only [hl6_2])
        cases gk with
        | zero => exact absurd HA.out (by simp [rank_Ways.l0])
        | succ k2 =>
         have H := HA.out
         clear HA
         simp only [rank_Ways.l0] at H
         by_cases c17 : x30_2 < a0
         ·rw [if_pos c17] at H
          have c17b0 : decide (x30_2 < a0) = true := decide_eq_true c17
          clear c17
          have H' := Aside0.mk H
          clear H
          go_wp2
          go_loopg [8] k2 (fun kq v8 w' => ∃ (x6_3 : List Int) (x8_3 : Int), v8 = .int .i64 x8_3 ∧ Aside0 (rank_Ways.l1 kq a1 x6_3 x8_3 a0 x30_2 = some (r1, r2)) ∧ Aside0 (kq ≤ k2) ∧ Aside0 (Kd.R (Kd.int .i64) 3 w' w.heap.size (fun _ => True) (.slice (some ⟨go12, 0, none⟩) x6_2.length co12) x6_3) ∧ Aside0 (Below w.heap.size w w'))
          case atStart => exact ⟨(x6_2), (wrap64 (x30_2 + 1)), (by first | rfl | (simp; done) | (simp [*]; done)), H', ⟨Nat.le_refl _⟩, ⟨by (try simp only [hl6_2]); (with_reducible repeat (first | apply Kd.R_alloc | apply Kd.R_drewN | apply Kd.R_drew)); exact HO_6.out⟩, ⟨by repeat (first | (with_reducible first | exact HB.out | apply lqA | apply lqN | apply lqD) | exact HB.out)⟩⟩
          case round =>
           clear H'
           try clear c1
           try clear p1
           try clear q1
           try clear hx1
           try clear qi1
           try clear c2
           try clear p2
           try clear c4
           try clear c4b0
           try clear c5
           try clear c5b0
           try clear c6
           try clear c6b0
           try clear p6
           try clear c7
           try clear c9
           try clear c9b0
           try clear c9b1
           try clear c10
           try clear c10b0
           try clear c10b1
           try clear c11
           try clear c11b0
           try clear c11b1
           try clear p12
           try clear q12
           try clear hx12
           try clear qi12
           try clear hf12
           try clear c17
           try clear c17b0
           try clear hx12_0
           try clear p1
           try clear p12
           try clear p2
           try clear p6
           try clear q1
           try clear q12
           obtain ⟨x6_3, x8_3, rfl, HA, HK3, HO_6, HB⟩ := hrel
           have hl6_3 := (Kd.R_reads' HO_6.out).1
           rw [hl6_3] at HO_6
           (try simp only [hl6_3])
           cases gk with
           | zero => exact absurd HA.out (by simp [rank_Ways.l1])
           | succ k3 =>
            have H := HA.out
            clear HA
            simp only [rank_Ways.l1] at H
            by_cases c18 : x8_3 > 0
            ·rw [if_pos c18] at H
             have c18b0 : decide (0 < x8_3) = true := decide_eq_true c18
             clear c18
             by_cases c19 : 0 ≤ x8_3
             ·rw [if_pos c19] at H
              have c19b0 : decide (0 ≤ x8_3) = true := decide_eq_true c19
              clear c19
              by_cases c20 : x8_3 < (x6_3.length : Int)
              ·rw [if_pos c20] at H
               have c20b0 : decide (x8_3 < (x6_3.length : Int)) = true := decide_eq_true c20
               clear c20
               obtain ⟨ji21, hji21⟩ : ∃ j_ : Int, (wrap64 (x8_3 - 1)) = j_ := ⟨_, rfl⟩
               replace H : (if 0 ≤ (ji21) then (if (ji21) < (x6_3.length : Int) then (rank_Ways.l1 k3 a1 (x6_3.set (x8_3 : Int).toNat (wrap64 ((rd x6_3 x8_3) + (rd x6_3 (ji21))))) ji21 a0 x30_2) else (none)) else (none)) = some (r1, r2) := by first | (rw [hji21] at H; exact H) | (simp only [hji21] at H ⊢; exact H)
               have hji21w : (IntKind.i64.wrap (x8_3 - 1)) = ji21 := (i64_w _).trans hji21
               by_cases c22 : 0 ≤ (ji21)
               ·rw [if_pos c22] at H
                have c22b0 : decide (0 ≤ (ji21)) = true := decide_eq_true c22
                clear c22
                by_cases c23 : (ji21) < (x6_3.length : Int)
                ·rw [if_pos c23] at H
                 have c23b0 : decide ((ji21) < (x6_3.length : Int)) = true := decide_eq_true c23
                 clear c23
                 obtain ⟨y477, hy477⟩ : ∃ y_ : List Int, y_ = (x6_3.set (x8_3 : Int).toNat (wrap64 ((rd x6_3 x8_3) + (rd x6_3 (ji21))))) := ⟨_, rfl⟩
                 replace H : (rank_Ways.l1 k3 a1 y477 ji21 a0 x30_2) = some (r1, r2) := by first | (rw [hy477]; with_reducible exact H) | (have H2_ := (Option.bind_some _ _).symm.trans H; rw [hy477]; with_reducible exact H2_) | (have H2_ := (Option.bind_some _ _).symm.trans H; with_reducible exact H2_) | with_reducible exact H | (rw [hy477]; exact H) | exact H
                 have Ny477 := Aside0.mk hy477
                 clear hy477
                 have H' := Aside0.mk H
                 clear H
                 try go_wp2
                 have n0_ := Aside0.mk (Kd.R_drew HO_6.out)
                 have n1_ := Aside0.mk (lqD HB.out)
                 clear HO_6
                 clear HB
                 have HO_6 := n0_
                 have HB := n1_
                 clear n0_ n1_
                 have p475 : 0 ≤ (x8_3 : Int) := of_decide_eq_true (by first | (with_reducible assumption) | assumption)
                 have q475 : x8_3 < (x6_3.length : Int) := of_decide_eq_true (by first | (with_reducible assumption) | assumption)
                 obtain ⟨ad475, e475, hx475_0⟩ := Kd.at_int (Kd.R_reads' HO_6.out).2.2 x8_3 p475 q475
                 obtain rfl : (⟨go12, 0, none⟩ : Addr) = ad475 := (by injection e475)
                 (first | simp only [add_plain] at hx475_0 | simp only [add_at] at hx475_0 | simp only [Addr.add, Nat.zero_add] at hx475_0 | skip)
                 replace p475 := eq_true p475
                 replace q475 := eq_true q475
                 have p476 : 0 ≤ ((ji21) : Int) := of_decide_eq_true (by first | (with_reducible assumption) | assumption)
                 have q476 : (ji21) < (x6_3.length : Int) := of_decide_eq_true (by first | (with_reducible assumption) | assumption)
                 obtain ⟨ad476, e476, hx476_0⟩ := Kd.at_int (Kd.R_reads' HO_6.out).2.2 (ji21) p476 q476
                 obtain rfl : (⟨go12, 0, none⟩ : Addr) = ad476 := (by injection e476)
                 (first | simp only [add_plain] at hx476_0 | simp only [add_at] at hx476_0 | simp only [Addr.add, Nat.zero_add] at hx476_0 | skip)
                 replace p476 := eq_true p476
                 replace q476 := eq_true q476
                 have p24 : 0 ≤ (x8_3 : Int) := of_decide_eq_true (by first | (with_reducible assumption) | assumption)
                 have q24 : (x8_3 : Int) < ((x6_3.length : Int) : Int) := of_decide_eq_true (by first | (with_reducible assumption) | assumption)
                 obtain ⟨hx24_0, hf24_0⟩ := Kd.R_celln 0 HO_6.out (x8_3 : Int) p24 q24
                 replace p24 := eq_true p24
                 replace q24 := eq_true q24
                 have HP26 := Kd.R_putn HO_6.out (x8_3 : Int) (wrap64 ((rd x6_3 x8_3) + (rd x6_3 (ji21))))
                 rw [← Ny477.out] at HP26
                 have HQ26 := Aside0.mk HP26
                 clear HP26
                 refine start_ (n := 12) (S := fun w' => w'.cell? ⟨go12, (x8_3).toNat, none⟩ = some (.int .i64 (rd x6_3 x8_3)) ∧ w'.cell? ⟨go12, ((ji21)).toNat, none⟩ = some (.int .i64 (rd x6_3 (ji21)))) (ds := [11]) #[false, false, false, false, false, false, false, false, false, false, false, false] (by kernel_rfl) rfl rfl ⟨hx475_0, hx476_0⟩ (fun hHeld => ?_); refine with_tabW rank_Ways.tab11 rank_Ways.bits11 (fun HT_ HW_ => ?_)
                 generalize wr.drew = w25 at HO_6 HB HQ26 hf24_0 hx24_0 hx475_0 hx476_0 hHeld ⊢
                 refine pure_ (i := 0) (N := some 39) (v := ?_) (a' := ?_) #[true, false, false, false, false, false, false, false, false, false, false, false] rfl rfl (any_of HT_.out (by kernel_rfl)) (fun _ _ _ h => h) (Or.inl ⟨by rfl, ?_⟩) ?_ ?_
                 rotate_left
                 ·intro w'
                  go_simp
                  with_reducible rfl
                 rotate_left
                 ·simp only [Act.put, List.setIfInBounds_toArray, List.set_cons_zero, List.set_cons_succ, i64_w, i32_w]
                  rfl
                 refine pure_ (i := 1) (N := some 40) (v := ?_) (a' := ?_) #[true, true, false, false, false, false, false, false, false, false, false, false] rfl rfl (any_of HT_.out (by kernel_rfl)) (fun _ _ _ h => h) (Or.inl ⟨by rfl, ?_⟩) ?_ ?_
                 rotate_left
                 ·intro w'
                  go_simp
                  with_reducible rfl
                 rotate_left
                 ·simp only [Act.put, List.setIfInBounds_toArray, List.set_cons_zero, List.set_cons_succ, i64_w, i32_w]
                  rfl
                 refine pure_ (i := 2) (N := some 41) (v := ?_) (a' := ?_) #[true, true, true, false, false, false, false, false, false, false, false, false] rfl rfl (any_of HT_.out (by kernel_rfl)) (fun _ _ _ h => h) (Or.inl ⟨by rfl, ?_⟩) ?_ ?_
                 rotate_left
                 ·intro w'
                  go_simp
                  with_reducible rfl
                 rotate_left
                 ·simp only [Act.put, List.setIfInBounds_toArray, List.set_cons_zero, List.set_cons_succ, i64_w, i32_w]
                  rfl
                 refine pure_ (i := 4) (N := some 43) (v := ?_) (a' := ?_) #[true, true, true, false, true, false, false, false, false, false, false, false] rfl rfl (any_of HT_.out (by kernel_rfl)) (fun _ _ _ h => h) (Or.inl ⟨by rfl, ?_⟩) ?_ ?_
                 rotate_left
                 ·intro w'
                  go_simp
                  with_reducible rfl
                 rotate_left
                 ·simp only [Act.put, List.setIfInBounds_toArray, List.set_cons_zero, List.set_cons_succ, i64_w, i32_w]
                  rfl
                 refine pure_ (i := 5) (N := some 44) (v := ?_) (a' := ?_) #[true, true, true, false, true, true, false, false, false, false, false, false] rfl rfl (any_of HT_.out (by kernel_rfl)) (fun _ _ _ h => h) (Or.inl ⟨by rfl, ?_⟩) ?_ ?_
                 rotate_left
                 ·intro w'
                  go_simp
                  with_reducible rfl
                 rotate_left
                 ·simp only [Act.put, List.setIfInBounds_toArray, List.set_cons_zero, List.set_cons_succ, i64_w, i32_w]
                  rfl
                 refine pure_ (i := 6) (N := some 45) (v := ?_) (a' := ?_) #[true, true, true, false, true, true, true, false, false, false, false, false] rfl rfl (any_of HT_.out (by kernel_rfl)) (fun _ _ _ h => h) (Or.inl ⟨by rfl, ?_⟩) ?_ ?_
                 rotate_left
                 ·intro w'
                  go_simp
                  with_reducible rfl
                 rotate_left
                 ·simp only [Act.put, List.setIfInBounds_toArray, List.set_cons_zero, List.set_cons_succ, i64_w, i32_w]
                  rfl
                 refine pure_ (i := 7) (N := some 46) (v := ?_) (a' := ?_) #[true, true, true, false, true, true, true, true, false, false, false, false] rfl rfl (any_of HT_.out (by kernel_rfl)) (fun _ _ _ h => h) (Or.inl ⟨by rfl, ?_⟩) ?_ ?_
                 rotate_left
                 ·intro w'
                  go_simp
                  with_reducible rfl
                 rotate_left
                 ·simp only [Act.put, List.setIfInBounds_toArray, List.set_cons_zero, List.set_cons_succ, i64_w, i32_w]
                  rfl
                 refine take_ (i := 3) (N := some 42) (v := ?_) (a' := ?_) #[true, true, true, true, true, true, true, true, false, false, false, false] rfl rfl (take_ofW HT_.out HW_.out (by kernel_rfl)) (fun _ _ _ h => h) (Or.inl ⟨by rfl, ?_⟩) hHeld ?_ ?_
                 rotate_left
                 ·rintro w' ⟨s0, s1⟩
                  go_simp
                  with_reducible rfl
                 rotate_left
                 ·simp only [Act.put, List.setIfInBounds_toArray, List.set_cons_zero, List.set_cons_succ, i64_w, i32_w]
                  rfl
                 refine take_ (i := 8) (N := some 47) (v := ?_) (a' := ?_) #[true, true, true, true, true, true, true, true, true, false, false, false] rfl rfl (take_ofW HT_.out HW_.out (by kernel_rfl)) (fun _ _ _ h => h) (Or.inl ⟨by rfl, ?_⟩) hHeld ?_ ?_
                 rotate_left
                 ·rintro w' ⟨s0, s1⟩
                  go_simp
                  with_reducible rfl
                 rotate_left
                 ·simp only [Act.put, List.setIfInBounds_toArray, List.set_cons_zero, List.set_cons_succ, i64_w, i32_w]
                  rfl
                 refine pure_ (i := 9) (N := some 48) (v := ?_) (a' := ?_) #[true, true, true, true, true, true, true, true, true, true, false, false] rfl rfl (any_of HT_.out (by kernel_rfl)) (fun _ _ _ h => h) (Or.inl ⟨by rfl, ?_⟩) ?_ ?_
                 rotate_left
                 ·intro w'
                  go_simp
                  with_reducible rfl
                 rotate_left
                 ·simp only [Act.put, List.setIfInBounds_toArray, List.set_cons_zero, List.set_cons_succ, i64_w, i32_w]
                  rfl
                 refine pure_ (i := 10) (N := some 49) (v := ?_) (a' := ?_) #[true, true, true, true, true, true, true, true, true, true, true, false] rfl rfl (any_of HT_.out (by kernel_rfl)) (fun _ _ _ h => h) (Or.inl ⟨by rfl, ?_⟩) ?_ ?_
                 rotate_left
                 ·intro w'
                  go_simp
                  with_reducible rfl
                 rotate_left
                 ·simp only [Act.put, List.setIfInBounds_toArray, List.set_cons_zero, List.set_cons_succ, i64_w, i32_w]
                  rfl
                 refine last_ (i := 11) (N := none) #[true, true, true, true, true, true, true, true, true, true, true, true] rfl rfl (one_of HT_.out (by kernel_rfl)) (by decide) (fun K hK => ?_)
                 refine skip_ (w1 := ?_) (by rfl) rfl ?_ ?_
                 rotate_left
                 ·go_simp
                  rfl
                 refine hK.out _ _ ?_
                 clear hK K
                 refine done_ (done_of HT_.out (by kernel_rfl)) ?_
                 try go_wp2
                 (try simp only [← hl6_3])
                 go_roundg k3
                 case measure => have := HJ2.out; have := HK2.out; have := HK3.out; omega
                 case rel => exact ⟨(y477), (ji21), (by first | rfl | (simp; done) | (simp only [← hji21] <;> (first | rfl | simp)) | (simp [*]; done)), H', ⟨by have := HJ2.out; have := HK2.out; have := HK3.out; omega⟩, ⟨by (try simp only [hl6_2]); (try simp only [hl6_3]); (with_reducible repeat (first | apply Kd.R_alloc | apply Kd.R_drewN | apply Kd.R_drew)); exact HQ26.out⟩, ⟨by repeat (first | (with_reducible first | exact HB.out | apply lqA | apply lqN | apply lqD | refine lqS ?_ GB12.out) | exact HB.out)⟩⟩
                ·rw [if_neg c23] at H
                 exact absurd H (by simp)
               ·rw [if_neg c22] at H
                exact absurd H (by simp)
              ·rw [if_neg c20] at H
               exact absurd H (by simp)
             ·rw [if_neg c19] at H
              exact absurd H (by simp)
            ·rw [if_neg c18] at H
             have c18b0 : decide (0 < x8_3) = false := decide_eq_false c18
             clear c18
             have H' := Aside0.mk H
             clear H
             go_wp2
             (try simp only [← hl6_2, ← hl6_3])
             go_roundg k3
             case measure => have := HJ2.out; have := HK2.out; have := HK3.out; omega
             case rel => exact ⟨(x6_3), (wrap64 (x30_2 + 1)), (by first | rfl | (simp; done) | (simp [*]; done)), H', ⟨by have := HJ2.out; have := HK2.out; have := HK3.out; omega⟩, ⟨by (try simp only [hl6_2]); (try simp only [hl6_3]); (with_reducible repeat (first | apply Kd.R_alloc | apply Kd.R_drewN | apply Kd.R_drew)); exact HO_6.out⟩, ⟨by repeat (first | (with_reducible first | exact HB.out | apply lqA | apply lqN | apply lqD) | exact HB.out)⟩⟩
         ·rw [if_neg c17] at H
          have c17b0 : decide (x30_2 < a0) = false := decide_eq_false c17
          clear c17
          by_cases c27 : 0 ≤ a1
          ·rw [if_pos c27] at H
           have c27b0 : decide (0 ≤ a1) = true := decide_eq_true c27
           clear c27
           by_cases c28 : a1 < (x6_2.length : Int)
           ·rw [if_pos c28] at H
            have c28b0 : decide (a1 < (x6_2.length : Int)) = true := decide_eq_true c28
            clear c28
            simp only [Option.some.injEq, Prod.mk.injEq] at H
            obtain ⟨rfl, rfl⟩ := H
            have p474 : 0 ≤ (a1 : Int) := of_decide_eq_true (by first | (with_reducible assumption) | assumption)
            have q474 : a1 < (x6_2.length : Int) := of_decide_eq_true (by first | (with_reducible assumption) | assumption)
            obtain ⟨ad474, e474, hx474_0⟩ := Kd.at_int (Kd.R_reads' HO_6.out).2.2 a1 p474 q474
            obtain rfl : (⟨go12, 0, none⟩ : Addr) = ad474 := (by injection e474)
            (first | simp only [add_plain] at hx474_0 | simp only [add_at] at hx474_0 | simp only [Addr.add, Nat.zero_add] at hx474_0 | skip)
            replace p474 := eq_true p474
            replace q474 := eq_true q474
            go_wp2
            go_ret2
            exact ⟨by first | rfl | (simp [errW_none, errW_some] <;> rfl) | (simp only [← hji8]; first | rfl | (simp [errW_none, errW_some] <;> rfl)) | (simp [*, errW_none, errW_some] <;> rfl), by repeat (first | (with_reducible first | exact HB.out | apply lqA | apply lqN | apply lqD) | exact HB.out)⟩
           ·rw [if_neg c28] at H
            exact absurd H (by simp)
          ·rw [if_neg c27] at H
           exact absurd H (by simp)
      ·rw [if_neg c11] at H
       exact absurd H (by simp)
     ·rw [if_neg c10] at H
      exact absurd H (by simp)
    ·rw [if_neg c9] at H
     exact absurd H (by simp)

end Go.Proofs.Ytbkoghmbacdiiaa.K
