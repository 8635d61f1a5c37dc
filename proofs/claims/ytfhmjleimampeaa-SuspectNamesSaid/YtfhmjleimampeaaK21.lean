-- PRINTED by print.py (a twelfth state) out of the translation. Not trusted: Lean checks it.
import Derived.Test.YtfhmjleimampeaaK0
import Derived.Test.YtfhmjleimampeaaGShort
import Derived.Test.YtfhmjleimampeaaK13
import Derived.Test.YtfhmjleimampeaaK18
import Derived.Test.YtfhmjleimampeaaK20
namespace Go.Proofs.Ytfhmjleimampeaa.K
open Go.RowKit Go.Proofs.YtfhmjleimampeaaW.PrintWords Go.Proofs.YtfhmjleimampeaaW.PrintLast Go.Proofs.YtfhmjleimampeaaW.PrintMore
attribute [local go_sem] max2_int min2_int max_two min_two max_three min_three max_four min_four   -- for this text's walks alone
set_option linter.unusedVariables false
set_option linter.unusedSimpArgs false

/-! ### spileref34_Suspects: function 26 -/
mutual
def spileref34_Suspects.j0 : Nat → List (S30) → Int → Int → Int → Bool → Option (List Int × Int)
 | 0, _, _, _, _, _ => none
 | k + 1, x0, x1, x2, x3, x39 => if x39 = true then (some (([] : List Int), 2)) else (spileref34_Suspects.l0 k x0 x1 x2 x3 (([] : List Int)) 0)
def spileref34_Suspects.l0 : Nat → List (S30) → Int → Int → Int → List Int → Int → Option (List Int × Int)
 | 0, _, _, _, _, _, _ => none
 | k + 1, x0, x1, x2, x3, x11, x12 => if x12 < (x0.length : Int) then (if 0 ≤ x12 then ((spileref34_has.f ((rd_T30 x0 x12).f0) ((rd_T30 x0 x12).f1) ((rd_T30 x0 x12).f2) ((rd_T30 x0 x12).f3) x1).bind fun t533 => (spileref34_Suspects.l1 k x0 x1 x2 x3 x11 x12 t533 false 0)) else (none)) else (if (x11.length : Int) = 0 then (some (([] : List Int), 0)) else ((spileref33_Sorted.f k x11).bind fun bt542 => (some (bt542.1, bt542.2))))
def spileref34_Suspects.l1 : Nat → List (S30) → Int → Int → Int → List Int → Int → Int → Bool → Int → Option (List Int × Int)
 | 0, _, _, _, _, _, _, _, _, _ => none
 | k + 1, x0, x1, x2, x3, x11, x12, x13, x14, x15 => if x15 < x12 then (if x14 = true then (spileref34_Suspects.l1 k x0 x1 x2 x3 x11 x12 x13 true (wrap64 (x15 + 1))) else (if 0 ≤ x15 then (if x15 < (x0.length : Int) then ((spileref34_has.f ((rd_T30 x0 x15).f0) ((rd_T30 x0 x15).f1) ((rd_T30 x0 x15).f2) ((rd_T30 x0 x15).f3) x1).bind fun t535 => (spileref34_Suspects.l1 k x0 x1 x2 x3 x11 x12 x13 (t535 == x13) (wrap64 (x15 + 1)))) else (none)) else (none))) else (if x14 = true then (spileref34_Suspects.l0 k x0 x1 x2 x3 x11 (wrap64 (x12 + 1))) else ((spileref34_Test.f k x0 x1 x13).bind fun bt536 => (if bt536.2.2 = 0 then (if (wrap64 (bt536.1 * x3)) ≤ (wrap64 (bt536.2.1 * x2)) then (if x11.length < 17592186044416 then (spileref34_Suspects.l0 k x0 x1 x2 x3 (x11 ++ [x13]) (wrap64 (x12 + 1))) else (none)) else (spileref34_Suspects.l0 k x0 x1 x2 x3 x11 (wrap64 (x12 + 1)))) else (spileref34_Suspects.l0 k x0 x1 x2 x3 x11 (wrap64 (x12 + 1))))))
end
def spileref34_Suspects.f (k : Nat) (l0 : List (S30)) (a1 : Int) (a2 : Int) (a3 : Int) : Option (List Int × Int) := (spileref34_start.f k l0 a1).bind fun t528 => (if t528 = 0 then (if a3 < 1 then (spileref34_Suspects.j0 k l0 a1 a2 a3 true) else (if a3 > 1000000 then (spileref34_Suspects.j0 k l0 a1 a2 a3 true) else (if a2 < 0 then (spileref34_Suspects.j0 k l0 a1 a2 a3 true) else (spileref34_Suspects.j0 k l0 a1 a2 a3 (decide (a2 > a3)))))) else (some (([] : List Int), t528)))
theorem spileref34_Suspects.mono_l : ∀ k, (∀ y0 y1 y2 y3 y4, LeO (spileref34_Suspects.j0 k y0 y1 y2 y3 y4) (spileref34_Suspects.j0 (k + 1) y0 y1 y2 y3 y4)) ∧ (∀ y0 y1 y2 y3 y4 y5, LeO (spileref34_Suspects.l0 k y0 y1 y2 y3 y4 y5) (spileref34_Suspects.l0 (k + 1) y0 y1 y2 y3 y4 y5)) ∧ (∀ y0 y1 y2 y3 y4 y5 y6 y7 y8, LeO (spileref34_Suspects.l1 k y0 y1 y2 y3 y4 y5 y6 y7 y8) (spileref34_Suspects.l1 (k + 1) y0 y1 y2 y3 y4 y5 y6 y7 y8))
 | 0 => ⟨fun _ _ _ _ _ r h => by simp [spileref34_Suspects.j0] at h, fun _ _ _ _ _ _ r h => by simp [spileref34_Suspects.l0] at h, fun _ _ _ _ _ _ _ _ _ r h => by simp [spileref34_Suspects.l1] at h⟩
 | k + 1 => by
  obtain ⟨ih0, ih1, ih2⟩ := spileref34_Suspects.mono_l k
  refine ⟨?_, ?_, ?_⟩
  ·intro y0 y1 y2 y3 y4
   unfold spileref34_Suspects.j0
   repeat' first
   | (with_reducible exact ih0 _ _ _ _ _)
   | (with_reducible exact ih1 _ _ _ _ _ _)
   | (with_reducible exact ih2 _ _ _ _ _ _ _ _ _)
   | (with_reducible exact spileref33_Sorted.mono _ _)
   | (with_reducible exact spileref34_Test.mono _ _ _ _)
   | (with_reducible exact spileref34_start.mono _ _ _)
   | (with_reducible exact LeO.refl _)
   | (with_reducible exact LeO.none _)
   | (with_reducible refine LeO.ite ?_ ?_)
   | (with_reducible refine LeO.bind ?_ (fun _ => ?_))
   | exact ih0 _ _ _ _ _
   | exact ih1 _ _ _ _ _ _
   | exact ih2 _ _ _ _ _ _ _ _ _
   | exact spileref33_Sorted.mono _ _
   | exact spileref34_Test.mono _ _ _ _
   | exact spileref34_start.mono _ _ _
   | exact LeO.none _
   | refine LeO.ite ?_ ?_
   | refine LeO.bind ?_ (fun _ => ?_)
  ·intro y0 y1 y2 y3 y4 y5
   unfold spileref34_Suspects.l0
   repeat' first
   | (with_reducible exact ih0 _ _ _ _ _)
   | (with_reducible exact ih1 _ _ _ _ _ _)
   | (with_reducible exact ih2 _ _ _ _ _ _ _ _ _)
   | (with_reducible exact spileref33_Sorted.mono _ _)
   | (with_reducible exact spileref34_Test.mono _ _ _ _)
   | (with_reducible exact spileref34_start.mono _ _ _)
   | (with_reducible exact LeO.refl _)
   | (with_reducible exact LeO.none _)
   | (with_reducible refine LeO.ite ?_ ?_)
   | (with_reducible refine LeO.bind ?_ (fun _ => ?_))
   | exact ih0 _ _ _ _ _
   | exact ih1 _ _ _ _ _ _
   | exact ih2 _ _ _ _ _ _ _ _ _
   | exact spileref33_Sorted.mono _ _
   | exact spileref34_Test.mono _ _ _ _
   | exact spileref34_start.mono _ _ _
   | exact LeO.none _
   | refine LeO.ite ?_ ?_
   | refine LeO.bind ?_ (fun _ => ?_)
  ·intro y0 y1 y2 y3 y4 y5 y6 y7 y8
   unfold spileref34_Suspects.l1
   repeat' first
   | (with_reducible exact ih0 _ _ _ _ _)
   | (with_reducible exact ih1 _ _ _ _ _ _)
   | (with_reducible exact ih2 _ _ _ _ _ _ _ _ _)
   | (with_reducible exact spileref33_Sorted.mono _ _)
   | (with_reducible exact spileref34_Test.mono _ _ _ _)
   | (with_reducible exact spileref34_start.mono _ _ _)
   | (with_reducible exact LeO.refl _)
   | (with_reducible exact LeO.none _)
   | (with_reducible refine LeO.ite ?_ ?_)
   | (with_reducible refine LeO.bind ?_ (fun _ => ?_))
   | exact ih0 _ _ _ _ _
   | exact ih1 _ _ _ _ _ _
   | exact ih2 _ _ _ _ _ _ _ _ _
   | exact spileref33_Sorted.mono _ _
   | exact spileref34_Test.mono _ _ _ _
   | exact spileref34_start.mono _ _ _
   | exact LeO.none _
   | refine LeO.ite ?_ ?_
   | refine LeO.bind ?_ (fun _ => ?_)
theorem spileref34_Suspects.mono : ∀ a0 a1 a2 a3 k, LeO (spileref34_Suspects.f k a0 a1 a2 a3) (spileref34_Suspects.f (k + 1) a0 a1 a2 a3) := by
 intro a0 a1 a2 a3 k
 obtain ⟨ih0, ih1, ih2⟩ := spileref34_Suspects.mono_l k
 unfold spileref34_Suspects.f
 repeat' first
   | (with_reducible exact ih0 _ _ _ _ _)
   | (with_reducible exact ih1 _ _ _ _ _ _)
   | (with_reducible exact ih2 _ _ _ _ _ _ _ _ _)
   | (with_reducible exact spileref33_Sorted.mono _ _)
   | (with_reducible exact spileref34_Test.mono _ _ _ _)
   | (with_reducible exact spileref34_start.mono _ _ _)
   | (with_reducible exact LeO.refl _)
   | (with_reducible exact LeO.none _)
   | (with_reducible refine LeO.ite ?_ ?_)
   | (with_reducible refine LeO.bind ?_ (fun _ => ?_))
   | exact ih0 _ _ _ _ _
   | exact ih1 _ _ _ _ _ _
   | exact ih2 _ _ _ _ _ _ _ _ _
   | exact spileref33_Sorted.mono _ _
   | exact spileref34_Test.mono _ _ _ _
   | exact spileref34_start.mono _ _ _
   | exact LeO.none _
   | refine LeO.ite ?_ ?_
   | refine LeO.bind ?_ (fun _ => ?_)
set_option maxHeartbeats 8000000 in
set_option maxRecDepth 100000 in
theorem spileref34_Suspects.calls (k : Nat) (A0 : Option Addr) (c0 : Nat) (l0 : List (S30)) (a1 : Int) (a2 : Int) (a3 : Int) (r1 : List Int) (r2 : Int) (w : World) (hr0 : Kd.C k30 w A0 l0.length l0) (hc0 : l0.length ≤ c0) (h : spileref34_Suspects.f k l0 a1 a2 a3 = some (r1, r2)) :
  Calls Try.prog 26 #[.slice A0 l0.length c0, .int .i64 a1, .int .i64 a2, .int .i64 a3] w fun e w' => ∃ v0_ : Value, e = .returned (.tuple #[v0_, .int .i64 r2]) ∧ Kd.R (Kd.int .i64) 3 w' w.heap.size (fun _ => True) v0_ r1 ∧ Below w.heap.size w w' := by
 have hu30 := Try.underlying30
 have HR0 := Aside0.mk hr0
 have HC0 := Aside0.mk hc0
 clear hr0 hc0
 have HB := Aside0.mk (Below.refl w.heap.size w)
 have H : ((spileref34_start.f k l0 a1).bind fun t528 => (if t528 = 0 then (if a3 < 1 then (spileref34_Suspects.j0 k l0 a1 a2 a3 true) else (if a3 > 1000000 then (spileref34_Suspects.j0 k l0 a1 a2 a3 true) else (if a2 < 0 then (spileref34_Suspects.j0 k l0 a1 a2 a3 true) else (spileref34_Suspects.j0 k l0 a1 a2 a3 (decide (a2 > a3)))))) else (some (([] : List Int), t528)))) = some (r1, r2) := h
 clear h
 replace H := Option.bind_eq_some_iff.mp H
 obtain ⟨t528, A50, H⟩ := H
 replace H : (if t528 = 0 then (if a3 < 1 then (spileref34_Suspects.j0 k l0 a1 a2 a3 true) else (if a3 > 1000000 then (spileref34_Suspects.j0 k l0 a1 a2 a3 true) else (if a2 < 0 then (spileref34_Suspects.j0 k l0 a1 a2 a3 true) else (spileref34_Suspects.j0 k l0 a1 a2 a3 (decide (a2 > a3)))))) else (some (([] : List Int), t528))) = some (r1, r2) := H
 have A5 := Aside0.mk A50
 clear A50
 by_cases c6 : t528 = 0
 ·rw [if_pos c6] at H
  have c6b0 : (t528 == 0) = true := beq_iff_eq.mpr c6
  try simp only [beq_self_eq_true, Bool.not_true, Bool.false_or, Bool.true_and] at c6b0
  have c6b1 : (t528 != 0) = false := bne_eq_false_iff_eq.mpr c6
  clear c6
  have HC7 := Aside0.mk H
  clear H
  go_enter Try.func26, Try.ntmps26
  go_upto_region 4 with (first | ((with_reducible refine gqC (f := 40) rfl ?_); refine GS.gL (some 21) Try.func40 #[.slice A0 l0.length c0, .int .i64 a1] ?_; (with_reducible refine (spileref34_start.calls k _ _ l0 a1 t528 _ ?side1 ?side2 A5.out).mono ?_); (case side1 => exact GS.rC HR0.out); (case side2 => exact HC0.out); rintro e w8 ⟨rfl, hb⟩; refine ⟨_, rfl, ?_⟩; have n0_ := Aside0.mk (lqT (GS.lB HB.out) hb); clear HB; have HB := n0_; clear n0_; (try clear hb); (try clear hb2); (try clear hk); (try clear hi)))
  (try simp only [Act.put, List.setIfInBounds_toArray, List.set_cons_zero, List.set_cons_succ])
  go_cut [39] (fun v39 wc => ∃ (kq : Nat) (x39_6 : Bool), v39 = .bool x39_6 ∧ Aside0 (spileref34_Suspects.j0 kq l0 a1 a2 a3 x39_6 = some (r1, r2)) ∧ Aside0 (kq ≤ k) ∧ Aside0 (Below w.heap.size w wc))
  case first =>
   have H := HC7.out
   clear HC7
   by_cases c9 : a3 < 1
   ·rw [if_pos c9] at H
    have c9b0 : decide (a3 < 1) = true := decide_eq_true c9
    clear c9
    (first | rw [c9b0] | (simp only [i64_w, i32_w]; rw [c9b0]) | skip)
    have H' := Aside0.mk H
    clear H
    go_wp2
    go_meet
    case rel => exact ⟨_, (true), (by first | rfl | (simp; done) | (simp [*]; done)), H', ⟨by first | omega | exact Nat.le_refl _⟩, ⟨GS.lB HB.out⟩⟩
   ·rw [if_neg c9] at H
    have c9b0 : decide (a3 < 1) = false := decide_eq_false c9
    clear c9
    (first | rw [c9b0] | (simp only [i64_w, i32_w]; rw [c9b0]) | skip)
    by_cases c10 : a3 > 1000000
    ·rw [if_pos c10] at H
     have c10b0 : decide (1000000 < a3) = true := decide_eq_true c10
     clear c10
     have H' := Aside0.mk H
     clear H
     go_wp2
     go_meet
     case rel => exact ⟨_, (true), (by first | rfl | (simp; done) | (simp [*]; done)), H', ⟨by first | omega | exact Nat.le_refl _⟩, ⟨GS.lB HB.out⟩⟩
    ·rw [if_neg c10] at H
     have c10b0 : decide (1000000 < a3) = false := decide_eq_false c10
     clear c10
     by_cases c11 : a2 < 0
     ·rw [if_pos c11] at H
      have c11b0 : decide (a2 < 0) = true := decide_eq_true c11
      clear c11
      have H' := Aside0.mk H
      clear H
      go_wp2
      go_meet
      case rel => exact ⟨_, (true), (by first | rfl | (simp; done) | (simp [*]; done)), H', ⟨by first | omega | exact Nat.le_refl _⟩, ⟨GS.lB HB.out⟩⟩
     ·rw [if_neg c11] at H
      have c11b0 : decide (a2 < 0) = false := decide_eq_false c11
      clear c11
      have H' := Aside0.mk H
      clear H
      go_wp2
      go_meet
      case rel => exact ⟨_, (decide (a2 > a3)), (by first | rfl | (simp; done) | (simp [*]; done)), H', ⟨by first | omega | exact Nat.le_refl _⟩, ⟨GS.lB HB.out⟩⟩
  case rest =>
   clear HC7
   try clear c1
   try clear c2
   try clear p2
   try clear c4
   try clear c6
   try clear c6b0
   try clear c6b1
   try clear c9
   try clear c9b0
   try clear c10
   try clear c10b0
   try clear c11
   try clear c11b0
   obtain ⟨kq, x39_6, rfl, HA, HJ6, HB⟩ := hcut
   cases kq with
   | zero => exact absurd HA.out (by simp [spileref34_Suspects.j0])
   | succ kj6 =>
    have H := HA.out
    clear HA
    simp only [spileref34_Suspects.j0] at H
    by_cases c12 : x39_6 = true
    ·subst c12
     have H1 : (some (([] : List Int), 2)) = some (r1, r2) := by rw [if_pos rfl] at H; exact H
     clear H
     have H := H1
     clear H1
     simp only [Option.some.injEq, Prod.mk.injEq] at H
     obtain ⟨rfl, rfl⟩ := H
     go_wp2
     go_ret2
     exact ⟨_, by first | rfl | (simp [errW_none, errW_some] <;> rfl) | (simp [*, errW_none, errW_some] <;> rfl), by first | exact Kd.R_nil _ _ _ _ _ | exact Kd.N_nil _ _ _ _ _ | exact Kd.V_nil _ _ _ _ _ | exact Kd.Q_nil _ _ _ _ _ | exact Kd.S_nil _ _ _ _ _, GS.lB HB.out⟩
    ·replace c12 := Bool.eq_false_iff.mpr c12
     subst c12
     have H1 : (spileref34_Suspects.l0 kj6 l0 a1 a2 a3 (([] : List Int)) 0) = some (r1, r2) := by rw [if_neg (show ¬ (false = true) by decide)] at H; exact H
     clear H
     have H := H1
     clear H1
     obtain ⟨y529, hy529⟩ : ∃ y_ : List Int, y_ = (([] : List Int)) := ⟨_, rfl⟩
     replace H : (spileref34_Suspects.l0 kj6 l0 a1 a2 a3 y529 0) = some (r1, r2) := by first | (rw [hy529]; with_reducible exact H) | (have H2_ := (Option.bind_some _ _).symm.trans H; rw [hy529]; with_reducible exact H2_) | (have H2_ := (Option.bind_some _ _).symm.trans H; with_reducible exact H2_) | with_reducible exact H | (rw [hy529]; exact H) | exact H
     have Ny529 := Aside0.mk hy529
     clear hy529
     have H' := Aside0.mk H
     clear H
     go_wp2_with (first | ((with_reducible refine gqD (N := 40) rfl ?_); refine Kd.R_lit (Kd.int .i64) _ 3 ?hg (N := 40) ?hd (xs := ([] : List Int)) (inner := []) (ok := fun _ => True) (okp := fun _ => True) ?hr ?hp (fun _ hk => hk) trivial (Below.refl _ _) (Nat.le_refl _) (by simp) ?_; (case hd => rfl); (case hg => rfl); (case hr => first | (go_simp; done) | (go_simp; rfl)); (case hp => exact (Reps.none _ _)); intro v530 w13 ho14 hb hg_ hnew_; clear hg_ hnew_; (first | rw [← Ny529.out] at ho14 | (simp only [Int.reduceToNat] at ho14; rw [← Ny529.out] at ho14)); have n0_ := Aside0.mk (Kd.R_lower ho14 (lqZ (GS.lB HB.out))); have n1_ := Aside0.mk (lqT (GS.lB HB.out) hb); clear HB; have HO531 := n0_; have HB := n1_; clear n0_ n1_; clear hb ho14))
     go_loopg [11, 12] kj6 (fun kq v11 v12 w' => ∃ (x11_2 : List Int) (x12_2 : Int), v12 = .int .i64 x12_2 ∧ Aside0 (spileref34_Suspects.l0 kq l0 a1 a2 a3 x11_2 x12_2 = some (r1, r2)) ∧ Aside0 (kq ≤ kj6) ∧ Aside0 (Kd.R (Kd.int .i64) 3 w' w.heap.size (fun _ => True) v11 x11_2) ∧ Aside0 (Below w.heap.size w w'))
     case atStart => exact ⟨(y529), (0), (by first | rfl | (simp; done) | (simp [*]; done)), H', ⟨Nat.le_refl _⟩, ⟨by (with_reducible repeat (first | apply Kd.R_alloc | apply Kd.R_drewN | apply Kd.R_drew)); exact HO531.out⟩, ⟨GS.lB HB.out⟩⟩
     case round =>
      clear H'
      try clear c1
      try clear c2
      try clear p2
      try clear c4
      try clear c6
      try clear c6b0
      try clear c6b1
      try clear c9
      try clear c9b0
      try clear c10
      try clear c10b0
      try clear c11
      try clear c11b0
      try clear c12
      try clear p2
      obtain ⟨x11_2, x12_2, rfl, HA, HK2, HO_11, HB⟩ := hrel
      cases gk with
      | zero => exact absurd HA.out (by simp [spileref34_Suspects.l0])
      | succ k2 =>
       have H := HA.out
       clear HA
       simp only [spileref34_Suspects.l0] at H
       by_cases c15 : x12_2 < (l0.length : Int)
       ·rw [if_pos c15] at H
        have c15b0 : decide (x12_2 < (l0.length : Int)) = true := decide_eq_true c15
        clear c15
        by_cases c16 : 0 ≤ x12_2
        ·rw [if_pos c16] at H
         have c16b0 : decide (0 ≤ x12_2) = true := decide_eq_true c16
         clear c16
         replace H := Option.bind_eq_some_iff.mp H
         obtain ⟨t533, A170, H⟩ := H
         replace H : (spileref34_Suspects.l1 k2 l0 a1 a2 a3 x11_2 x12_2 t533 false 0) = some (r1, r2) := H
         have A17 := Aside0.mk A170
         clear A170
         have H' := Aside0.mk H
         clear H
         have p532 : 0 ≤ (x12_2 : Int) := of_decide_eq_true (by first | (with_reducible assumption) | assumption)
         have q532 : x12_2 < (l0.length : Int) := of_decide_eq_true (by first | (with_reducible assumption) | assumption)
         obtain ⟨ad532, e532, hx532_0, hx532_1, hx532_2, hx532_3⟩ := at_T30 HR0.out x12_2 p532 q532
         cases e532
         replace hx532_0 := (HB.out.cell (World.block_lt_of_cell? w _ hx532_0)).trans hx532_0
         replace hx532_1 := (HB.out.cell (World.block_lt_of_cell? w _ hx532_1)).trans hx532_1
         replace hx532_2 := (HB.out.cell (World.block_lt_of_cell? w _ hx532_2)).trans hx532_2
         replace hx532_3 := (HB.out.cell (World.block_lt_of_cell? w _ hx532_3)).trans hx532_3
         replace p532 := eq_true p532
         replace q532 := eq_true q532
         go_wp2_with (first | ((with_reducible refine gqC (f := 44) rfl ?_); refine GS.gL (some 52) Try.func44 #[.agg #[.int .i64 ((rd_T30 l0 x12_2).f0), .int .i64 ((rd_T30 l0 x12_2).f1), .int .i64 ((rd_T30 l0 x12_2).f2), .int .i64 ((rd_T30 l0 x12_2).f3)], .int .i64 a1] ?_; (with_reducible refine (spileref34_has.calls ((rd_T30 l0 x12_2).f0) ((rd_T30 l0 x12_2).f1) ((rd_T30 l0 x12_2).f2) ((rd_T30 l0 x12_2).f3) a1 t533 _ A17.out).mono ?_); rintro e w18 ⟨rfl, hb⟩; refine ⟨_, rfl, ?_⟩; have n0_ := Aside0.mk (Kd.R_below (GS.rR HO_11.out) hb); have n1_ := Aside0.mk (lqT (GS.lB HB.out) hb); clear HO_11; clear HB; have HO_11 := n0_; have HB := n1_; clear n0_ n1_; (try clear hb); (try clear hb2); (try clear hk); (try clear hi)))
         go_loopg [14, 15] k2 (fun kq v14 v15 w' => ∃ (x14_3 : Bool) (x15_3 : Int), v14 = .bool x14_3 ∧ v15 = .int .i64 x15_3 ∧ Aside0 (spileref34_Suspects.l1 kq l0 a1 a2 a3 x11_2 x12_2 t533 x14_3 x15_3 = some (r1, r2)) ∧ Aside0 (kq ≤ k2) ∧ Aside0 (Kd.R (Kd.int .i64) 3 w' w.heap.size (fun _ => True) u11 x11_2) ∧ Aside0 (Below w.heap.size w w'))
         case atStart => exact ⟨(false), (0), (by first | rfl | (simp; done) | (simp [*]; done)), (by first | rfl | (simp; done) | (simp [*]; done)), H', ⟨Nat.le_refl _⟩, ⟨by (with_reducible repeat (first | apply Kd.R_alloc | apply Kd.R_drewN | apply Kd.R_drew)); exact HO_11.out⟩, ⟨GS.lB HB.out⟩⟩
         case round =>
          clear H'
          try clear c1
          try clear c2
          try clear p2
          try clear c4
          try clear p5
          try clear q5
          try clear hx5
          try clear c6
          try clear c6b0
          try clear c6b1
          try clear c9
          try clear c9b0
          try clear c10
          try clear c10b0
          try clear c11
          try clear c11b0
          try clear c12
          try clear c15
          try clear c15b0
          try clear c16
          try clear c16b0
          try clear hx532_0
          try clear hx532_1
          try clear hx532_2
          try clear hx532_3
          try clear p2
          try clear p532
          try clear q532
          obtain ⟨x14_3, x15_3, rfl, rfl, HA, HK3, HO_11, HB⟩ := hrel
          cases gk with
          | zero => exact absurd HA.out (by simp [spileref34_Suspects.l1])
          | succ k3 =>
           have H := HA.out
           clear HA
           simp only [spileref34_Suspects.l1] at H
           by_cases c19 : x15_3 < x12_2
           ·rw [if_pos c19] at H
            have c19b0 : decide (x15_3 < x12_2) = true := decide_eq_true c19
            clear c19
            by_cases c20 : x14_3 = true
            ·subst c20
             have H1 : (spileref34_Suspects.l1 k3 l0 a1 a2 a3 x11_2 x12_2 t533 true (wrap64 (x15_3 + 1))) = some (r1, r2) := by rw [if_pos rfl] at H; exact H
             clear H
             have H := H1
             clear H1
             have H' := Aside0.mk H
             clear H
             go_wp2
             go_roundg k3
             case measure => have := HJ6.out; have := HK2.out; have := HK3.out; omega
             case rel => exact ⟨(true), (wrap64 (x15_3 + 1)), (by first | rfl | (simp; done) | (simp [*]; done)), (by first | rfl | (simp; done) | (simp [*]; done)), H', ⟨by have := HJ6.out; have := HK2.out; have := HK3.out; omega⟩, ⟨by (with_reducible repeat (first | apply Kd.R_alloc | apply Kd.R_drewN | apply Kd.R_drew)); exact HO_11.out⟩, ⟨GS.lB HB.out⟩⟩
            ·replace c20 := Bool.eq_false_iff.mpr c20
             subst c20
             have H1 : (if 0 ≤ x15_3 then (if x15_3 < (l0.length : Int) then ((spileref34_has.f ((rd_T30 l0 x15_3).f0) ((rd_T30 l0 x15_3).f1) ((rd_T30 l0 x15_3).f2) ((rd_T30 l0 x15_3).f3) a1).bind fun t535 => (spileref34_Suspects.l1 k3 l0 a1 a2 a3 x11_2 x12_2 t533 (t535 == t533) (wrap64 (x15_3 + 1)))) else (none)) else (none)) = some (r1, r2) := by rw [if_neg (show ¬ (false = true) by decide)] at H; exact H
             clear H
             have H := H1
             clear H1
             by_cases c21 : 0 ≤ x15_3
             ·rw [if_pos c21] at H
              have c21b0 : decide (0 ≤ x15_3) = true := decide_eq_true c21
              clear c21
              by_cases c22 : x15_3 < (l0.length : Int)
              ·rw [if_pos c22] at H
               have c22b0 : decide (x15_3 < (l0.length : Int)) = true := decide_eq_true c22
               clear c22
               replace H := Option.bind_eq_some_iff.mp H
               obtain ⟨t535, A230, H⟩ := H
               replace H : (spileref34_Suspects.l1 k3 l0 a1 a2 a3 x11_2 x12_2 t533 (t535 == t533) (wrap64 (x15_3 + 1))) = some (r1, r2) := H
               have A23 := Aside0.mk A230
               clear A230
               have H' := Aside0.mk H
               clear H
               have p534 : 0 ≤ (x15_3 : Int) := of_decide_eq_true (by first | (with_reducible assumption) | assumption)
               have q534 : x15_3 < (l0.length : Int) := of_decide_eq_true (by first | (with_reducible assumption) | assumption)
               obtain ⟨ad534, e534, hx534_0, hx534_1, hx534_2, hx534_3⟩ := at_T30 HR0.out x15_3 p534 q534
               obtain rfl : ad532 = ad534 := (by injection e534)
               replace hx534_0 := (HB.out.cell (World.block_lt_of_cell? w _ hx534_0)).trans hx534_0
               replace hx534_1 := (HB.out.cell (World.block_lt_of_cell? w _ hx534_1)).trans hx534_1
               replace hx534_2 := (HB.out.cell (World.block_lt_of_cell? w _ hx534_2)).trans hx534_2
               replace hx534_3 := (HB.out.cell (World.block_lt_of_cell? w _ hx534_3)).trans hx534_3
               replace p534 := eq_true p534
               replace q534 := eq_true q534
               go_wp2_with (first | (go_at_call 44; (with_reducible refine (spileref34_has.calls ((rd_T30 l0 x15_3).f0) ((rd_T30 l0 x15_3).f1) ((rd_T30 l0 x15_3).f2) ((rd_T30 l0 x15_3).f3) a1 t535 _ A23.out).mono ?_); rintro e w24 ⟨rfl, hb⟩; have n0_ := Aside0.mk (Kd.R_below (GS.rR HO_11.out) hb); have n1_ := Aside0.mk (lqT (GS.lB HB.out) hb); clear HO_11; clear HB; have HO_11 := n0_; have HB := n1_; clear n0_ n1_; (try clear hb); (try clear hb2); (try clear hk); (try clear hi)))
               go_roundg k3
               case measure => have := HJ6.out; have := HK2.out; have := HK3.out; omega
               case rel => exact ⟨((t535 == t533)), (wrap64 (x15_3 + 1)), (by first | rfl | (simp; done) | (simp [*]; done)), (by first | rfl | (simp; done) | (simp [*]; done)), H', ⟨by have := HJ6.out; have := HK2.out; have := HK3.out; omega⟩, ⟨by (with_reducible repeat (first | apply Kd.R_alloc | apply Kd.R_drewN | apply Kd.R_drew)); exact HO_11.out⟩, ⟨GS.lB HB.out⟩⟩
              ·rw [if_neg c22] at H
               exact absurd H (by simp)
             ·rw [if_neg c21] at H
              exact absurd H (by simp)
           ·rw [if_neg c19] at H
            have c19b0 : decide (x15_3 < x12_2) = false := decide_eq_false c19
            clear c19
            by_cases c25 : x14_3 = true
            ·subst c25
             have H1 : (spileref34_Suspects.l0 k3 l0 a1 a2 a3 x11_2 (wrap64 (x12_2 + 1))) = some (r1, r2) := by rw [if_pos rfl] at H; exact H
             clear H
             have H := H1
             clear H1
             have H' := Aside0.mk H
             clear H
             go_wp2
             go_roundg k3
             case measure => have := HJ6.out; have := HK2.out; have := HK3.out; omega
             case rel => exact ⟨(x11_2), (wrap64 (x12_2 + 1)), (by first | rfl | (simp; done) | (simp [*]; done)), H', ⟨by have := HJ6.out; have := HK2.out; have := HK3.out; omega⟩, ⟨by (with_reducible repeat (first | apply Kd.R_alloc | apply Kd.R_drewN | apply Kd.R_drew)); exact HO_11.out⟩, ⟨GS.lB HB.out⟩⟩
            ·replace c25 := Bool.eq_false_iff.mpr c25
             subst c25
             have H1 : ((spileref34_Test.f k3 l0 a1 t533).bind fun bt536 => (if bt536.2.2 = 0 then (if (wrap64 (bt536.1 * a3)) ≤ (wrap64 (bt536.2.1 * a2)) then (if x11_2.length < 17592186044416 then (spileref34_Suspects.l0 k3 l0 a1 a2 a3 (x11_2 ++ [t533]) (wrap64 (x12_2 + 1))) else (none)) else (spileref34_Suspects.l0 k3 l0 a1 a2 a3 x11_2 (wrap64 (x12_2 + 1)))) else (spileref34_Suspects.l0 k3 l0 a1 a2 a3 x11_2 (wrap64 (x12_2 + 1))))) = some (r1, r2) := by rw [if_neg (show ¬ (false = true) by decide)] at H; exact H
             clear H
             have H := H1
             clear H1
             replace H := Option.bind_eq_some_iff.mp H
             obtain ⟨⟨t536, t537, t538⟩, A260, H⟩ := H
             replace H : (if t538 = 0 then (if (wrap64 (t536 * a3)) ≤ (wrap64 (t537 * a2)) then (if x11_2.length < 17592186044416 then (spileref34_Suspects.l0 k3 l0 a1 a2 a3 (x11_2 ++ [t533]) (wrap64 (x12_2 + 1))) else (none)) else (spileref34_Suspects.l0 k3 l0 a1 a2 a3 x11_2 (wrap64 (x12_2 + 1)))) else (spileref34_Suspects.l0 k3 l0 a1 a2 a3 x11_2 (wrap64 (x12_2 + 1)))) = some (r1, r2) := H
             have A26 := Aside0.mk A260
             clear A260
             by_cases c27 : t538 = 0
             ·rw [if_pos c27] at H
              have c27b0 : (t538 == 0) = true := beq_iff_eq.mpr c27
              try simp only [beq_self_eq_true, Bool.not_true, Bool.false_or, Bool.true_and] at c27b0
              have c27b1 : (t538 != 0) = false := bne_eq_false_iff_eq.mpr c27
              clear c27
              by_cases c28 : (wrap64 (t536 * a3)) ≤ (wrap64 (t537 * a2))
              ·rw [if_pos c28] at H
               have c28b0 : decide ((wrap64 (t536 * a3)) ≤ (wrap64 (t537 * a2))) = true := decide_eq_true c28
               clear c28
               by_cases c29 : x11_2.length < 17592186044416
               ·rw [if_pos c29] at H
                have LMc29 := Aside0.mk c29
                clear c29
                obtain ⟨y539, hy539⟩ : ∃ y_ : List Int, y_ = (x11_2 ++ [t533]) := ⟨_, rfl⟩
                replace H : (spileref34_Suspects.l0 k3 l0 a1 a2 a3 y539 (wrap64 (x12_2 + 1))) = some (r1, r2) := by first | (rw [hy539]; with_reducible exact H) | (have H2_ := (Option.bind_some _ _).symm.trans H; rw [hy539]; with_reducible exact H2_) | (have H2_ := (Option.bind_some _ _).symm.trans H; with_reducible exact H2_) | with_reducible exact H | (rw [hy539]; exact H) | exact H
                have Ny539 := Aside0.mk hy539
                clear hy539
                have H' := Aside0.mk H
                clear H
                go_wp2_with (first | ((with_reducible refine gqC (f := 22) rfl ?_); refine GS.gL (some 74) Try.func22 #[.slice (some ad532) l0.length c0, .int .i64 a1, .int .i64 t533] ?_; (with_reducible refine (spileref34_Test.calls k3 _ _ l0 a1 t533 t536 t537 t538 _ ?side1 ?side2 A26.out).mono ?_); (case side1 => exact GS.rC (Kd.C_below HR0.out HB.out)); (case side2 => exact HC0.out); rintro e w30 ⟨rfl, hb⟩; refine ⟨_, rfl, ?_⟩; have n0_ := Aside0.mk (Kd.R_below (GS.rR HO_11.out) hb); have n1_ := Aside0.mk (lqT (GS.lB HB.out) hb); clear HO_11; clear HB; have HO_11 := n0_; have HB := n1_; clear n0_ n1_; (try clear hb); (try clear hb2); (try clear hk); (try clear hi)) | ((with_reducible refine gate_builtin (b := .append) (xs := #[.tmp 89, .tmp 91]) rfl ?_); at_builtin; refine Kd.R_append (Kd.int .i64) (w0 := w) w.heap.size rfl (.tmp 89) (.tmp 91) 31 3 (.int .i64 0) 8 rfl Try.underlying31 info3 rfl (by decide) (by omega) u11 x11_2 t533 [.int .i64 t533] (fun _ => True) (fun _ => False) rfl rfl ?aP (fun _ hk => hk.elim) ?aF ?aO ?aB ?aS ?aL ?_; (case aP => exact rfl); (case aB => exact (GS.lB HB.out)); (case aF => exact (fun _ _ => trivial)); (case aO => exact (GS.rR HO_11.out)); (case aS => exact (lqZ (GS.lB HB.out))); (case aL => have := LMc29.out; omega); intro v540 w31 ho hb hg hat; rw [← Ny539.out] at ho; have n0_ := Aside0.mk (hb); have n1_ := Aside0.mk (ho); clear HB; clear HO_11; have HB := n0_; have HO541 := n1_; clear n0_ n1_; clear ho hb hg hat))
                go_roundg k3
                case measure => have := HJ6.out; have := HK2.out; have := HK3.out; omega
                case rel => exact ⟨(y539), (wrap64 (x12_2 + 1)), (by first | rfl | (simp; done) | (simp [*]; done)), H', ⟨by have := HJ6.out; have := HK2.out; have := HK3.out; omega⟩, ⟨by (with_reducible repeat (first | apply Kd.R_alloc | apply Kd.R_drewN | apply Kd.R_drew)); exact HO541.out⟩, ⟨GS.lB HB.out⟩⟩
               ·rw [if_neg c29] at H
                exact absurd H (by simp)
              ·rw [if_neg c28] at H
               have c28b0 : decide ((wrap64 (t536 * a3)) ≤ (wrap64 (t537 * a2))) = false := decide_eq_false c28
               clear c28
               have H' := Aside0.mk H
               clear H
               go_wp2_with (first | ((with_reducible refine gqC (f := 22) rfl ?_); refine GS.gL (some 74) Try.func22 #[.slice (some ad532) l0.length c0, .int .i64 a1, .int .i64 t533] ?_; (with_reducible refine (spileref34_Test.calls k3 _ _ l0 a1 t533 t536 t537 t538 _ ?side1 ?side2 A26.out).mono ?_); (case side1 => exact GS.rC (Kd.C_below HR0.out HB.out)); (case side2 => exact HC0.out); rintro e w32 ⟨rfl, hb⟩; refine ⟨_, rfl, ?_⟩; have n0_ := Aside0.mk (Kd.R_below (GS.rR HO_11.out) hb); have n1_ := Aside0.mk (lqT (GS.lB HB.out) hb); clear HO_11; clear HB; have HO_11 := n0_; have HB := n1_; clear n0_ n1_; (try clear hb); (try clear hb2); (try clear hk); (try clear hi)))
               go_roundg k3
               case measure => have := HJ6.out; have := HK2.out; have := HK3.out; omega
               case rel => exact ⟨(x11_2), (wrap64 (x12_2 + 1)), (by first | rfl | (simp; done) | (simp [*]; done)), H', ⟨by have := HJ6.out; have := HK2.out; have := HK3.out; omega⟩, ⟨by (with_reducible repeat (first | apply Kd.R_alloc | apply Kd.R_drewN | apply Kd.R_drew)); exact HO_11.out⟩, ⟨GS.lB HB.out⟩⟩
             ·rw [if_neg c27] at H
              have c27b0 : (t538 == 0) = false := beq_eq_false_iff_ne.mpr c27
              try simp only [beq_self_eq_true, Bool.not_true, Bool.false_or, Bool.true_and] at c27b0
              have c27b1 : (t538 != 0) = true := bne_iff_ne.mpr c27
              have H' := Aside0.mk H
              clear H
              go_wp2_with (first | ((with_reducible refine gqC (f := 22) rfl ?_); refine GS.gL (some 74) Try.func22 #[.slice (some ad532) l0.length c0, .int .i64 a1, .int .i64 t533] ?_; (with_reducible refine (spileref34_Test.calls k3 _ _ l0 a1 t533 t536 t537 t538 _ ?side1 ?side2 A26.out).mono ?_); (case side1 => exact GS.rC (Kd.C_below HR0.out HB.out)); (case side2 => exact HC0.out); rintro e w33 ⟨rfl, hb⟩; refine ⟨_, rfl, ?_⟩; have n0_ := Aside0.mk (Kd.R_below (GS.rR HO_11.out) hb); have n1_ := Aside0.mk (lqT (GS.lB HB.out) hb); clear HO_11; clear HB; have HO_11 := n0_; have HB := n1_; clear n0_ n1_; (try clear hb); (try clear hb2); (try clear hk); (try clear hi)))
              go_roundg k3
              case measure => have := HJ6.out; have := HK2.out; have := HK3.out; omega
              case rel => exact ⟨(x11_2), (wrap64 (x12_2 + 1)), (by first | rfl | (simp; done) | (simp [*]; done)), H', ⟨by have := HJ6.out; have := HK2.out; have := HK3.out; omega⟩, ⟨by (with_reducible repeat (first | apply Kd.R_alloc | apply Kd.R_drewN | apply Kd.R_drew)); exact HO_11.out⟩, ⟨GS.lB HB.out⟩⟩
        ·rw [if_neg c16] at H
         exact absurd H (by simp)
       ·rw [if_neg c15] at H
        have c15b0 : decide (x12_2 < (l0.length : Int)) = false := decide_eq_false c15
        clear c15
        by_cases c34 : (x11_2.length : Int) = 0
        ·rw [if_pos c34] at H
         have c34b0 : ((x11_2.length : Int) == 0) = true := beq_iff_eq.mpr c34
         try simp only [beq_self_eq_true, Bool.not_true, Bool.false_or, Bool.true_and] at c34b0
         have c34b1 : ((x11_2.length : Int) != 0) = false := bne_eq_false_iff_eq.mpr c34
         clear c34
         simp only [Option.some.injEq, Prod.mk.injEq] at H
         obtain ⟨rfl, rfl⟩ := H
         obtain ⟨Ao35, co35, eo35⟩ := Kd.R_slice HO_11.out
         subst eo35
         go_wp2
         go_ret2
         exact ⟨_, by first | rfl | (simp [errW_none, errW_some] <;> rfl) | (simp [*, errW_none, errW_some] <;> rfl), by first | exact Kd.R_nil _ _ _ _ _ | exact Kd.N_nil _ _ _ _ _ | exact Kd.V_nil _ _ _ _ _ | exact Kd.Q_nil _ _ _ _ _ | exact Kd.S_nil _ _ _ _ _, GS.lB HB.out⟩
        ·rw [if_neg c34] at H
         have c34b0 : ((x11_2.length : Int) == 0) = false := beq_eq_false_iff_ne.mpr c34
         try simp only [beq_self_eq_true, Bool.not_true, Bool.false_or, Bool.true_and] at c34b0
         have c34b1 : ((x11_2.length : Int) != 0) = true := bne_iff_ne.mpr c34
         have c34b2 : ¬ (x11_2 = []) := fun h_ => c34 (by rw [h_]; rfl)
         replace H := Option.bind_eq_some_iff.mp H
         obtain ⟨⟨t542, t543⟩, A360, H⟩ := H
         replace H : (some (t542, t543)) = some (r1, r2) := H
         have A36 := Aside0.mk A360
         clear A360
         simp only [Option.some.injEq, Prod.mk.injEq] at H
         obtain ⟨rfl, rfl⟩ := H
         obtain ⟨Ao37, co37, eo37⟩ := Kd.R_slice HO_11.out
         subst eo37
         go_wp2_with (first | ((with_reducible refine gqC (f := 53) rfl ?_); refine GS.gL (some 97) Try.func53 #[.slice Ao37 x11_2.length co37] ?_; (with_reducible refine (spileref33_Sorted.calls k2 _ _ x11_2 t542 t543 _ ?side1 ?side2 A36.out).mono ?_); (case side1 => repeat (first | exact (Kd.R_reads' HO_11.out).2.2 | (with_reducible refine Kd.C_alloc ?_ _) | (with_reducible refine Kd.C_drewN ?_ _) | (with_reducible refine Kd.C_drew ?_))); (case side2 => exact (Kd.R_reads' HO_11.out).2.1); rintro e w38 ⟨v544, rfl, ho0, hb⟩; refine ⟨_, rfl, ?_⟩; have n0_ := Aside0.mk (Kd.R_elder' (GS.rR HO_11.out) (Kd.R_base ho0) hb); have n1_ := Aside0.mk (Kd.R_lower (Kd.R_new' ho0 (Kd.R_lt (GS.rR HO_11.out))) (lqZ (GS.lB HB.out))); have n2_ := Aside0.mk (lqT (GS.lB HB.out) hb); clear HO_11; clear HB; have HO_11 := n0_; have HO545 := n1_; have HB := n2_; clear n0_ n1_ n2_; (try clear hb); (try clear hb2); (try clear hk); (try clear hi); (try clear ho0)))
         go_ret2
         exact ⟨_, by first | rfl | (simp [errW_none, errW_some] <;> rfl) | (simp [*, errW_none, errW_some] <;> rfl), by (with_reducible repeat (first | apply Kd.R_alloc | apply Kd.R_drewN | apply Kd.R_drew)); exact Kd.R_mono HO545.out (fun _ hk => trivial), GS.lB HB.out⟩
 ·rw [if_neg c6] at H
  have c6b0 : (t528 == 0) = false := beq_eq_false_iff_ne.mpr c6
  try simp only [beq_self_eq_true, Bool.not_true, Bool.false_or, Bool.true_and] at c6b0
  have c6b1 : (t528 != 0) = true := bne_iff_ne.mpr c6
  simp only [Option.some.injEq, Prod.mk.injEq] at H
  obtain ⟨rfl, rfl⟩ := H
  go_enter Try.func26, Try.ntmps26
  go_wp2_with (first | ((with_reducible refine gqC (f := 40) rfl ?_); refine GS.gL (some 21) Try.func40 #[.slice A0 l0.length c0, .int .i64 a1] ?_; (with_reducible refine (spileref34_start.calls k _ _ l0 a1 t528 _ ?side1 ?side2 A5.out).mono ?_); (case side1 => exact GS.rC HR0.out); (case side2 => exact HC0.out); rintro e w39 ⟨rfl, hb⟩; refine ⟨_, rfl, ?_⟩; have n0_ := Aside0.mk (lqT (GS.lB HB.out) hb); clear HB; have HB := n0_; clear n0_; (try clear hb); (try clear hb2); (try clear hk); (try clear hi)))
  go_ret2
  exact ⟨_, by first | rfl | (simp [errW_none, errW_some] <;> rfl) | (simp [*, errW_none, errW_some] <;> rfl), by first | exact Kd.R_nil _ _ _ _ _ | exact Kd.N_nil _ _ _ _ _ | exact Kd.V_nil _ _ _ _ _ | exact Kd.Q_nil _ _ _ _ _ | exact Kd.S_nil _ _ _ _ _, GS.lB HB.out⟩

-- NOT PRINTED: function 5 (spilelaw34_SuspectNames)

end Go.Proofs.Ytfhmjleimampeaa.K
