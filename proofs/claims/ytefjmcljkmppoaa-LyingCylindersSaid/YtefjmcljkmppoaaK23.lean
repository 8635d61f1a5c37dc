-- PRINTED by print.py (a twelfth state) out of the translation. Not trusted: Lean checks it.
import Derived.Test.YtefjmcljkmppoaaK0
import Derived.Test.YtefjmcljkmppoaaGPu
import Derived.Test.YtefjmcljkmppoaaGShort
import Derived.Test.YtefjmcljkmppoaaGSym
import Derived.Test.YtefjmcljkmppoaaK1
import Derived.Test.YtefjmcljkmppoaaK8
import Derived.Test.YtefjmcljkmppoaaK9
import Derived.Test.YtefjmcljkmppoaaK11
import Derived.Test.YtefjmcljkmppoaaGArea
import Derived.Test.YtefjmcljkmppoaaGClone
namespace Go.Proofs.Ytefjmcljkmppoaa.K
open Go.RowKit Go.Proofs.YtefjmcljkmppoaaW.PrintWords Go.Proofs.YtefjmcljkmppoaaW.PrintLast Go.Proofs.YtefjmcljkmppoaaW.PrintMore
attribute [local go_sem] max2_int min2_int max_two min_two max_three min_three max_four min_four   -- for this text's walks alone
set_option linter.unusedVariables false
set_option linter.unusedSimpArgs false

attribute [local go_sem high] eqA28
/-! ### spilelaw11_LyingCylinders: function 6 -/
def spilelaw11_LyingCylinders.j0 : Nat → Int → List Int → List Int → Bool → Option (Bool)
 | 0, _, _, _, _ => none
 | k + 1, x0, x1, x2, x27 => if x27 = true then (some true) else (if 0 ≤ (wrap64 ((x1.length : Int) - 1)) then (if (wrap64 ((x1.length : Int) - 1)) < (x1.length : Int) then ((some (([(⟨0, x0⟩ : S39), (⟨rd x1 (wrap64 ((x1.length : Int) - 1)), x0⟩ : S39)] : List (S39)) : List (S39))).bind fun y611 => ((clone22.f x1).bind fun t615 => ((clone22.f x2).bind fun t618 => ((lying_Between.f k (⟨#[99]⟩ : ByteArray) 1 y611 0 t615 t618).bind fun bt621 => (if bt621.2.2 = 0 then ((clone22.f x2).bind fun t625 => ((area29.f x0 x0 t625).bind fun bt628 => (if bt628.2.2 = 0 then ((spileref08_Check.f k y611).bind fun t632 => (if t632 = 0 then (some (bt621.1 == (wrap64 ((rd x1 (wrap64 ((x1.length : Int) - 1))) * bt628.1)) && (bt621.2.1 == (wrap64 ((rd x1 (wrap64 ((x1.length : Int) - 1))) * bt628.2.1))))) else (none))) else (none)))) else (some (bt621.1 == 0 && (bt621.2.1 == 0)))))))) else (none)) else (none))
def spilelaw11_LyingCylinders.f (k : Nat) (a0 : Int) (l1 : List Int) (l2 : List Int) : Option (Bool) := (spilelaw11_awake.f k).bind fun t609 => (if t609 = true then (if (l1.length : Int) < 2 then (spilelaw11_LyingCylinders.j0 k a0 l1 l2 true) else (if (l1.length : Int) > 65 then (spilelaw11_LyingCylinders.j0 k a0 l1 l2 true) else (spilelaw11_LyingCylinders.j0 k a0 l1 l2 (decide ((l2.length : Int) > 66))))) else (none))
theorem spilelaw11_LyingCylinders.mono_l : ∀ k, (∀ y0 y1 y2 y3, LeO (spilelaw11_LyingCylinders.j0 k y0 y1 y2 y3) (spilelaw11_LyingCylinders.j0 (k + 1) y0 y1 y2 y3))
 | 0 => fun _ _ _ _ r h => by simp [spilelaw11_LyingCylinders.j0] at h
 | k + 1 => by
  have ih0 := spilelaw11_LyingCylinders.mono_l k
  ·intro y0 y1 y2 y3
   unfold spilelaw11_LyingCylinders.j0
   repeat' first
   | (with_reducible exact ih0 _ _ _ _)
   | (with_reducible exact lying_Between.mono _ _ _ _ _ _ _)
   | (with_reducible exact spilelaw11_awake.mono _)
   | (with_reducible exact spileref08_Check.mono _ _)
   | (with_reducible exact LeO.refl _)
   | (with_reducible exact LeO.none _)
   | (with_reducible refine LeO.ite ?_ ?_)
   | (with_reducible refine LeO.bind ?_ (fun _ => ?_))
   | exact ih0 _ _ _ _
   | exact lying_Between.mono _ _ _ _ _ _ _
   | exact spilelaw11_awake.mono _
   | exact spileref08_Check.mono _ _
   | exact LeO.none _
   | refine LeO.ite ?_ ?_
   | refine LeO.bind ?_ (fun _ => ?_)
theorem spilelaw11_LyingCylinders.mono : ∀ a0 a1 a2 k, LeO (spilelaw11_LyingCylinders.f k a0 a1 a2) (spilelaw11_LyingCylinders.f (k + 1) a0 a1 a2) := by
 intro a0 a1 a2 k
 have ih0 := spilelaw11_LyingCylinders.mono_l k
 unfold spilelaw11_LyingCylinders.f
 repeat' first
   | (with_reducible exact ih0 _ _ _ _)
   | (with_reducible exact lying_Between.mono _ _ _ _ _ _ _)
   | (with_reducible exact spilelaw11_awake.mono _)
   | (with_reducible exact spileref08_Check.mono _ _)
   | (with_reducible exact LeO.refl _)
   | (with_reducible exact LeO.none _)
   | (with_reducible refine LeO.ite ?_ ?_)
   | (with_reducible refine LeO.bind ?_ (fun _ => ?_))
   | exact ih0 _ _ _ _
   | exact lying_Between.mono _ _ _ _ _ _ _
   | exact spilelaw11_awake.mono _
   | exact spileref08_Check.mono _ _
   | exact LeO.none _
   | refine LeO.ite ?_ ?_
   | refine LeO.bind ?_ (fun _ => ?_)
def spilelaw11_LyingCylinders.T7 : Bool × List (List Nat × List Nat) := (true, [([], []), ([], []), ([1], [1]), ([], []), ([3, 2], [3]), ([0, 2, 4, 4], [0, 2, 4]), ([5], [5]), ([6], [6]), ([6], [6]), ([], []), ([9, 7, 5, 0, 1, 2, 3, 4, 5, 6, 7, 9], [7, 9]), ([8, 10, 0, 1, 2, 3, 4, 5, 6, 7, 8, 9, 10], [8])])
def spilelaw11_LyingCylinders.B7 : List Nat := [0, 0, 2, 0, 14, 31, 63, 127, 127, 0, 767, 2047]
theorem spilelaw11_LyingCylinders.tab7 : rtab .any (opsOf Try.f6 7) = spilelaw11_LyingCylinders.T7 := by kernel_rfl
theorem spilelaw11_LyingCylinders.bits7 : waitsOk spilelaw11_LyingCylinders.T7.2 spilelaw11_LyingCylinders.B7 = true := by kernel_rfl
set_option maxHeartbeats 8000000 in
set_option maxRecDepth 100000 in
theorem spilelaw11_LyingCylinders.calls (k : Nat) (a0 : Int) (A1 : Option Addr) (c1 : Nat) (l1 : List Int) (A2 : Option Addr) (c2 : Nat) (l2 : List Int) (r : Bool) (w : World) (hr1 : Kd.C (Kd.int .i64) w A1 l1.length l1) (hc1 : l1.length ≤ c1) (hr2 : Kd.C (Kd.int .i64) w A2 l2.length l2) (hc2 : l2.length ≤ c2) (h : spilelaw11_LyingCylinders.f k a0 l1 l2 = some r) :
  Calls Try.prog 6 #[.int .i64 a0, .slice A1 l1.length c1, .slice A2 l2.length c2] w fun e w' => e = .returned (.bool r) ∧ Below w.heap.size w w' := by
 have hu39 := Try.underlying39
 have hu24 := Try.underlying24
 have hu28 := Try.underlying28
 have HR1 := Aside0.mk hr1
 have HC1 := Aside0.mk hc1
 clear hr1 hc1
 have HR2 := Aside0.mk hr2
 have HC2 := Aside0.mk hc2
 clear hr2 hc2
 have HB := Aside0.mk (Below.refl w.heap.size w)
 have H : ((spilelaw11_awake.f k).bind fun t609 => (if t609 = true then (if (l1.length : Int) < 2 then (spilelaw11_LyingCylinders.j0 k a0 l1 l2 true) else (if (l1.length : Int) > 65 then (spilelaw11_LyingCylinders.j0 k a0 l1 l2 true) else (spilelaw11_LyingCylinders.j0 k a0 l1 l2 (decide ((l2.length : Int) > 66))))) else (none))) = some r := h
 clear h
 replace H := Option.bind_eq_some_iff.mp H
 obtain ⟨t609, A40, H⟩ := H
 replace H : (if t609 = true then (if (l1.length : Int) < 2 then (spilelaw11_LyingCylinders.j0 k a0 l1 l2 true) else (if (l1.length : Int) > 65 then (spilelaw11_LyingCylinders.j0 k a0 l1 l2 true) else (spilelaw11_LyingCylinders.j0 k a0 l1 l2 (decide ((l2.length : Int) > 66))))) else (none)) = some r := H
 have A4 := Aside0.mk A40
 clear A40
 by_cases c5 : t609 = true
 ·subst c5
  have H1 : (if (l1.length : Int) < 2 then (spilelaw11_LyingCylinders.j0 k a0 l1 l2 true) else (if (l1.length : Int) > 65 then (spilelaw11_LyingCylinders.j0 k a0 l1 l2 true) else (spilelaw11_LyingCylinders.j0 k a0 l1 l2 (decide ((l2.length : Int) > 66))))) = some r := by rw [if_pos rfl] at H; exact H
  clear H
  have H := H1
  clear H1
  have HC6 := Aside0.mk H
  clear H
  go_enter Try.func6, Try.ntmps6
  go_upto_region 3 with (first | ((with_reducible refine gqC (f := 10) rfl ?_); refine GS.gL (some 13) Try.func10 #[] ?_; (with_reducible refine (spilelaw11_awake.calls k  true _ A4.out).mono ?_); rintro e w7 ⟨rfl, hb⟩; refine ⟨_, rfl, ?_⟩; replace HB := GS.kH HB hb; (try clear hb); (try clear hb2); (try clear hk); (try clear hi)))
  (try simp only [Act.put, List.setIfInBounds_toArray, List.set_cons_zero, List.set_cons_succ])
  go_cut [27] (fun v27 wc => ∃ (kq : Nat) (x27_5 : Bool), v27 = .bool x27_5 ∧ Aside0 (spilelaw11_LyingCylinders.j0 kq a0 l1 l2 x27_5 = some r) ∧ Aside0 (kq ≤ k) ∧ Aside0 (Below w.heap.size w wc))
  case first =>
   have H := HC6.out
   clear HC6
   by_cases c8 : (l1.length : Int) < 2
   ·rw [if_pos c8] at H
    have c8b0 : decide ((l1.length : Int) < 2) = true := decide_eq_true c8
    have c8b1 : decide (l1.length < 2) = true := decide_eq_true (by omega)
    clear c8
    (first | rw [c8b0] | (simp only [i64_w, i32_w]; rw [c8b0]) | skip)
    have H' := Aside0.mk H
    clear H
    go_wp2
    go_meet
    case rel => exact ⟨_, (true), (by first | rfl | (simp; done) | (simp [*]; done)), H', ⟨by first | omega | exact Nat.le_refl _⟩, ⟨GS.lB HB.out⟩⟩
   ·rw [if_neg c8] at H
    have c8b0 : decide ((l1.length : Int) < 2) = false := decide_eq_false c8
    have c8b1 : decide (l1.length < 2) = false := decide_eq_false (by omega)
    clear c8
    (first | rw [c8b0] | (simp only [i64_w, i32_w]; rw [c8b0]) | skip)
    by_cases c9 : (l1.length : Int) > 65
    ·rw [if_pos c9] at H
     have c9b0 : decide (65 < (l1.length : Int)) = true := decide_eq_true c9
     have c9b1 : decide (65 < l1.length) = true := decide_eq_true (by omega)
     clear c9
     have H' := Aside0.mk H
     clear H
     go_wp2
     go_meet
     case rel => exact ⟨_, (true), (by first | rfl | (simp; done) | (simp [*]; done)), H', ⟨by first | omega | exact Nat.le_refl _⟩, ⟨GS.lB HB.out⟩⟩
    ·rw [if_neg c9] at H
     have c9b0 : decide (65 < (l1.length : Int)) = false := decide_eq_false c9
     have c9b1 : decide (65 < l1.length) = false := decide_eq_false (by omega)
     clear c9
     have H' := Aside0.mk H
     clear H
     go_wp2
     go_meet
     case rel => exact ⟨_, (decide ((l2.length : Int) > 66)), (by first | rfl | (simp; done) | (simp [*]; done)), H', ⟨by first | omega | exact Nat.le_refl _⟩, ⟨GS.lB HB.out⟩⟩
  case rest =>
   clear HC6
   try clear c1
   try clear c2
   try clear p2
   try clear c5
   try clear c6
   try clear c8
   try clear c8b0
   try clear c8b1
   try clear c9
   try clear c9b0
   try clear c9b1
   obtain ⟨kq, x27_5, rfl, HA, HJ5, HB⟩ := hcut
   cases kq with
   | zero => exact absurd HA.out (by simp [spilelaw11_LyingCylinders.j0])
   | succ kj5 =>
    have H := HA.out
    clear HA
    simp only [spilelaw11_LyingCylinders.j0] at H
    by_cases c10 : x27_5 = true
    ·subst c10
     have H1 : (some true) = some r := by rw [if_pos rfl] at H; exact H
     clear H
     have H := H1
     clear H1
     obtain rfl := Option.some.inj H
     go_wp2
     go_ret
     exact ⟨by first | rfl | (simp [errW_none, errW_some] <;> rfl) | (simp [*, errW_none, errW_some] <;> rfl), GS.lB HB.out⟩
    ·replace c10 := Bool.eq_false_iff.mpr c10
     subst c10
     have H1 : (if 0 ≤ (wrap64 ((l1.length : Int) - 1)) then (if (wrap64 ((l1.length : Int) - 1)) < (l1.length : Int) then ((some (([(⟨0, a0⟩ : S39), (⟨rd l1 (wrap64 ((l1.length : Int) - 1)), a0⟩ : S39)] : List (S39)) : List (S39))).bind fun y611 => ((clone22.f l1).bind fun t615 => ((clone22.f l2).bind fun t618 => ((lying_Between.f kj5 (⟨#[99]⟩ : ByteArray) 1 y611 0 t615 t618).bind fun bt621 => (if bt621.2.2 = 0 then ((clone22.f l2).bind fun t625 => ((area29.f a0 a0 t625).bind fun bt628 => (if bt628.2.2 = 0 then ((spileref08_Check.f kj5 y611).bind fun t632 => (if t632 = 0 then (some (bt621.1 == (wrap64 ((rd l1 (wrap64 ((l1.length : Int) - 1))) * bt628.1)) && (bt621.2.1 == (wrap64 ((rd l1 (wrap64 ((l1.length : Int) - 1))) * bt628.2.1))))) else (none))) else (none)))) else (some (bt621.1 == 0 && (bt621.2.1 == 0)))))))) else (none)) else (none)) = some r := by rw [if_neg (show ¬ (false = true) by decide)] at H; exact H
     clear H
     have H := H1
     clear H1
     obtain ⟨ji11, hji11⟩ : ∃ j_ : Int, (wrap64 ((l1.length : Int) - 1)) = j_ := ⟨_, rfl⟩
     replace H : (if 0 ≤ (ji11) then (if (ji11) < (l1.length : Int) then ((some (([(⟨0, a0⟩ : S39), (⟨rd l1 (ji11), a0⟩ : S39)] : List (S39)) : List (S39))).bind fun y611 => ((clone22.f l1).bind fun t615 => ((clone22.f l2).bind fun t618 => ((lying_Between.f kj5 (⟨#[99]⟩ : ByteArray) 1 y611 0 t615 t618).bind fun bt621 => (if bt621.2.2 = 0 then ((clone22.f l2).bind fun t625 => ((area29.f a0 a0 t625).bind fun bt628 => (if bt628.2.2 = 0 then ((spileref08_Check.f kj5 y611).bind fun t632 => (if t632 = 0 then (some (bt621.1 == (wrap64 ((rd l1 (ji11)) * bt628.1)) && (bt621.2.1 == (wrap64 ((rd l1 (ji11)) * bt628.2.1))))) else (none))) else (none)))) else (some (bt621.1 == 0 && (bt621.2.1 == 0)))))))) else (none)) else (none)) = some r := by first | (rw [hji11] at H; exact H) | (simp only [hji11] at H ⊢; exact H)
     have hji11w : (IntKind.i64.wrap ((l1.length : Int) - 1)) = ji11 := (i64_w _).trans hji11
     by_cases c12 : 0 ≤ (ji11)
     ·rw [if_pos c12] at H
      have c12b0 : decide (0 ≤ (ji11)) = true := decide_eq_true c12
      clear c12
      by_cases c13 : (ji11) < (l1.length : Int)
      ·rw [if_pos c13] at H
       have c13b0 : decide ((ji11) < (l1.length : Int)) = true := decide_eq_true c13
       clear c13
       obtain ⟨y611, hy611⟩ : ∃ y_ : List (S39), y_ = (([(⟨0, a0⟩ : S39), (⟨rd l1 (ji11), a0⟩ : S39)] : List (S39))) := ⟨_, rfl⟩
       replace H : ((clone22.f l1).bind fun t615 => ((clone22.f l2).bind fun t618 => ((lying_Between.f kj5 (⟨#[99]⟩ : ByteArray) 1 y611 0 t615 t618).bind fun bt621 => (if bt621.2.2 = 0 then ((clone22.f l2).bind fun t625 => ((area29.f a0 a0 t625).bind fun bt628 => (if bt628.2.2 = 0 then ((spileref08_Check.f kj5 y611).bind fun t632 => (if t632 = 0 then (some (bt621.1 == (wrap64 ((rd l1 (ji11)) * bt628.1)) && (bt621.2.1 == (wrap64 ((rd l1 (ji11)) * bt628.2.1))))) else (none))) else (none)))) else (some (bt621.1 == 0 && (bt621.2.1 == 0))))))) = some r := by first | (rw [hy611]; with_reducible exact H) | (have H2_ := (Option.bind_some _ _).symm.trans H; rw [hy611]; with_reducible exact H2_) | (have H2_ := (Option.bind_some _ _).symm.trans H; with_reducible exact H2_) | with_reducible exact H | (rw [hy611]; exact H) | exact H
       have Ny611 := Aside0.mk hy611
       clear hy611
       replace H := Option.bind_eq_some_iff.mp H
       obtain ⟨t615, A140, H⟩ := H
       replace H : ((clone22.f l2).bind fun t618 => ((lying_Between.f kj5 (⟨#[99]⟩ : ByteArray) 1 y611 0 t615 t618).bind fun bt621 => (if bt621.2.2 = 0 then ((clone22.f l2).bind fun t625 => ((area29.f a0 a0 t625).bind fun bt628 => (if bt628.2.2 = 0 then ((spileref08_Check.f kj5 y611).bind fun t632 => (if t632 = 0 then (some (bt621.1 == (wrap64 ((rd l1 (ji11)) * bt628.1)) && (bt621.2.1 == (wrap64 ((rd l1 (ji11)) * bt628.2.1))))) else (none))) else (none)))) else (some (bt621.1 == 0 && (bt621.2.1 == 0)))))) = some r := H
       have A14 := Aside0.mk A140
       clear A140
       replace H := Option.bind_eq_some_iff.mp H
       obtain ⟨t618, A150, H⟩ := H
       replace H : ((lying_Between.f kj5 (⟨#[99]⟩ : ByteArray) 1 y611 0 t615 t618).bind fun bt621 => (if bt621.2.2 = 0 then ((clone22.f l2).bind fun t625 => ((area29.f a0 a0 t625).bind fun bt628 => (if bt628.2.2 = 0 then ((spileref08_Check.f kj5 y611).bind fun t632 => (if t632 = 0 then (some (bt621.1 == (wrap64 ((rd l1 (ji11)) * bt628.1)) && (bt621.2.1 == (wrap64 ((rd l1 (ji11)) * bt628.2.1))))) else (none))) else (none)))) else (some (bt621.1 == 0 && (bt621.2.1 == 0))))) = some r := H
       have A15 := Aside0.mk A150
       clear A150
       replace H := Option.bind_eq_some_iff.mp H
       obtain ⟨⟨t621, t622, t623⟩, A160, H⟩ := H
       replace H : (if t623 = 0 then ((clone22.f l2).bind fun t625 => ((area29.f a0 a0 t625).bind fun bt628 => (if bt628.2.2 = 0 then ((spileref08_Check.f kj5 y611).bind fun t632 => (if t632 = 0 then (some (t621 == (wrap64 ((rd l1 (ji11)) * bt628.1)) && (t622 == (wrap64 ((rd l1 (ji11)) * bt628.2.1))))) else (none))) else (none)))) else (some (t621 == 0 && (t622 == 0)))) = some r := H
       have A16 := Aside0.mk A160
       clear A160
       by_cases c17 : t623 = 0
       ·rw [if_pos c17] at H
        have c17b0 : (t623 == 0) = true := beq_iff_eq.mpr c17
        try simp only [beq_self_eq_true, Bool.not_true, Bool.false_or, Bool.true_and] at c17b0
        have c17b1 : (t623 != 0) = false := bne_eq_false_iff_eq.mpr c17
        clear c17
        replace H := Option.bind_eq_some_iff.mp H
        obtain ⟨t625, A180, H⟩ := H
        replace H : ((area29.f a0 a0 t625).bind fun bt628 => (if bt628.2.2 = 0 then ((spileref08_Check.f kj5 y611).bind fun t632 => (if t632 = 0 then (some (t621 == (wrap64 ((rd l1 (ji11)) * bt628.1)) && (t622 == (wrap64 ((rd l1 (ji11)) * bt628.2.1))))) else (none))) else (none))) = some r := H
        have A18 := Aside0.mk A180
        clear A180
        replace H := Option.bind_eq_some_iff.mp H
        obtain ⟨⟨t628, t629, t630⟩, A190, H⟩ := H
        replace H : (if t630 = 0 then ((spileref08_Check.f kj5 y611).bind fun t632 => (if t632 = 0 then (some (t621 == (wrap64 ((rd l1 (ji11)) * t628)) && (t622 == (wrap64 ((rd l1 (ji11)) * t629))))) else (none))) else (none)) = some r := H
        have A19 := Aside0.mk A190
        clear A190
        by_cases c20 : t630 = 0
        ·rw [if_pos c20] at H
         have c20b0 : (t630 == 0) = true := beq_iff_eq.mpr c20
         try simp only [beq_self_eq_true, Bool.not_true, Bool.false_or, Bool.true_and] at c20b0
         have c20b1 : (t630 != 0) = false := bne_eq_false_iff_eq.mpr c20
         clear c20
         replace H := Option.bind_eq_some_iff.mp H
         obtain ⟨t632, A210, H⟩ := H
         replace H : (if t632 = 0 then (some (t621 == (wrap64 ((rd l1 (ji11)) * t628)) && (t622 == (wrap64 ((rd l1 (ji11)) * t629))))) else (none)) = some r := H
         have A21 := Aside0.mk A210
         clear A210
         by_cases c22 : t632 = 0
         ·rw [if_pos c22] at H
          have c22b0 : (t632 == 0) = true := beq_iff_eq.mpr c22
          try simp only [beq_self_eq_true, Bool.not_true, Bool.false_or, Bool.true_and] at c22b0
          have c22b1 : (t632 != 0) = false := bne_eq_false_iff_eq.mpr c22
          clear c22
          obtain rfl := Option.some.inj H
          have p610 : 0 ≤ ((ji11) : Int) := of_decide_eq_true (by first | (with_reducible assumption) | assumption)
          have q610 : (ji11) < (l1.length : Int) := of_decide_eq_true (by first | (with_reducible assumption) | assumption)
          obtain ⟨ad610, e610, hx610_0⟩ := Kd.at_int HR1.out (ji11) p610 q610
          cases e610
          replace hx610_0 := (HB.out.cell (World.block_lt_of_cell? w _ hx610_0)).trans hx610_0
          replace p610 := eq_true p610
          replace q610 := eq_true q610
          try go_wp2_with (first | ((with_reducible refine gqD (N := 39) rfl ?_); (try (refine gate_guard (by rfl) ?_; dsimp only)); refine Kd.R_lit k39 _ 39 ?hg (N := 39) ?hd (xs := ([(⟨0, a0⟩ : S39), (⟨rd l1 (ji11), a0⟩ : S39)] : List (S39))) (inner := [.int .i64 0, .int .i64 a0, .int .i64 (rd l1 (ji11)), .int .i64 a0]) (ok := fun _ => True) (okp := fun _ => True) ?hr ?hp (fun _ hk => hk) trivial (Below.refl _ _) (Nat.le_refl _) (by simp) ?_; (case hd => rfl); (case hg => rfl); (case hr => first | (go_simp; done) | (go_simp; rfl)); (case hp => exact (Reps.c2 (show Kd.M k39 _ _ _ (⟨0, a0⟩ : S39) [.int .i64 0, .int .i64 a0] from (k39_mkM _ _ _ (⟨0, a0⟩ : S39) )) (Reps.c2 (show Kd.M k39 _ _ _ (⟨rd l1 (ji11), a0⟩ : S39) [.int .i64 (rd l1 (ji11)), .int .i64 a0] from (k39_mkM _ _ _ (⟨rd l1 (ji11), a0⟩ : S39) )) (Reps.none _ _)))); intro v612 w23 ho24 hb hg_ hnew_; clear hg_ hnew_; (first | rw [← Ny611.out] at ho24 | (simp only [Int.reduceToNat] at ho24; rw [← Ny611.out] at ho24)); have q_ := GS.q2 (GS.kL ho24 HB) (GS.kH HB hb); clear HB; obtain ⟨HO613, HB⟩ := q_; clear hb ho24; obtain ⟨Ao25, co25, eo25⟩ := Kd.R_slice HO613.out; subst eo25) | ((with_reducible refine gqD (N := 8) rfl ?_); (try (refine gate_guard (by rfl) ?_; dsimp only)); refine box_event ?hg (N := 8) ?hd (cs := #[.string (⟨#[]⟩ : ByteArray), .int .i64 0, .slice none 0 0, .int .i64 0]) (t := 24) ?hr ?_; (case hd => rfl); (case hg => rfl); (case hr => first | (go_simp; done) | (go_simp; rfl)); intro gb614 hg w26 hbox hb; have q_ := GS.q5 (GS.kR HO613 hb) (GS.kH HB hb) (Aside0.mk hbox) (GS.kZ hg HB) (GS.kZ hg HB); clear HO613 HB; obtain ⟨HO613, HB, BK614, GW614, GE614⟩ := q_; clear hb hbox hg; obtain ⟨hcz27_0, hcz27_1, hcz27_2, hcz27_3, hfz27_0, hfz27_1, hfz27_2, hfz27_3⟩ := GS.c4 BK614.out))
          have n0_ : Aside0 (Kd.R k39 39 ((((w26.setCell ⟨gb614, 0, none⟩ (.string (⟨#[99]⟩ : ByteArray))).setCell ⟨gb614, 1, none⟩ (.int .i64 1)).setCell ⟨gb614, 2, none⟩ (.slice Ao25 y611.length co25)).setCell ⟨gb614, 3, none⟩ (.int .i64 0)) w.heap.size (fun _ => True) (.slice Ao25 y611.length co25) y611) := ⟨by (with_reducible repeat (first | apply Kd.R_alloc | apply Kd.R_drewN | apply Kd.R_drew)); exact Kd.R_mono (Kd.R_far (p := ⟨gb614, 3, none⟩) (Kd.R_far (p := ⟨gb614, 2, none⟩) (Kd.R_far (p := ⟨gb614, 1, none⟩) (Kd.R_far (p := ⟨gb614, 0, none⟩) (Kd.R_types HO613.out BK614.out (by decide)) (fun _ hk => hk.2) (.string (⟨#[99]⟩ : ByteArray))) (fun _ hk => hk.2) (.int .i64 1)) (fun _ hk => hk.2) (.slice Ao25 y611.length co25)) (fun _ hk => hk.2) (.int .i64 0)) (fun _ hk => trivial)⟩
          have n1_ : Aside0 (((((w26.setCell ⟨gb614, 0, none⟩ (.string (⟨#[99]⟩ : ByteArray))).setCell ⟨gb614, 1, none⟩ (.int .i64 1)).setCell ⟨gb614, 2, none⟩ (.slice Ao25 y611.length co25)).setCell ⟨gb614, 3, none⟩ (.int .i64 0)).heap[gb614]? = some (.cells #[.string (⟨#[99]⟩ : ByteArray), .int .i64 1, .slice Ao25 y611.length co25, .int .i64 0] 24 (0, 0))) := ⟨by (with_reducible repeat (first | refine bqN ?_ _ | refine bqD ?_ | refine bqA ?_ _)); refine bqP (cs := #[.string (⟨#[99]⟩ : ByteArray), .int .i64 1, .slice Ao25 y611.length co25, .int .i64 0]) ?_ 3 _ rfl; (with_reducible repeat (first | refine bqN ?_ _ | refine bqD ?_ | refine bqA ?_ _)); refine bqP (cs := #[.string (⟨#[99]⟩ : ByteArray), .int .i64 1, .slice none 0 0, .int .i64 0]) ?_ 2 _ rfl; (with_reducible repeat (first | refine bqN ?_ _ | refine bqD ?_ | refine bqA ?_ _)); refine bqP (cs := #[.string (⟨#[99]⟩ : ByteArray), .int .i64 0, .slice none 0 0, .int .i64 0]) ?_ 1 _ rfl; (with_reducible repeat (first | refine bqN ?_ _ | refine bqD ?_ | refine bqA ?_ _)); refine bqP (cs := #[.string (⟨#[]⟩ : ByteArray), .int .i64 0, .slice none 0 0, .int .i64 0]) ?_ 0 _ rfl; (with_reducible repeat (first | refine bqN ?_ _ | refine bqD ?_ | refine bqA ?_ _)); exact BK614.out⟩
          have n2_ : Aside0 (Below w.heap.size w ((((w26.setCell ⟨gb614, 0, none⟩ (.string (⟨#[99]⟩ : ByteArray))).setCell ⟨gb614, 1, none⟩ (.int .i64 1)).setCell ⟨gb614, 2, none⟩ (.slice Ao25 y611.length co25)).setCell ⟨gb614, 3, none⟩ (.int .i64 0))) := ⟨GS.lB HB.out⟩
          (try clear HO613)
          (try clear BK614)
          (try clear HB)
          generalize ((((w26.setCell ⟨gb614, 0, none⟩ (.string (⟨#[99]⟩ : ByteArray))).setCell ⟨gb614, 1, none⟩ (.int .i64 1)).setCell ⟨gb614, 2, none⟩ (.slice Ao25 y611.length co25)).setCell ⟨gb614, 3, none⟩ (.int .i64 0)) = w28 at n0_ n1_ n2_ ⊢
          have HO613 := n0_
          have BK614 := n1_
          have HB := n2_
          clear n0_ n1_ n2_
          have q_ := GS.q3 (Aside0.mk (Kd.R_drew HO613.out)) (Aside0.mk (bqD BK614.out)) (Aside0.mk (lqD HB.out))
          clear HO613 BK614 HB
          obtain ⟨HO613, BK614, HB⟩ := q_
          refine start_ (n := 12) (S := fun w' => True) (ds := []) #[false, false, false, false, false, false, false, false, false, false, false, false] (by kernel_rfl) rfl rfl trivial (fun hHeld => ?_); refine with_tabW spilelaw11_LyingCylinders.tab7 spilelaw11_LyingCylinders.bits7 (fun HT_ HW_ => ?_)
          generalize w28.drew = w29 at HO613 BK614 HB hHeld ⊢
          refine GS.pu 1 (some 43) HT_.out ?_
          refine GS.pu 3 (some 45) HT_.out ?_
          refine inv_at [0, 2, 4, 5, 6, 7, 8, 9, 10, 11] (fun a0_ b a w' => ∃ (v616 : Value) (v619 : Value) (gb624 : Nat) (m9_ : Value), a = putSel a0_ b [(0, 42, .agg #[.string (⟨#[99]⟩ : ByteArray), .int .i64 1, .slice Ao25 y611.length co25, .int .i64 0]), (2, 44, v616), (4, 46, v619), (5, 47, .tuple #[.agg #[.int .i64 t621, .int .i64 t622], .int .i64 t623]), (6, 41, .tuple #[.agg #[.int .i64 t621, .int .i64 t622], .int .i64 t623]), (7, 48, .agg #[.int .i64 t621, .int .i64 t622]), (8, 49, .int .i64 t623), (9, 9, m9_), (11, 10, .int .i64 t623)] ∧ (Kd.R k39 39 w' w.heap.size (fun _ => True) (.slice Ao25 y611.length co25) y611) ∧ (w'.heap[gb614]? = some (.cells #[.string (⟨#[99]⟩ : ByteArray), .int .i64 1, .slice Ao25 y611.length co25, .int .i64 0] 24 (0, 0))) ∧ (Below w.heap.size w w') ∧ (b 2 = true → Kd.R (Kd.int .i64) 3 w' w.heap.size (fun _ => True) v616 t615) ∧ (b 4 = true → Kd.R (Kd.int .i64) 3 w' w.heap.size (fun _ => True) v619 t618) ∧ (b 9 = true → b 10 = false → w'.heap[gb624]? = some (.cells #[.int .i64 0, .int .i64 0] 28 (0, 0))) ∧ (b 9 = true → w.heap.size ≤ gb624) ∧ (b 9 = true → w.heap.size ≤ gb624) ∧ (b 9 = true → gb614 ≠ gb624) ∧ (b 9 = true → gb624 ≠ gb614) ∧ (b 10 = true → w'.heap[gb624]? = some (.cells #[.int .i64 t621, .int .i64 t622] 28 (0, 0))) ∧ (b 9 = true → (m9_ : Value) = .pointer (some ⟨gb624, 0, none⟩))) HT_.out HW_.out (by kernel_rfl) (by kernel_rfl) ?_ ?_ ?_
          ·exact ⟨.bool false, .bool false, 0, .bool false, by simp only [putSel, Bool.false_eq_true, if_false], HO613.out, BK614.out, HB.out, fun h_ => absurd h_ (by decide), fun h_ => absurd h_ (by decide), fun h_ => absurd h_ (by decide), fun h_ => absurd h_ (by decide), fun h_ => absurd h_ (by decide), fun h_ => absurd h_ (by decide), fun h_ => absurd h_ (by decide), fun h_ => absurd h_ (by decide), fun h_ => absurd h_ (by decide)⟩
          ·skip
           clear BK614 HB HO613
           refine steps_cons ?_ ?_
           ·rintro b a w' ⟨v616, v619, gb624, m9_, ha, Q_HO613, Q_BK614, Q_HB, Q_HO617, Q_HO620, Q_BK624, Q_GW624, Q_GE624, Q_NB614_624, Q_NB624_614, Q_BK624_e10, Q_X9_⟩ hb_ hon hoff
            refine ⟨_, rfl, fun K hK => ?_⟩
            have e8 : a.tmps[8]? = some (.pointer (some ⟨gb614, 0, none⟩)) := by rw [ha]; exact (putSel_off rfl).trans rfl
            replace ha := Aside0.mk ha
            have HO613 := Aside0.mk Q_HO613
            have BK614 := Aside0.mk Q_BK614
            have HB := Aside0.mk Q_HB
            have hc0_ : w'.cell? ⟨gb614, 0, none⟩ = some (.string (⟨#[99]⟩ : ByteArray)) := (bqC BK614.out 0).trans rfl
            have hc1_ : w'.cell? ⟨gb614, 1, none⟩ = some (.int .i64 1) := (bqC BK614.out 1).trans rfl
            have hc2_ : w'.cell? ⟨gb614, 2, none⟩ = some (.slice Ao25 y611.length co25) := (bqC BK614.out 2).trans rfl
            have hc3_ : w'.cell? ⟨gb614, 3, none⟩ = some (.int .i64 0) := (bqC BK614.out 3).trans rfl
            refine value_ (w1 := w') (v := .agg #[.string (⟨#[99]⟩ : ByteArray), .int .i64 1, .slice Ao25 y611.length co25, .int .i64 0]) (by rfl) rfl ?_ ?_
            ·go_simp
             (try simp only [i64_w])
             try rfl
            refine hK.out _ _ ⟨v616, v619, gb624, m9_, (by rw [ha.out]; exact putSel_upk 0 hb_ rfl rfl rfl), Q_HO613, Q_BK614, Q_HB, Q_HO617, Q_HO620, Q_BK624, Q_GW624, Q_GE624, Q_NB614_624, Q_NB624_614, fun h0_ => absurd ((hoff 10 (by kernel_rfl)).symm.trans h0_) (by decide), Q_X9_⟩
           refine steps_cons ?_ ?_
           ·rintro b a w' ⟨v616, v619, gb624, m9_, ha, Q_HO613, Q_BK614, Q_HB, Q_HO617, Q_HO620, Q_BK624, Q_GW624, Q_GE624, Q_NB614_624, Q_NB624_614, Q_BK624_e10, Q_X9_⟩ hb_ hon hoff
            refine ⟨_, rfl, fun K hK => ?_⟩
            have e43 : a.tmps[43]? = some (.slice (some ad610) l1.length c1) := by rw [ha]; exact (putSel_off rfl).trans rfl
            replace ha := Aside0.mk ha
            have HO613 := Aside0.mk Q_HO613
            have BK614 := Aside0.mk Q_BK614
            have HB := Aside0.mk Q_HB
            refine goes_ Try.func22 (by kernel_rfl) rfl #[.slice (some ad610) l1.length c1] (by rfl) rfl rfl (by first | (simp only [List.map_toArray, List.map_cons, List.map_nil, Act.eval, Array.getD_eq_getD_getElem?, Option.getD_some, e43]; done) | (simp only [List.map_toArray, List.map_cons, List.map_nil, Act.eval, Array.getD_eq_getD_getElem?, Option.getD_some, e43]; rfl)) ?_
            with_reducible refine (clone22.calls _ _ l1 t615 _ ?side1 ?side2 A14.out).mono ?_
            (case side1 => exact GS.rC (Kd.C_below HR1.out HB.out))
            (case side2 => exact HC1.out)
            rintro e w30 ⟨v616, rfl, ho0, hb⟩
            refine ⟨_, rfl, ?_⟩
            have n0_ := Aside0.mk (Kd.R_below (GS.rR HO613.out) hb)
            have n1_ := Aside0.mk (Kd.R_lower ho0 (lqZ (GS.lB HB.out)))
            have n2_ := Aside0.mk (bqB (g := gb614) (o := .cells #[.string (⟨#[99]⟩ : ByteArray), .int .i64 1, .slice Ao25 y611.length co25, .int .i64 0] 24 (0, 0)) (GS.bqX BK614.out) hb)
            have n3_ := Aside0.mk (lqT (GS.lB HB.out) hb)
            have z_BK624 := fun (h0_ : b 9 = true) (h1_ : b 10 = false) => (show w30.heap[gb624]? = some (.cells #[.int .i64 0, .int .i64 0] 28 (0, 0)) from by first | exact (bqB (GS.bqX (Q_BK624 h0_ h1_)) hb))
            clear HO613
            clear BK614
            clear HB
            have HO613 := n0_
            have HO617 := n1_
            have BK614 := n2_
            have HB := n3_
            clear n0_ n1_ n2_ n3_
            (try clear hb)
            (try clear hb2)
            (try clear hk)
            (try clear hi)
            (try clear ho0)
            refine hK.out _ _ ⟨v616, v619, gb624, m9_, (by rw [ha.out]; exact putSel_upk 1 hb_ rfl rfl rfl), (GS.rR HO613.out), (GS.bqX BK614.out), (GS.lB HB.out), fun _ => (GS.rR HO617.out), fun h0_ => absurd ((hoff 4 (by kernel_rfl)).symm.trans h0_) (by decide), z_BK624, Q_GW624, Q_GE624, Q_NB614_624, Q_NB624_614, fun h0_ => absurd ((hoff 10 (by kernel_rfl)).symm.trans h0_) (by decide), Q_X9_⟩
           refine steps_cons ?_ ?_
           ·rintro b a w' ⟨v616, v619, gb624, m9_, ha, Q_HO613, Q_BK614, Q_HB, Q_HO617, Q_HO620, Q_BK624, Q_GW624, Q_GE624, Q_NB614_624, Q_NB624_614, Q_BK624_e10, Q_X9_⟩ hb_ hon hoff
            refine ⟨_, rfl, fun K hK => ?_⟩
            have e45 : a.tmps[45]? = some (.slice A2 l2.length c2) := by rw [ha]; exact (putSel_off rfl).trans rfl
            replace ha := Aside0.mk ha
            have HO613 := Aside0.mk Q_HO613
            have BK614 := Aside0.mk Q_BK614
            have HB := Aside0.mk Q_HB
            have HO617 := Aside0.mk (Q_HO617 (hon 2 (by kernel_rfl)))
            refine goes_ Try.func22 (by kernel_rfl) rfl #[.slice A2 l2.length c2] (by rfl) rfl rfl (by first | (simp only [List.map_toArray, List.map_cons, List.map_nil, Act.eval, Array.getD_eq_getD_getElem?, Option.getD_some, e45]; done) | (simp only [List.map_toArray, List.map_cons, List.map_nil, Act.eval, Array.getD_eq_getD_getElem?, Option.getD_some, e45]; rfl)) ?_
            with_reducible refine (clone22.calls _ _ l2 t618 _ ?side1 ?side2 A15.out).mono ?_
            (case side1 => exact GS.rC (Kd.C_below HR2.out HB.out))
            (case side2 => exact HC2.out)
            rintro e w32 ⟨v619, rfl, ho0, hb⟩
            refine ⟨_, rfl, ?_⟩
            have n0_ := Aside0.mk (Kd.R_below (GS.rR HO613.out) hb)
            have n1_ := Aside0.mk (Kd.R_elder' (GS.rR HO617.out) (Kd.R_base ho0) hb)
            have n2_ := Aside0.mk (Kd.R_lower (Kd.R_new' ho0 (Kd.R_lt (GS.rR HO617.out))) (lqZ (GS.lB HB.out)))
            have n3_ := Aside0.mk (bqB (g := gb614) (o := .cells #[.string (⟨#[99]⟩ : ByteArray), .int .i64 1, .slice Ao25 y611.length co25, .int .i64 0] 24 (0, 0)) (GS.bqX BK614.out) hb)
            have n4_ := Aside0.mk (lqT (GS.lB HB.out) hb)
            have z_BK624 := fun (h0_ : b 9 = true) (h1_ : b 10 = false) => (show w32.heap[gb624]? = some (.cells #[.int .i64 0, .int .i64 0] 28 (0, 0)) from by first | exact (bqB (GS.bqX (Q_BK624 h0_ h1_)) hb))
            clear HO613
            clear HO617
            clear BK614
            clear HB
            have HO613 := n0_
            have HO617 := n1_
            have HO620 := n2_
            have BK614 := n3_
            have HB := n4_
            clear n0_ n1_ n2_ n3_ n4_
            (try clear hb)
            (try clear hb2)
            (try clear hk)
            (try clear hi)
            (try clear ho0)
            refine hK.out _ _ ⟨v616, v619, gb624, m9_, (by rw [ha.out]; exact putSel_upk 2 hb_ rfl rfl rfl), (GS.rR HO613.out), (GS.bqX BK614.out), (GS.lB HB.out), fun _ => (GS.rR (Kd.R_mono HO617.out (fun _ hk => GS.cj hk))), fun _ => (GS.rR (Kd.R_mono HO620.out (fun _ hk => GS.cj hk))), z_BK624, Q_GW624, Q_GE624, Q_NB614_624, Q_NB624_614, fun h0_ => absurd ((hoff 10 (by kernel_rfl)).symm.trans h0_) (by decide), Q_X9_⟩
           refine steps_cons ?_ ?_
           ·rintro b a w' ⟨v616, v619, gb624, m9_, ha, Q_HO613, Q_BK614, Q_HB, Q_HO617, Q_HO620, Q_BK624, Q_GW624, Q_GE624, Q_NB614_624, Q_NB624_614, Q_BK624_e10, Q_X9_⟩ hb_ hon hoff
            refine ⟨_, rfl, fun K hK => ?_⟩
            have e42 : a.tmps[42]? = some (.agg #[.string (⟨#[99]⟩ : ByteArray), .int .i64 1, .slice Ao25 y611.length co25, .int .i64 0]) := by rw [ha]; exact putSel_on (e := (0, 42, .agg #[.string (⟨#[99]⟩ : ByteArray), .int .i64 1, .slice Ao25 y611.length co25, .int .i64 0])) 0 rfl rfl (hon 0 (by kernel_rfl)) rfl
            have e44 : a.tmps[44]? = some (v616) := by rw [ha]; exact putSel_on (e := (2, 44, v616)) 1 rfl rfl (hon 2 (by kernel_rfl)) rfl
            have e46 : a.tmps[46]? = some (v619) := by rw [ha]; exact putSel_on (e := (4, 46, v619)) 2 rfl rfl (hon 4 (by kernel_rfl)) rfl
            replace ha := Aside0.mk ha
            have HO613 := Aside0.mk Q_HO613
            have BK614 := Aside0.mk Q_BK614
            have HB := Aside0.mk Q_HB
            have HO617 := Aside0.mk (Q_HO617 (hon 2 (by kernel_rfl)))
            have HO620 := Aside0.mk (Q_HO620 (hon 4 (by kernel_rfl)))
            obtain ⟨Ao33, co33, eo33⟩ := Kd.R_slice HO617.out
            (first | subst eo33 | (injection eo33 with f1_ f2_ f3_; have f4_ := f1_.symm; have f5_ := f3_.symm; clear f1_ f2_ f3_; subst f4_; subst f5_))
            obtain ⟨Ao34, co34, eo34⟩ := Kd.R_slice HO620.out
            (first | subst eo34 | (injection eo34 with f1_ f2_ f3_; have f4_ := f1_.symm; have f5_ := f3_.symm; clear f1_ f2_ f3_; subst f4_; subst f5_))
            refine goes_ Try.func24 (by kernel_rfl) rfl #[.agg #[.string (⟨#[99]⟩ : ByteArray), .int .i64 1, .slice Ao25 y611.length co25, .int .i64 0], .slice Ao33 t615.length co33, .slice Ao34 t618.length co34] (by rfl) rfl rfl (by first | (simp only [List.map_toArray, List.map_cons, List.map_nil, Act.eval, Array.getD_eq_getD_getElem?, Option.getD_some, e42, e44, e46]; done) | (simp only [List.map_toArray, List.map_cons, List.map_nil, Act.eval, Array.getD_eq_getD_getElem?, Option.getD_some, e42, e44, e46]; rfl)) ?_
            with_reducible refine (lying_Between.calls kj5 (⟨#[99]⟩ : ByteArray) 1 _ _ y611 0 _ _ t615 _ _ t618 t621 t622 t623 _ ?side1 ?side2 ?side3 ?side4 ?side5 ?side6 A16.out).mono ?_
            (case side1 => repeat (first | exact (Kd.R_reads' HO613.out).2.2 | (with_reducible refine Kd.C_alloc ?_ _) | (with_reducible refine Kd.C_drewN ?_ _) | (with_reducible refine Kd.C_drew ?_)))
            (case side2 => exact (Kd.R_reads' HO613.out).2.1)
            (case side3 => repeat (first | exact (Kd.R_reads' HO617.out).2.2 | (with_reducible refine Kd.C_alloc ?_ _) | (with_reducible refine Kd.C_drewN ?_ _) | (with_reducible refine Kd.C_drew ?_)))
            (case side4 => exact (Kd.R_reads' HO617.out).2.1)
            (case side5 => repeat (first | exact (Kd.R_reads' HO620.out).2.2 | (with_reducible refine Kd.C_alloc ?_ _) | (with_reducible refine Kd.C_drewN ?_ _) | (with_reducible refine Kd.C_drew ?_)))
            (case side6 => exact (Kd.R_reads' HO620.out).2.1)
            rintro e w35 ⟨rfl, hb⟩
            refine ⟨_, rfl, ?_⟩
            have n0_ := Aside0.mk (Kd.R_below (GS.rR HO613.out) hb)
            have n1_ := Aside0.mk (Kd.R_below (GS.rR HO617.out) hb)
            have n2_ := Aside0.mk (Kd.R_below (GS.rR HO620.out) hb)
            have n3_ := Aside0.mk (bqB (g := gb614) (o := .cells #[.string (⟨#[99]⟩ : ByteArray), .int .i64 1, .slice Ao25 y611.length co25, .int .i64 0] 24 (0, 0)) (GS.bqX BK614.out) hb)
            have n4_ := Aside0.mk (lqT (GS.lB HB.out) hb)
            have z_BK624 := fun (h0_ : b 9 = true) (h1_ : b 10 = false) => (show w35.heap[gb624]? = some (.cells #[.int .i64 0, .int .i64 0] 28 (0, 0)) from by first | exact (bqB (GS.bqX (Q_BK624 h0_ h1_)) hb))
            clear HO613
            clear HO617
            clear HO620
            clear BK614
            clear HB
            have HO613 := n0_
            have HO617 := n1_
            have HO620 := n2_
            have BK614 := n3_
            have HB := n4_
            clear n0_ n1_ n2_ n3_ n4_
            (try clear hb)
            (try clear hb2)
            (try clear hk)
            (try clear hi)
            refine hK.out _ _ ⟨.slice Ao33 t615.length co33, .slice Ao34 t618.length co34, gb624, m9_, (by rw [ha.out]; exact putSel_upk 3 hb_ rfl rfl rfl), (GS.rR HO613.out), (GS.bqX BK614.out), (GS.lB HB.out), fun _ => (GS.rR HO617.out), fun _ => (GS.rR HO620.out), z_BK624, Q_GW624, Q_GE624, Q_NB614_624, Q_NB624_614, fun h0_ => absurd ((hoff 10 (by kernel_rfl)).symm.trans h0_) (by decide), Q_X9_⟩
           refine steps_cons ?_ ?_
           ·rintro b a w' ⟨v616, v619, gb624, m9_, ha, Q_HO613, Q_BK614, Q_HB, Q_HO617, Q_HO620, Q_BK624, Q_GW624, Q_GE624, Q_NB614_624, Q_NB624_614, Q_BK624_e10, Q_X9_⟩ hb_ hon hoff
            refine ⟨_, rfl, fun K hK => ?_⟩
            have e47 : a.tmps[47]? = some (.tuple #[.agg #[.int .i64 t621, .int .i64 t622], .int .i64 t623]) := by rw [ha]; exact putSel_on (e := (5, 47, .tuple #[.agg #[.int .i64 t621, .int .i64 t622], .int .i64 t623])) 3 rfl rfl (hon 5 (by kernel_rfl)) rfl
            replace ha := Aside0.mk ha
            have HO613 := Aside0.mk Q_HO613
            have BK614 := Aside0.mk Q_BK614
            have HB := Aside0.mk Q_HB
            have HO617 := Aside0.mk (Q_HO617 (hon 2 (by kernel_rfl)))
            have HO620 := Aside0.mk (Q_HO620 (hon 4 (by kernel_rfl)))
            refine value_ (w1 := w') (v := .tuple #[.agg #[.int .i64 t621, .int .i64 t622], .int .i64 t623]) (by rfl) rfl ?_ ?_
            ·go_simp
             (try simp only [i64_w])
             try rfl
            refine hK.out _ _ ⟨v616, v619, gb624, m9_, (by rw [ha.out]; exact putSel_upk 4 hb_ rfl rfl rfl), Q_HO613, Q_BK614, Q_HB, Q_HO617, Q_HO620, Q_BK624, Q_GW624, Q_GE624, Q_NB614_624, Q_NB624_614, fun h0_ => absurd ((hoff 10 (by kernel_rfl)).symm.trans h0_) (by decide), Q_X9_⟩
           refine steps_cons ?_ ?_
           ·rintro b a w' ⟨v616, v619, gb624, m9_, ha, Q_HO613, Q_BK614, Q_HB, Q_HO617, Q_HO620, Q_BK624, Q_GW624, Q_GE624, Q_NB614_624, Q_NB624_614, Q_BK624_e10, Q_X9_⟩ hb_ hon hoff
            refine ⟨_, rfl, fun K hK => ?_⟩
            have e41 : a.tmps[41]? = some (.tuple #[.agg #[.int .i64 t621, .int .i64 t622], .int .i64 t623]) := by rw [ha]; exact putSel_on (e := (6, 41, .tuple #[.agg #[.int .i64 t621, .int .i64 t622], .int .i64 t623])) 4 rfl rfl (hon 6 (by kernel_rfl)) rfl
            replace ha := Aside0.mk ha
            have HO613 := Aside0.mk Q_HO613
            have BK614 := Aside0.mk Q_BK614
            have HB := Aside0.mk Q_HB
            have HO617 := Aside0.mk (Q_HO617 (hon 2 (by kernel_rfl)))
            have HO620 := Aside0.mk (Q_HO620 (hon 4 (by kernel_rfl)))
            refine value_ (w1 := w') (v := .agg #[.int .i64 t621, .int .i64 t622]) (by rfl) rfl ?_ ?_
            ·go_simp
             (try simp only [i64_w])
             try rfl
            refine hK.out _ _ ⟨v616, v619, gb624, m9_, (by rw [ha.out]; exact putSel_upk 5 hb_ rfl rfl rfl), Q_HO613, Q_BK614, Q_HB, Q_HO617, Q_HO620, Q_BK624, Q_GW624, Q_GE624, Q_NB614_624, Q_NB624_614, fun h0_ => absurd ((hoff 10 (by kernel_rfl)).symm.trans h0_) (by decide), Q_X9_⟩
           refine steps_cons ?_ ?_
           ·rintro b a w' ⟨v616, v619, gb624, m9_, ha, Q_HO613, Q_BK614, Q_HB, Q_HO617, Q_HO620, Q_BK624, Q_GW624, Q_GE624, Q_NB614_624, Q_NB624_614, Q_BK624_e10, Q_X9_⟩ hb_ hon hoff
            refine ⟨_, rfl, fun K hK => ?_⟩
            have e41 : a.tmps[41]? = some (.tuple #[.agg #[.int .i64 t621, .int .i64 t622], .int .i64 t623]) := by rw [ha]; exact putSel_on (e := (6, 41, .tuple #[.agg #[.int .i64 t621, .int .i64 t622], .int .i64 t623])) 4 rfl rfl (hon 6 (by kernel_rfl)) rfl
            replace ha := Aside0.mk ha
            have HO613 := Aside0.mk Q_HO613
            have BK614 := Aside0.mk Q_BK614
            have HB := Aside0.mk Q_HB
            have HO617 := Aside0.mk (Q_HO617 (hon 2 (by kernel_rfl)))
            have HO620 := Aside0.mk (Q_HO620 (hon 4 (by kernel_rfl)))
            refine value_ (w1 := w') (v := .int .i64 t623) (by rfl) rfl ?_ ?_
            ·go_simp
             (try simp only [i64_w])
             try rfl
            refine hK.out _ _ ⟨v616, v619, gb624, m9_, (by rw [ha.out]; exact putSel_upk 6 hb_ rfl rfl rfl), Q_HO613, Q_BK614, Q_HB, Q_HO617, Q_HO620, Q_BK624, Q_GW624, Q_GE624, Q_NB614_624, Q_NB624_614, Q_BK624_e10, Q_X9_⟩
           refine steps_cons ?_ ?_
           ·rintro b a w' ⟨v616, v619, gb624, m9_, ha, Q_HO613, Q_BK614, Q_HB, Q_HO617, Q_HO620, Q_BK624, Q_GW624, Q_GE624, Q_NB614_624, Q_NB624_614, Q_BK624_e10, Q_X9_⟩ hb_ hon hoff
            refine ⟨_, rfl, fun K hK => ?_⟩
            replace ha := Aside0.mk ha
            have HO613 := Aside0.mk Q_HO613
            have BK614 := Aside0.mk Q_BK614
            have HB := Aside0.mk Q_HB
            refine box_step ?hg (N := 9) ?hd (cs := #[.int .i64 0, .int .i64 0]) (t := 28) ?hr ?_; (case hd => rfl); (case hg => rfl); (case hr => first | (go_simp; done) | (go_simp; rfl))
            intro gb624 hg w30 hbox hb
            have n0_ := Aside0.mk (Kd.R_below (GS.rR HO613.out) hb)
            have n1_ := Aside0.mk (bqB (g := gb614) (o := .cells #[.string (⟨#[99]⟩ : ByteArray), .int .i64 1, .slice Ao25 y611.length co25, .int .i64 0] 24 (0, 0)) (GS.bqX BK614.out) hb)
            have n2_ := Aside0.mk (lqT (GS.lB HB.out) hb)
            have n3_ := Aside0.mk (hbox)
            have n4_ := Aside0.mk ((by rw [hg]; exact (lqZ (GS.lB HB.out)) : w.heap.size ≤ gb624))
            have n5_ := Aside0.mk ((by rw [hg]; exact (lqZ (GS.lB HB.out)) : w.heap.size ≤ gb624))
            have n6_ := Aside0.mk ((by rw [hg]; exact Nat.ne_of_lt (blk_lt (g := gb614) (o := .cells #[.string (⟨#[99]⟩ : ByteArray), .int .i64 1, .slice Ao25 y611.length co25, .int .i64 0] 24 (0, 0)) (GS.bqX BK614.out)) : gb614 ≠ gb624))
            have n7_ := Aside0.mk ((by rw [hg]; exact Nat.ne_of_gt (blk_lt (g := gb614) (o := .cells #[.string (⟨#[99]⟩ : ByteArray), .int .i64 1, .slice Ao25 y611.length co25, .int .i64 0] 24 (0, 0)) (GS.bqX BK614.out)) : gb624 ≠ gb614))
            have z_HO617 := fun (h0_ : b 2 = true) => (show Kd.R (Kd.int .i64) 3 w30 w.heap.size (fun _ => True) v616 t615 from by first | exact (Kd.R_below (GS.rR (Q_HO617 h0_)) hb) | exact Kd.R_mono (Kd.R_below (GS.rR (Q_HO617 h0_)) hb) (fun _ hk => GS.cj hk))
            have z_HO620 := fun (h0_ : b 4 = true) => (show Kd.R (Kd.int .i64) 3 w30 w.heap.size (fun _ => True) v619 t618 from by first | exact (Kd.R_below (GS.rR (Q_HO620 h0_)) hb) | exact Kd.R_mono (Kd.R_below (GS.rR (Q_HO620 h0_)) hb) (fun _ hk => GS.cj hk))
            clear HO613
            clear BK614
            clear HB
            have HO613 := n0_
            have BK614 := n1_
            have HB := n2_
            have BK624 := n3_
            have GW624 := n4_
            have GE624 := n5_
            have NB614_624 := n6_
            have NB624_614 := n7_
            clear n0_ n1_ n2_ n3_ n4_ n5_ n6_ n7_
            clear hb hbox hg
            refine hK.out _ _ ⟨v616, v619, gb624, (.pointer (some ⟨gb624, 0, none⟩)), (by rw [ha.out]; exact putSel_upk 7 hb_ rfl rfl rfl), (GS.rR HO613.out), (GS.bqX BK614.out), (GS.lB HB.out), z_HO617, z_HO620, fun _ _ => (GS.bqX BK624.out), fun _ => GW624.out, fun _ => GE624.out, fun _ => NB614_624.out, fun _ => NB624_614.out, fun h0_ => absurd ((hoff 10 (by kernel_rfl)).symm.trans h0_) (by decide), fun _ => rfl⟩
           refine steps_cons ?_ ?_
           ·rintro b a w' ⟨v616, v619, gb624, m9_, ha, Q_HO613, Q_BK614, Q_HB, Q_HO617, Q_HO620, Q_BK624, Q_GW624, Q_GE624, Q_NB614_624, Q_NB624_614, Q_BK624_e10, Q_X9_⟩ hb_ hon hoff
            refine ⟨_, rfl, fun K hK => ?_⟩
            have e9 : a.tmps[9]? = some (m9_) := by rw [ha]; exact putSel_on (e := (9, 9, m9_)) 7 rfl rfl (hon 9 (by kernel_rfl)) rfl
            rw [Q_X9_ (hon 9 (by kernel_rfl))] at e9
            have e48 : a.tmps[48]? = some (.agg #[.int .i64 t621, .int .i64 t622]) := by rw [ha]; exact putSel_on (e := (7, 48, .agg #[.int .i64 t621, .int .i64 t622])) 5 rfl rfl (hon 7 (by kernel_rfl)) rfl
            replace ha := Aside0.mk ha
            have HO613 := Aside0.mk Q_HO613
            have BK614 := Aside0.mk Q_BK614
            have HB := Aside0.mk Q_HB
            have HO617 := Aside0.mk (Q_HO617 (hon 2 (by kernel_rfl)))
            have HO620 := Aside0.mk (Q_HO620 (hon 4 (by kernel_rfl)))
            have BK624 := Aside0.mk (Q_BK624 (hon 9 (by kernel_rfl)) hb_)
            have GW624 := Aside0.mk (Q_GW624 (hon 9 (by kernel_rfl)))
            have GE624 := Aside0.mk (Q_GE624 (hon 9 (by kernel_rfl)))
            have NB614_624 := Aside0.mk (Q_NB614_624 (hon 9 (by kernel_rfl)))
            have NB624_614 := Aside0.mk (Q_NB624_614 (hon 9 (by kernel_rfl)))
            have hs37 : w'.cell? ⟨gb624, 0, none⟩ = some (.int .i64 0) := (bqC BK624.out 0).trans rfl
            have hfs37 := bqF BK624.out 0
            have hns37_0 := NB614_624.out
            have hms37_0 := NB624_614.out
            have hs38 : w'.cell? ⟨gb624, 1, none⟩ = some (.int .i64 0) := (bqC BK624.out 1).trans rfl
            have hfs38 := bqF BK624.out 1
            have hns38_0 := NB614_624.out
            have hms38_0 := NB624_614.out
            refine skip_ (w1 := ?_) (by rfl) rfl ?_ ?_
            rotate_left
            ·go_simp
             rfl
            refine hK.out _ _ ⟨v616, v619, gb624, m9_, (by rw [ha.out]; exact putSel_none (v := undef) rfl), (by (with_reducible repeat (first | apply Kd.R_alloc | apply Kd.R_drewN | apply Kd.R_drew)); exact Kd.R_mono (Kd.R_far (p := ⟨gb624, 1, none⟩) (Kd.R_far (p := ⟨gb624, 0, none⟩) (Kd.R_types HO613.out BK624.out (by decide)) (fun _ hk => hk.2) (.int .i64 t621)) (fun _ hk => hk.2) (.int .i64 t622)) (fun _ hk => trivial)), (GS.bqX BK614.out), (GS.lB HB.out), fun _ => (by (with_reducible repeat (first | apply Kd.R_alloc | apply Kd.R_drewN | apply Kd.R_drew)); exact Kd.R_mono (Kd.R_far (p := ⟨gb624, 1, none⟩) (Kd.R_far (p := ⟨gb624, 0, none⟩) (Kd.R_types HO617.out BK624.out (by decide)) (fun _ hk => hk.2) (.int .i64 t621)) (fun _ hk => hk.2) (.int .i64 t622)) (fun _ hk => GS.cj hk)), fun _ => (by (with_reducible repeat (first | apply Kd.R_alloc | apply Kd.R_drewN | apply Kd.R_drew)); exact Kd.R_mono (Kd.R_far (p := ⟨gb624, 1, none⟩) (Kd.R_far (p := ⟨gb624, 0, none⟩) (Kd.R_types HO620.out BK624.out (by decide)) (fun _ hk => hk.2) (.int .i64 t621)) (fun _ hk => hk.2) (.int .i64 t622)) (fun _ hk => GS.cj hk)), fun _ h1_ => absurd ((up_self b 10).symm.trans h1_) (by decide), fun _ => GW624.out, fun _ => GE624.out, fun _ => NB614_624.out, fun _ => NB624_614.out, fun _ => (GS.bqZ BK624.out), Q_X9_⟩
           refine steps_cons ?_ ?_
           ·rintro b a w' ⟨v616, v619, gb624, m9_, ha, Q_HO613, Q_BK614, Q_HB, Q_HO617, Q_HO620, Q_BK624, Q_GW624, Q_GE624, Q_NB614_624, Q_NB624_614, Q_BK624_e10, Q_X9_⟩ hb_ hon hoff
            refine ⟨_, rfl, fun K hK => ?_⟩
            have e49 : a.tmps[49]? = some (.int .i64 t623) := by rw [ha]; exact putSel_on (e := (8, 49, .int .i64 t623)) 6 rfl rfl (hon 8 (by kernel_rfl)) rfl
            replace ha := Aside0.mk ha
            have HO613 := Aside0.mk Q_HO613
            have BK614 := Aside0.mk Q_BK614
            have HB := Aside0.mk Q_HB
            have HO617 := Aside0.mk (Q_HO617 (hon 2 (by kernel_rfl)))
            have HO620 := Aside0.mk (Q_HO620 (hon 4 (by kernel_rfl)))
            have GW624 := Aside0.mk (Q_GW624 (hon 9 (by kernel_rfl)))
            have GE624 := Aside0.mk (Q_GE624 (hon 9 (by kernel_rfl)))
            have NB614_624 := Aside0.mk (Q_NB614_624 (hon 9 (by kernel_rfl)))
            have NB624_614 := Aside0.mk (Q_NB624_614 (hon 9 (by kernel_rfl)))
            have BK624 := Aside0.mk (Q_BK624_e10 (hon 10 (by kernel_rfl)))
            refine value_ (w1 := w') (v := .int .i64 t623) (by rfl) rfl ?_ ?_
            ·go_simp
             (try simp only [i64_w])
             try rfl
            refine hK.out _ _ ⟨v616, v619, gb624, m9_, (by rw [ha.out]; exact putSel_upk 8 hb_ rfl rfl rfl), Q_HO613, Q_BK614, Q_HB, Q_HO617, Q_HO620, fun _ h1_ => absurd ((hon 10 (by kernel_rfl)).symm.trans h1_) (by decide), Q_GW624, Q_GE624, Q_NB614_624, Q_NB624_614, Q_BK624_e10, Q_X9_⟩
           exact steps_nil
          rintro b a w38 hall ⟨v616, v619, gb624, m9_, ha, Q_HO613, Q_BK614, Q_HB, Q_HO617, Q_HO620, Q_BK624, Q_GW624, Q_GE624, Q_NB614_624, Q_NB624_614, Q_BK624_e10, Q_X9_⟩
          clear BK614 HB HO613
          have hb0_ := hall 0 (by kernel_rfl)
          have hb2_ := hall 2 (by kernel_rfl)
          have hb4_ := hall 4 (by kernel_rfl)
          have hb5_ := hall 5 (by kernel_rfl)
          have hb6_ := hall 6 (by kernel_rfl)
          have hb7_ := hall 7 (by kernel_rfl)
          have hb8_ := hall 8 (by kernel_rfl)
          have hb9_ := hall 9 (by kernel_rfl)
          have hb10_ := hall 10 (by kernel_rfl)
          have hb11_ := hall 11 (by kernel_rfl)
          subst ha
          obtain rfl := Q_X9_ hb9_
          simp only [putSel, hb0_, hb2_, hb4_, hb5_, hb6_, hb7_, hb8_, hb9_, hb10_, hb11_, if_true, Act.put, List.setIfInBounds_toArray, List.set_cons_zero, List.set_cons_succ]
          have HO613 := Aside0.mk Q_HO613
          clear Q_HO613
          have BK614 := Aside0.mk Q_BK614
          clear Q_BK614
          have HB := Aside0.mk Q_HB
          clear Q_HB
          have HO617 := Aside0.mk (Q_HO617 hb2_)
          clear Q_HO617
          have HO620 := Aside0.mk (Q_HO620 hb4_)
          clear Q_HO620
          clear Q_BK624
          have GW624 := Aside0.mk (Q_GW624 hb9_)
          clear Q_GW624
          have GE624 := Aside0.mk (Q_GE624 hb9_)
          clear Q_GE624
          have NB614_624 := Aside0.mk (Q_NB614_624 hb9_)
          clear Q_NB614_624
          have NB624_614 := Aside0.mk (Q_NB624_614 hb9_)
          clear Q_NB624_614
          have BK624 := Aside0.mk (Q_BK624_e10 hb10_)
          clear Q_BK624_e10
          clear hall hb0_ hb2_ hb4_ hb5_ hb6_ hb7_ hb8_ hb9_ hb10_ hb11_
          try go_wp2_with (first | ((with_reducible refine gqC (f := 22) rfl ?_); refine GS.gL (some 59) Try.func22 #[.slice A2 l2.length c2] ?_; (with_reducible refine (clone22.calls _ _ l2 t625 _ ?side1 ?side2 A18.out).mono ?_); (case side1 => exact GS.rC (Kd.C_below HR2.out HB.out)); (case side2 => exact HC2.out); rintro e w39 ⟨v626, rfl, ho0, hb⟩; refine ⟨_, rfl, ?_⟩; have q_ := GS.q7 (GS.kR HO613 hb) (GS.kE HO617 ho0 hb) (GS.kE HO620 ho0 hb) (Aside0.mk (Kd.R_lower (Kd.R_new' (Kd.R_new' ho0 (Kd.R_lt (GS.rR HO617.out))) (Kd.R_lt (GS.rR HO620.out))) (lqZ (GS.lB HB.out)))) (Aside0.mk (bqB (g := gb614) (o := .cells #[.string (⟨#[99]⟩ : ByteArray), .int .i64 1, .slice Ao25 y611.length co25, .int .i64 0] 24 (0, 0)) (GS.bqX BK614.out) hb)) (GS.kB BK624 hb) (GS.kH HB hb); clear HO613 HO617 HO620 BK614 BK624 HB; obtain ⟨HO613, HO617, HO620, HO627, BK614, BK624, HB⟩ := q_; (try clear hb); (try clear hb2); (try clear hk); (try clear hi); (try clear ho0); obtain ⟨Ao40, co40, eo40⟩ := Kd.R_slice HO627.out; subst eo40) | ((with_reducible refine gqC (f := 29) rfl ?_); refine GS.gL (some 60) Try.func29 #[.int .i64 a0, .int .i64 a0, .slice Ao40 t625.length co40] ?_; (with_reducible refine (area29.calls a0 a0 _ _ t625 t628 t629 t630 _ ?side1 ?side2 A19.out).mono ?_); (case side1 => repeat (first | exact (Kd.R_reads' HO627.out).2.2 | (with_reducible refine Kd.C_alloc ?_ _) | (with_reducible refine Kd.C_drewN ?_ _) | (with_reducible refine Kd.C_drew ?_))); (case side2 => exact (Kd.R_reads' HO627.out).2.1); rintro e w41 ⟨rfl, hb⟩; refine ⟨_, rfl, ?_⟩; have q_ := GS.q7 (GS.kR HO613 hb) (GS.kR HO617 hb) (GS.kR HO620 hb) (GS.kR HO627 hb) (Aside0.mk (bqB (g := gb614) (o := .cells #[.string (⟨#[99]⟩ : ByteArray), .int .i64 1, .slice Ao25 y611.length co25, .int .i64 0] 24 (0, 0)) (GS.bqX BK614.out) hb)) (GS.kB BK624 hb) (GS.kH HB hb); clear HO613 HO617 HO620 HO627 BK614 BK624 HB; obtain ⟨HO613, HO617, HO620, HO627, BK614, BK624, HB⟩ := q_; (try clear hb); (try clear hb2); (try clear hk); (try clear hi)) | ((with_reducible refine gqD (N := 11) rfl ?_); (try (refine gate_guard (by rfl) ?_; dsimp only)); refine GS.bx (N := 11) (cs := #[.int .i64 0, .int .i64 0]) (t := 28) ?_; intro gb631 hg w42 hbox hb; have q_ := GS.q14 (GS.kR HO613 hb) (GS.kR HO617 hb) (GS.kR HO620 hb) (GS.kR HO627 hb) (Aside0.mk (bqB (g := gb614) (o := .cells #[.string (⟨#[99]⟩ : ByteArray), .int .i64 1, .slice Ao25 y611.length co25, .int .i64 0] 24 (0, 0)) (GS.bqX BK614.out) hb)) (GS.kB BK624 hb) (GS.kH HB hb) (Aside0.mk hbox) (GS.kZ hg HB) (GS.kZ hg HB) (Aside0.mk ((by rw [hg]; exact Nat.ne_of_lt (blk_lt (g := gb614) (o := .cells #[.string (⟨#[99]⟩ : ByteArray), .int .i64 1, .slice Ao25 y611.length co25, .int .i64 0] 24 (0, 0)) (GS.bqX BK614.out)) : gb614 ≠ gb631))) (Aside0.mk ((by rw [hg]; exact Nat.ne_of_gt (blk_lt (g := gb614) (o := .cells #[.string (⟨#[99]⟩ : ByteArray), .int .i64 1, .slice Ao25 y611.length co25, .int .i64 0] 24 (0, 0)) (GS.bqX BK614.out)) : gb631 ≠ gb614))) (Aside0.mk ((by rw [hg]; exact Nat.ne_of_lt (blk_lt (GS.bqX BK624.out)) : gb624 ≠ gb631))) (Aside0.mk ((by rw [hg]; exact Nat.ne_of_gt (blk_lt (GS.bqX BK624.out)) : gb631 ≠ gb624))); clear HO613 HO617 HO620 HO627 BK614 BK624 HB; obtain ⟨HO613, HO617, HO620, HO627, BK614, BK624, HB, BK631, GW631, GE631, NB614_631, NB631_614, NB624_631, NB631_624⟩ := q_; clear hb hbox hg; have hnb43 := NB631_614.out; have hnc43 := NB614_631.out; have hnb44 := NB631_624.out; have hnc44 := NB624_631.out; obtain ⟨hcz45_0, hcz45_1, hfz45_0, hfz45_1⟩ := GS.c2 BK631.out; have hnb46 := NB614_624.out; have hnc46 := NB624_614.out; obtain ⟨hcz47_0, hcz47_1, hcz47_2, hcz47_3, hfz47_0, hfz47_1, hfz47_2, hfz47_3⟩ := GS.c4 BK614.out) | (go_at_call 30; (with_reducible refine (spileref08_Check.calls kj5 _ _ y611 t632 _ ?side1 ?side2 A21.out).mono ?_); (case side1 => refine (Kd.R_reads' (e := 39) (base := w.heap.size) (ok := fun k_ => True) (n := y611.length) (c := co25) ?_).2.2; exact (by (with_reducible repeat (first | apply Kd.R_alloc | apply Kd.R_drewN | apply Kd.R_drew)); exact (Kd.R_mono (Kd.R_far (p := ⟨gb631, 1, none⟩) (Kd.R_far (p := ⟨gb631, 0, none⟩) (Kd.R_types HO613.out BK631.out (by decide)) (fun _ hk => hk.2) (.int .i64 t628)) (fun _ hk => hk.2) (.int .i64 t629)) (fun _ h_ => h_.1)))); (case side2 => exact (Kd.R_reads' HO613.out).2.1); rintro e w' ⟨rfl, ⟨nd, rfl⟩⟩; obtain ⟨hcz48_0, hcz48_1, hfz48_0, hfz48_1⟩ := GS.c2 BK624.out))
          go_ret
          exact ⟨by first | rfl | (simp [errW_none, errW_some] <;> rfl) | (simp only [← hji11]; first | rfl | (simp [errW_none, errW_some] <;> rfl)) | (simp [*, errW_none, errW_some] <;> rfl), GS.lB HB.out⟩
         ·rw [if_neg c22] at H
          exact absurd H (by simp)
        ·rw [if_neg c20] at H
         exact absurd H (by simp)
       ·rw [if_neg c17] at H
        have c17b0 : (t623 == 0) = false := beq_eq_false_iff_ne.mpr c17
        try simp only [beq_self_eq_true, Bool.not_true, Bool.false_or, Bool.true_and] at c17b0
        have c17b1 : (t623 != 0) = true := bne_iff_ne.mpr c17
        obtain rfl := Option.some.inj H
        have p610 : 0 ≤ ((ji11) : Int) := of_decide_eq_true (by first | (with_reducible assumption) | assumption)
        have q610 : (ji11) < (l1.length : Int) := of_decide_eq_true (by first | (with_reducible assumption) | assumption)
        obtain ⟨ad610, e610, hx610_0⟩ := Kd.at_int HR1.out (ji11) p610 q610
        cases e610
        replace hx610_0 := (HB.out.cell (World.block_lt_of_cell? w _ hx610_0)).trans hx610_0
        replace p610 := eq_true p610
        replace q610 := eq_true q610
        try go_wp2_with (first | ((with_reducible refine gqD (N := 39) rfl ?_); (try (refine gate_guard (by rfl) ?_; dsimp only)); refine Kd.R_lit k39 _ 39 ?hg (N := 39) ?hd (xs := ([(⟨0, a0⟩ : S39), (⟨rd l1 (ji11), a0⟩ : S39)] : List (S39))) (inner := [.int .i64 0, .int .i64 a0, .int .i64 (rd l1 (ji11)), .int .i64 a0]) (ok := fun _ => True) (okp := fun _ => True) ?hr ?hp (fun _ hk => hk) trivial (Below.refl _ _) (Nat.le_refl _) (by simp) ?_; (case hd => rfl); (case hg => rfl); (case hr => first | (go_simp; done) | (go_simp; rfl)); (case hp => exact (Reps.c2 (show Kd.M k39 _ _ _ (⟨0, a0⟩ : S39) [.int .i64 0, .int .i64 a0] from (k39_mkM _ _ _ (⟨0, a0⟩ : S39) )) (Reps.c2 (show Kd.M k39 _ _ _ (⟨rd l1 (ji11), a0⟩ : S39) [.int .i64 (rd l1 (ji11)), .int .i64 a0] from (k39_mkM _ _ _ (⟨rd l1 (ji11), a0⟩ : S39) )) (Reps.none _ _)))); intro v612 w49 ho50 hb hg_ hnew_; clear hg_ hnew_; (first | rw [← Ny611.out] at ho50 | (simp only [Int.reduceToNat] at ho50; rw [← Ny611.out] at ho50)); have q_ := GS.q2 (GS.kL ho50 HB) (GS.kH HB hb); clear HB; obtain ⟨HO613, HB⟩ := q_; clear hb ho50; obtain ⟨Ao51, co51, eo51⟩ := Kd.R_slice HO613.out; subst eo51) | ((with_reducible refine gqD (N := 8) rfl ?_); (try (refine gate_guard (by rfl) ?_; dsimp only)); refine box_event ?hg (N := 8) ?hd (cs := #[.string (⟨#[]⟩ : ByteArray), .int .i64 0, .slice none 0 0, .int .i64 0]) (t := 24) ?hr ?_; (case hd => rfl); (case hg => rfl); (case hr => first | (go_simp; done) | (go_simp; rfl)); intro gb614 hg w52 hbox hb; have q_ := GS.q5 (GS.kR HO613 hb) (GS.kH HB hb) (Aside0.mk hbox) (GS.kZ hg HB) (GS.kZ hg HB); clear HO613 HB; obtain ⟨HO613, HB, BK614, GW614, GE614⟩ := q_; clear hb hbox hg; obtain ⟨hcz53_0, hcz53_1, hcz53_2, hcz53_3, hfz53_0, hfz53_1, hfz53_2, hfz53_3⟩ := GS.c4 BK614.out))
        have n0_ : Aside0 (Kd.R k39 39 ((((w52.setCell ⟨gb614, 0, none⟩ (.string (⟨#[99]⟩ : ByteArray))).setCell ⟨gb614, 1, none⟩ (.int .i64 1)).setCell ⟨gb614, 2, none⟩ (.slice Ao51 y611.length co51)).setCell ⟨gb614, 3, none⟩ (.int .i64 0)) w.heap.size (fun _ => True) (.slice Ao51 y611.length co51) y611) := ⟨by (with_reducible repeat (first | apply Kd.R_alloc | apply Kd.R_drewN | apply Kd.R_drew)); exact Kd.R_mono (Kd.R_far (p := ⟨gb614, 3, none⟩) (Kd.R_far (p := ⟨gb614, 2, none⟩) (Kd.R_far (p := ⟨gb614, 1, none⟩) (Kd.R_far (p := ⟨gb614, 0, none⟩) (Kd.R_types HO613.out BK614.out (by decide)) (fun _ hk => hk.2) (.string (⟨#[99]⟩ : ByteArray))) (fun _ hk => hk.2) (.int .i64 1)) (fun _ hk => hk.2) (.slice Ao51 y611.length co51)) (fun _ hk => hk.2) (.int .i64 0)) (fun _ hk => trivial)⟩
        have n1_ : Aside0 (((((w52.setCell ⟨gb614, 0, none⟩ (.string (⟨#[99]⟩ : ByteArray))).setCell ⟨gb614, 1, none⟩ (.int .i64 1)).setCell ⟨gb614, 2, none⟩ (.slice Ao51 y611.length co51)).setCell ⟨gb614, 3, none⟩ (.int .i64 0)).heap[gb614]? = some (.cells #[.string (⟨#[99]⟩ : ByteArray), .int .i64 1, .slice Ao51 y611.length co51, .int .i64 0] 24 (0, 0))) := ⟨by (with_reducible repeat (first | refine bqN ?_ _ | refine bqD ?_ | refine bqA ?_ _)); refine bqP (cs := #[.string (⟨#[99]⟩ : ByteArray), .int .i64 1, .slice Ao51 y611.length co51, .int .i64 0]) ?_ 3 _ rfl; (with_reducible repeat (first | refine bqN ?_ _ | refine bqD ?_ | refine bqA ?_ _)); refine bqP (cs := #[.string (⟨#[99]⟩ : ByteArray), .int .i64 1, .slice none 0 0, .int .i64 0]) ?_ 2 _ rfl; (with_reducible repeat (first | refine bqN ?_ _ | refine bqD ?_ | refine bqA ?_ _)); refine bqP (cs := #[.string (⟨#[99]⟩ : ByteArray), .int .i64 0, .slice none 0 0, .int .i64 0]) ?_ 1 _ rfl; (with_reducible repeat (first | refine bqN ?_ _ | refine bqD ?_ | refine bqA ?_ _)); refine bqP (cs := #[.string (⟨#[]⟩ : ByteArray), .int .i64 0, .slice none 0 0, .int .i64 0]) ?_ 0 _ rfl; (with_reducible repeat (first | refine bqN ?_ _ | refine bqD ?_ | refine bqA ?_ _)); exact BK614.out⟩
        have n2_ : Aside0 (Below w.heap.size w ((((w52.setCell ⟨gb614, 0, none⟩ (.string (⟨#[99]⟩ : ByteArray))).setCell ⟨gb614, 1, none⟩ (.int .i64 1)).setCell ⟨gb614, 2, none⟩ (.slice Ao51 y611.length co51)).setCell ⟨gb614, 3, none⟩ (.int .i64 0))) := ⟨GS.lB HB.out⟩
        (try clear HO613)
        (try clear BK614)
        (try clear HB)
        generalize ((((w52.setCell ⟨gb614, 0, none⟩ (.string (⟨#[99]⟩ : ByteArray))).setCell ⟨gb614, 1, none⟩ (.int .i64 1)).setCell ⟨gb614, 2, none⟩ (.slice Ao51 y611.length co51)).setCell ⟨gb614, 3, none⟩ (.int .i64 0)) = w54 at n0_ n1_ n2_ ⊢
        have HO613 := n0_
        have BK614 := n1_
        have HB := n2_
        clear n0_ n1_ n2_
        have q_ := GS.q3 (Aside0.mk (Kd.R_drew HO613.out)) (Aside0.mk (bqD BK614.out)) (Aside0.mk (lqD HB.out))
        clear HO613 BK614 HB
        obtain ⟨HO613, BK614, HB⟩ := q_
        refine start_ (n := 12) (S := fun w' => True) (ds := []) #[false, false, false, false, false, false, false, false, false, false, false, false] (by kernel_rfl) rfl rfl trivial (fun hHeld => ?_); refine with_tabW spilelaw11_LyingCylinders.tab7 spilelaw11_LyingCylinders.bits7 (fun HT_ HW_ => ?_)
        generalize w54.drew = w55 at HO613 BK614 HB hHeld ⊢
        refine GS.pu 1 (some 43) HT_.out ?_
        refine GS.pu 3 (some 45) HT_.out ?_
        refine inv_at [0, 2, 4, 5, 6, 7, 8, 9, 10, 11] (fun a0_ b a w' => ∃ (v616 : Value) (v619 : Value) (gb624 : Nat) (m9_ : Value), a = putSel a0_ b [(0, 42, .agg #[.string (⟨#[99]⟩ : ByteArray), .int .i64 1, .slice Ao51 y611.length co51, .int .i64 0]), (2, 44, v616), (4, 46, v619), (5, 47, .tuple #[.agg #[.int .i64 t621, .int .i64 t622], .int .i64 t623]), (6, 41, .tuple #[.agg #[.int .i64 t621, .int .i64 t622], .int .i64 t623]), (7, 48, .agg #[.int .i64 t621, .int .i64 t622]), (8, 49, .int .i64 t623), (9, 9, m9_), (11, 10, .int .i64 t623)] ∧ (Kd.R k39 39 w' w.heap.size (fun _ => True) (.slice Ao51 y611.length co51) y611) ∧ (w'.heap[gb614]? = some (.cells #[.string (⟨#[99]⟩ : ByteArray), .int .i64 1, .slice Ao51 y611.length co51, .int .i64 0] 24 (0, 0))) ∧ (Below w.heap.size w w') ∧ (b 2 = true → Kd.R (Kd.int .i64) 3 w' w.heap.size (fun _ => True) v616 t615) ∧ (b 4 = true → Kd.R (Kd.int .i64) 3 w' w.heap.size (fun _ => True) v619 t618) ∧ (b 9 = true → b 10 = false → w'.heap[gb624]? = some (.cells #[.int .i64 0, .int .i64 0] 28 (0, 0))) ∧ (b 9 = true → w.heap.size ≤ gb624) ∧ (b 9 = true → w.heap.size ≤ gb624) ∧ (b 9 = true → gb614 ≠ gb624) ∧ (b 9 = true → gb624 ≠ gb614) ∧ (b 10 = true → w'.heap[gb624]? = some (.cells #[.int .i64 t621, .int .i64 t622] 28 (0, 0))) ∧ (b 9 = true → (m9_ : Value) = .pointer (some ⟨gb624, 0, none⟩))) HT_.out HW_.out (by kernel_rfl) (by kernel_rfl) ?_ ?_ ?_
        ·exact ⟨.bool false, .bool false, 0, .bool false, by simp only [putSel, Bool.false_eq_true, if_false], HO613.out, BK614.out, HB.out, fun h_ => absurd h_ (by decide), fun h_ => absurd h_ (by decide), fun h_ => absurd h_ (by decide), fun h_ => absurd h_ (by decide), fun h_ => absurd h_ (by decide), fun h_ => absurd h_ (by decide), fun h_ => absurd h_ (by decide), fun h_ => absurd h_ (by decide), fun h_ => absurd h_ (by decide)⟩
        ·skip
         clear BK614 HB HO613
         refine steps_cons ?_ ?_
         ·rintro b a w' ⟨v616, v619, gb624, m9_, ha, Q_HO613, Q_BK614, Q_HB, Q_HO617, Q_HO620, Q_BK624, Q_GW624, Q_GE624, Q_NB614_624, Q_NB624_614, Q_BK624_e10, Q_X9_⟩ hb_ hon hoff
          refine ⟨_, rfl, fun K hK => ?_⟩
          have e8 : a.tmps[8]? = some (.pointer (some ⟨gb614, 0, none⟩)) := by rw [ha]; exact (putSel_off rfl).trans rfl
          replace ha := Aside0.mk ha
          have HO613 := Aside0.mk Q_HO613
          have BK614 := Aside0.mk Q_BK614
          have HB := Aside0.mk Q_HB
          have hc0_ : w'.cell? ⟨gb614, 0, none⟩ = some (.string (⟨#[99]⟩ : ByteArray)) := (bqC BK614.out 0).trans rfl
          have hc1_ : w'.cell? ⟨gb614, 1, none⟩ = some (.int .i64 1) := (bqC BK614.out 1).trans rfl
          have hc2_ : w'.cell? ⟨gb614, 2, none⟩ = some (.slice Ao51 y611.length co51) := (bqC BK614.out 2).trans rfl
          have hc3_ : w'.cell? ⟨gb614, 3, none⟩ = some (.int .i64 0) := (bqC BK614.out 3).trans rfl
          refine value_ (w1 := w') (v := .agg #[.string (⟨#[99]⟩ : ByteArray), .int .i64 1, .slice Ao51 y611.length co51, .int .i64 0]) (by rfl) rfl ?_ ?_
          ·go_simp
           (try simp only [i64_w])
           try rfl
          refine hK.out _ _ ⟨v616, v619, gb624, m9_, (by rw [ha.out]; exact putSel_upk 0 hb_ rfl rfl rfl), Q_HO613, Q_BK614, Q_HB, Q_HO617, Q_HO620, Q_BK624, Q_GW624, Q_GE624, Q_NB614_624, Q_NB624_614, fun h0_ => absurd ((hoff 10 (by kernel_rfl)).symm.trans h0_) (by decide), Q_X9_⟩
         refine steps_cons ?_ ?_
         ·rintro b a w' ⟨v616, v619, gb624, m9_, ha, Q_HO613, Q_BK614, Q_HB, Q_HO617, Q_HO620, Q_BK624, Q_GW624, Q_GE624, Q_NB614_624, Q_NB624_614, Q_BK624_e10, Q_X9_⟩ hb_ hon hoff
          refine ⟨_, rfl, fun K hK => ?_⟩
          have e43 : a.tmps[43]? = some (.slice (some ad610) l1.length c1) := by rw [ha]; exact (putSel_off rfl).trans rfl
          replace ha := Aside0.mk ha
          have HO613 := Aside0.mk Q_HO613
          have BK614 := Aside0.mk Q_BK614
          have HB := Aside0.mk Q_HB
          refine goes_ Try.func22 (by kernel_rfl) rfl #[.slice (some ad610) l1.length c1] (by rfl) rfl rfl (by first | (simp only [List.map_toArray, List.map_cons, List.map_nil, Act.eval, Array.getD_eq_getD_getElem?, Option.getD_some, e43]; done) | (simp only [List.map_toArray, List.map_cons, List.map_nil, Act.eval, Array.getD_eq_getD_getElem?, Option.getD_some, e43]; rfl)) ?_
          with_reducible refine (clone22.calls _ _ l1 t615 _ ?side1 ?side2 A14.out).mono ?_
          (case side1 => exact GS.rC (Kd.C_below HR1.out HB.out))
          (case side2 => exact HC1.out)
          rintro e w56 ⟨v616, rfl, ho0, hb⟩
          refine ⟨_, rfl, ?_⟩
          have n0_ := Aside0.mk (Kd.R_below (GS.rR HO613.out) hb)
          have n1_ := Aside0.mk (Kd.R_lower ho0 (lqZ (GS.lB HB.out)))
          have n2_ := Aside0.mk (bqB (g := gb614) (o := .cells #[.string (⟨#[99]⟩ : ByteArray), .int .i64 1, .slice Ao51 y611.length co51, .int .i64 0] 24 (0, 0)) (GS.bqX BK614.out) hb)
          have n3_ := Aside0.mk (lqT (GS.lB HB.out) hb)
          have z_BK624 := fun (h0_ : b 9 = true) (h1_ : b 10 = false) => (show w56.heap[gb624]? = some (.cells #[.int .i64 0, .int .i64 0] 28 (0, 0)) from by first | exact (bqB (GS.bqX (Q_BK624 h0_ h1_)) hb))
          clear HO613
          clear BK614
          clear HB
          have HO613 := n0_
          have HO617 := n1_
          have BK614 := n2_
          have HB := n3_
          clear n0_ n1_ n2_ n3_
          (try clear hb)
          (try clear hb2)
          (try clear hk)
          (try clear hi)
          (try clear ho0)
          refine hK.out _ _ ⟨v616, v619, gb624, m9_, (by rw [ha.out]; exact putSel_upk 1 hb_ rfl rfl rfl), (GS.rR HO613.out), (GS.bqX BK614.out), (GS.lB HB.out), fun _ => (GS.rR HO617.out), fun h0_ => absurd ((hoff 4 (by kernel_rfl)).symm.trans h0_) (by decide), z_BK624, Q_GW624, Q_GE624, Q_NB614_624, Q_NB624_614, fun h0_ => absurd ((hoff 10 (by kernel_rfl)).symm.trans h0_) (by decide), Q_X9_⟩
         refine steps_cons ?_ ?_
         ·rintro b a w' ⟨v616, v619, gb624, m9_, ha, Q_HO613, Q_BK614, Q_HB, Q_HO617, Q_HO620, Q_BK624, Q_GW624, Q_GE624, Q_NB614_624, Q_NB624_614, Q_BK624_e10, Q_X9_⟩ hb_ hon hoff
          refine ⟨_, rfl, fun K hK => ?_⟩
          have e45 : a.tmps[45]? = some (.slice A2 l2.length c2) := by rw [ha]; exact (putSel_off rfl).trans rfl
          replace ha := Aside0.mk ha
          have HO613 := Aside0.mk Q_HO613
          have BK614 := Aside0.mk Q_BK614
          have HB := Aside0.mk Q_HB
          have HO617 := Aside0.mk (Q_HO617 (hon 2 (by kernel_rfl)))
          refine goes_ Try.func22 (by kernel_rfl) rfl #[.slice A2 l2.length c2] (by rfl) rfl rfl (by first | (simp only [List.map_toArray, List.map_cons, List.map_nil, Act.eval, Array.getD_eq_getD_getElem?, Option.getD_some, e45]; done) | (simp only [List.map_toArray, List.map_cons, List.map_nil, Act.eval, Array.getD_eq_getD_getElem?, Option.getD_some, e45]; rfl)) ?_
          with_reducible refine (clone22.calls _ _ l2 t618 _ ?side1 ?side2 A15.out).mono ?_
          (case side1 => exact GS.rC (Kd.C_below HR2.out HB.out))
          (case side2 => exact HC2.out)
          rintro e w58 ⟨v619, rfl, ho0, hb⟩
          refine ⟨_, rfl, ?_⟩
          have n0_ := Aside0.mk (Kd.R_below (GS.rR HO613.out) hb)
          have n1_ := Aside0.mk (Kd.R_elder' (GS.rR HO617.out) (Kd.R_base ho0) hb)
          have n2_ := Aside0.mk (Kd.R_lower (Kd.R_new' ho0 (Kd.R_lt (GS.rR HO617.out))) (lqZ (GS.lB HB.out)))
          have n3_ := Aside0.mk (bqB (g := gb614) (o := .cells #[.string (⟨#[99]⟩ : ByteArray), .int .i64 1, .slice Ao51 y611.length co51, .int .i64 0] 24 (0, 0)) (GS.bqX BK614.out) hb)
          have n4_ := Aside0.mk (lqT (GS.lB HB.out) hb)
          have z_BK624 := fun (h0_ : b 9 = true) (h1_ : b 10 = false) => (show w58.heap[gb624]? = some (.cells #[.int .i64 0, .int .i64 0] 28 (0, 0)) from by first | exact (bqB (GS.bqX (Q_BK624 h0_ h1_)) hb))
          clear HO613
          clear HO617
          clear BK614
          clear HB
          have HO613 := n0_
          have HO617 := n1_
          have HO620 := n2_
          have BK614 := n3_
          have HB := n4_
          clear n0_ n1_ n2_ n3_ n4_
          (try clear hb)
          (try clear hb2)
          (try clear hk)
          (try clear hi)
          (try clear ho0)
          refine hK.out _ _ ⟨v616, v619, gb624, m9_, (by rw [ha.out]; exact putSel_upk 2 hb_ rfl rfl rfl), (GS.rR HO613.out), (GS.bqX BK614.out), (GS.lB HB.out), fun _ => (GS.rR (Kd.R_mono HO617.out (fun _ hk => GS.cj hk))), fun _ => (GS.rR (Kd.R_mono HO620.out (fun _ hk => GS.cj hk))), z_BK624, Q_GW624, Q_GE624, Q_NB614_624, Q_NB624_614, fun h0_ => absurd ((hoff 10 (by kernel_rfl)).symm.trans h0_) (by decide), Q_X9_⟩
         refine steps_cons ?_ ?_
         ·rintro b a w' ⟨v616, v619, gb624, m9_, ha, Q_HO613, Q_BK614, Q_HB, Q_HO617, Q_HO620, Q_BK624, Q_GW624, Q_GE624, Q_NB614_624, Q_NB624_614, Q_BK624_e10, Q_X9_⟩ hb_ hon hoff
          refine ⟨_, rfl, fun K hK => ?_⟩
          have e42 : a.tmps[42]? = some (.agg #[.string (⟨#[99]⟩ : ByteArray), .int .i64 1, .slice Ao51 y611.length co51, .int .i64 0]) := by rw [ha]; exact putSel_on (e := (0, 42, .agg #[.string (⟨#[99]⟩ : ByteArray), .int .i64 1, .slice Ao51 y611.length co51, .int .i64 0])) 0 rfl rfl (hon 0 (by kernel_rfl)) rfl
          have e44 : a.tmps[44]? = some (v616) := by rw [ha]; exact putSel_on (e := (2, 44, v616)) 1 rfl rfl (hon 2 (by kernel_rfl)) rfl
          have e46 : a.tmps[46]? = some (v619) := by rw [ha]; exact putSel_on (e := (4, 46, v619)) 2 rfl rfl (hon 4 (by kernel_rfl)) rfl
          replace ha := Aside0.mk ha
          have HO613 := Aside0.mk Q_HO613
          have BK614 := Aside0.mk Q_BK614
          have HB := Aside0.mk Q_HB
          have HO617 := Aside0.mk (Q_HO617 (hon 2 (by kernel_rfl)))
          have HO620 := Aside0.mk (Q_HO620 (hon 4 (by kernel_rfl)))
          obtain ⟨Ao59, co59, eo59⟩ := Kd.R_slice HO617.out
          (first | subst eo59 | (injection eo59 with f1_ f2_ f3_; have f4_ := f1_.symm; have f5_ := f3_.symm; clear f1_ f2_ f3_; subst f4_; subst f5_))
          obtain ⟨Ao60, co60, eo60⟩ := Kd.R_slice HO620.out
          (first | subst eo60 | (injection eo60 with f1_ f2_ f3_; have f4_ := f1_.symm; have f5_ := f3_.symm; clear f1_ f2_ f3_; subst f4_; subst f5_))
          refine goes_ Try.func24 (by kernel_rfl) rfl #[.agg #[.string (⟨#[99]⟩ : ByteArray), .int .i64 1, .slice Ao51 y611.length co51, .int .i64 0], .slice Ao59 t615.length co59, .slice Ao60 t618.length co60] (by rfl) rfl rfl (by first | (simp only [List.map_toArray, List.map_cons, List.map_nil, Act.eval, Array.getD_eq_getD_getElem?, Option.getD_some, e42, e44, e46]; done) | (simp only [List.map_toArray, List.map_cons, List.map_nil, Act.eval, Array.getD_eq_getD_getElem?, Option.getD_some, e42, e44, e46]; rfl)) ?_
          with_reducible refine (lying_Between.calls kj5 (⟨#[99]⟩ : ByteArray) 1 _ _ y611 0 _ _ t615 _ _ t618 t621 t622 t623 _ ?side1 ?side2 ?side3 ?side4 ?side5 ?side6 A16.out).mono ?_
          (case side1 => repeat (first | exact (Kd.R_reads' HO613.out).2.2 | (with_reducible refine Kd.C_alloc ?_ _) | (with_reducible refine Kd.C_drewN ?_ _) | (with_reducible refine Kd.C_drew ?_)))
          (case side2 => exact (Kd.R_reads' HO613.out).2.1)
          (case side3 => repeat (first | exact (Kd.R_reads' HO617.out).2.2 | (with_reducible refine Kd.C_alloc ?_ _) | (with_reducible refine Kd.C_drewN ?_ _) | (with_reducible refine Kd.C_drew ?_)))
          (case side4 => exact (Kd.R_reads' HO617.out).2.1)
          (case side5 => repeat (first | exact (Kd.R_reads' HO620.out).2.2 | (with_reducible refine Kd.C_alloc ?_ _) | (with_reducible refine Kd.C_drewN ?_ _) | (with_reducible refine Kd.C_drew ?_)))
          (case side6 => exact (Kd.R_reads' HO620.out).2.1)
          rintro e w61 ⟨rfl, hb⟩
          refine ⟨_, rfl, ?_⟩
          have n0_ := Aside0.mk (Kd.R_below (GS.rR HO613.out) hb)
          have n1_ := Aside0.mk (Kd.R_below (GS.rR HO617.out) hb)
          have n2_ := Aside0.mk (Kd.R_below (GS.rR HO620.out) hb)
          have n3_ := Aside0.mk (bqB (g := gb614) (o := .cells #[.string (⟨#[99]⟩ : ByteArray), .int .i64 1, .slice Ao51 y611.length co51, .int .i64 0] 24 (0, 0)) (GS.bqX BK614.out) hb)
          have n4_ := Aside0.mk (lqT (GS.lB HB.out) hb)
          have z_BK624 := fun (h0_ : b 9 = true) (h1_ : b 10 = false) => (show w61.heap[gb624]? = some (.cells #[.int .i64 0, .int .i64 0] 28 (0, 0)) from by first | exact (bqB (GS.bqX (Q_BK624 h0_ h1_)) hb))
          clear HO613
          clear HO617
          clear HO620
          clear BK614
          clear HB
          have HO613 := n0_
          have HO617 := n1_
          have HO620 := n2_
          have BK614 := n3_
          have HB := n4_
          clear n0_ n1_ n2_ n3_ n4_
          (try clear hb)
          (try clear hb2)
          (try clear hk)
          (try clear hi)
          refine hK.out _ _ ⟨.slice Ao59 t615.length co59, .slice Ao60 t618.length co60, gb624, m9_, (by rw [ha.out]; exact putSel_upk 3 hb_ rfl rfl rfl), (GS.rR HO613.out), (GS.bqX BK614.out), (GS.lB HB.out), fun _ => (GS.rR HO617.out), fun _ => (GS.rR HO620.out), z_BK624, Q_GW624, Q_GE624, Q_NB614_624, Q_NB624_614, fun h0_ => absurd ((hoff 10 (by kernel_rfl)).symm.trans h0_) (by decide), Q_X9_⟩
         refine steps_cons ?_ ?_
         ·rintro b a w' ⟨v616, v619, gb624, m9_, ha, Q_HO613, Q_BK614, Q_HB, Q_HO617, Q_HO620, Q_BK624, Q_GW624, Q_GE624, Q_NB614_624, Q_NB624_614, Q_BK624_e10, Q_X9_⟩ hb_ hon hoff
          refine ⟨_, rfl, fun K hK => ?_⟩
          have e47 : a.tmps[47]? = some (.tuple #[.agg #[.int .i64 t621, .int .i64 t622], .int .i64 t623]) := by rw [ha]; exact putSel_on (e := (5, 47, .tuple #[.agg #[.int .i64 t621, .int .i64 t622], .int .i64 t623])) 3 rfl rfl (hon 5 (by kernel_rfl)) rfl
          replace ha := Aside0.mk ha
          have HO613 := Aside0.mk Q_HO613
          have BK614 := Aside0.mk Q_BK614
          have HB := Aside0.mk Q_HB
          have HO617 := Aside0.mk (Q_HO617 (hon 2 (by kernel_rfl)))
          have HO620 := Aside0.mk (Q_HO620 (hon 4 (by kernel_rfl)))
          refine value_ (w1 := w') (v := .tuple #[.agg #[.int .i64 t621, .int .i64 t622], .int .i64 t623]) (by rfl) rfl ?_ ?_
          ·go_simp
           (try simp only [i64_w])
           try rfl
          refine hK.out _ _ ⟨v616, v619, gb624, m9_, (by rw [ha.out]; exact putSel_upk 4 hb_ rfl rfl rfl), Q_HO613, Q_BK614, Q_HB, Q_HO617, Q_HO620, Q_BK624, Q_GW624, Q_GE624, Q_NB614_624, Q_NB624_614, fun h0_ => absurd ((hoff 10 (by kernel_rfl)).symm.trans h0_) (by decide), Q_X9_⟩
         refine steps_cons ?_ ?_
         ·rintro b a w' ⟨v616, v619, gb624, m9_, ha, Q_HO613, Q_BK614, Q_HB, Q_HO617, Q_HO620, Q_BK624, Q_GW624, Q_GE624, Q_NB614_624, Q_NB624_614, Q_BK624_e10, Q_X9_⟩ hb_ hon hoff
          refine ⟨_, rfl, fun K hK => ?_⟩
          have e41 : a.tmps[41]? = some (.tuple #[.agg #[.int .i64 t621, .int .i64 t622], .int .i64 t623]) := by rw [ha]; exact putSel_on (e := (6, 41, .tuple #[.agg #[.int .i64 t621, .int .i64 t622], .int .i64 t623])) 4 rfl rfl (hon 6 (by kernel_rfl)) rfl
          replace ha := Aside0.mk ha
          have HO613 := Aside0.mk Q_HO613
          have BK614 := Aside0.mk Q_BK614
          have HB := Aside0.mk Q_HB
          have HO617 := Aside0.mk (Q_HO617 (hon 2 (by kernel_rfl)))
          have HO620 := Aside0.mk (Q_HO620 (hon 4 (by kernel_rfl)))
          refine value_ (w1 := w') (v := .agg #[.int .i64 t621, .int .i64 t622]) (by rfl) rfl ?_ ?_
          ·go_simp
           (try simp only [i64_w])
           try rfl
          refine hK.out _ _ ⟨v616, v619, gb624, m9_, (by rw [ha.out]; exact putSel_upk 5 hb_ rfl rfl rfl), Q_HO613, Q_BK614, Q_HB, Q_HO617, Q_HO620, Q_BK624, Q_GW624, Q_GE624, Q_NB614_624, Q_NB624_614, fun h0_ => absurd ((hoff 10 (by kernel_rfl)).symm.trans h0_) (by decide), Q_X9_⟩
         refine steps_cons ?_ ?_
         ·rintro b a w' ⟨v616, v619, gb624, m9_, ha, Q_HO613, Q_BK614, Q_HB, Q_HO617, Q_HO620, Q_BK624, Q_GW624, Q_GE624, Q_NB614_624, Q_NB624_614, Q_BK624_e10, Q_X9_⟩ hb_ hon hoff
          refine ⟨_, rfl, fun K hK => ?_⟩
          have e41 : a.tmps[41]? = some (.tuple #[.agg #[.int .i64 t621, .int .i64 t622], .int .i64 t623]) := by rw [ha]; exact putSel_on (e := (6, 41, .tuple #[.agg #[.int .i64 t621, .int .i64 t622], .int .i64 t623])) 4 rfl rfl (hon 6 (by kernel_rfl)) rfl
          replace ha := Aside0.mk ha
          have HO613 := Aside0.mk Q_HO613
          have BK614 := Aside0.mk Q_BK614
          have HB := Aside0.mk Q_HB
          have HO617 := Aside0.mk (Q_HO617 (hon 2 (by kernel_rfl)))
          have HO620 := Aside0.mk (Q_HO620 (hon 4 (by kernel_rfl)))
          refine value_ (w1 := w') (v := .int .i64 t623) (by rfl) rfl ?_ ?_
          ·go_simp
           (try simp only [i64_w])
           try rfl
          refine hK.out _ _ ⟨v616, v619, gb624, m9_, (by rw [ha.out]; exact putSel_upk 6 hb_ rfl rfl rfl), Q_HO613, Q_BK614, Q_HB, Q_HO617, Q_HO620, Q_BK624, Q_GW624, Q_GE624, Q_NB614_624, Q_NB624_614, Q_BK624_e10, Q_X9_⟩
         refine steps_cons ?_ ?_
         ·rintro b a w' ⟨v616, v619, gb624, m9_, ha, Q_HO613, Q_BK614, Q_HB, Q_HO617, Q_HO620, Q_BK624, Q_GW624, Q_GE624, Q_NB614_624, Q_NB624_614, Q_BK624_e10, Q_X9_⟩ hb_ hon hoff
          refine ⟨_, rfl, fun K hK => ?_⟩
          replace ha := Aside0.mk ha
          have HO613 := Aside0.mk Q_HO613
          have BK614 := Aside0.mk Q_BK614
          have HB := Aside0.mk Q_HB
          refine box_step ?hg (N := 9) ?hd (cs := #[.int .i64 0, .int .i64 0]) (t := 28) ?hr ?_; (case hd => rfl); (case hg => rfl); (case hr => first | (go_simp; done) | (go_simp; rfl))
          intro gb624 hg w56 hbox hb
          have n0_ := Aside0.mk (Kd.R_below (GS.rR HO613.out) hb)
          have n1_ := Aside0.mk (bqB (g := gb614) (o := .cells #[.string (⟨#[99]⟩ : ByteArray), .int .i64 1, .slice Ao51 y611.length co51, .int .i64 0] 24 (0, 0)) (GS.bqX BK614.out) hb)
          have n2_ := Aside0.mk (lqT (GS.lB HB.out) hb)
          have n3_ := Aside0.mk (hbox)
          have n4_ := Aside0.mk ((by rw [hg]; exact (lqZ (GS.lB HB.out)) : w.heap.size ≤ gb624))
          have n5_ := Aside0.mk ((by rw [hg]; exact (lqZ (GS.lB HB.out)) : w.heap.size ≤ gb624))
          have n6_ := Aside0.mk ((by rw [hg]; exact Nat.ne_of_lt (blk_lt (g := gb614) (o := .cells #[.string (⟨#[99]⟩ : ByteArray), .int .i64 1, .slice Ao51 y611.length co51, .int .i64 0] 24 (0, 0)) (GS.bqX BK614.out)) : gb614 ≠ gb624))
          have n7_ := Aside0.mk ((by rw [hg]; exact Nat.ne_of_gt (blk_lt (g := gb614) (o := .cells #[.string (⟨#[99]⟩ : ByteArray), .int .i64 1, .slice Ao51 y611.length co51, .int .i64 0] 24 (0, 0)) (GS.bqX BK614.out)) : gb624 ≠ gb614))
          have z_HO617 := fun (h0_ : b 2 = true) => (show Kd.R (Kd.int .i64) 3 w56 w.heap.size (fun _ => True) v616 t615 from by first | exact (Kd.R_below (GS.rR (Q_HO617 h0_)) hb) | exact Kd.R_mono (Kd.R_below (GS.rR (Q_HO617 h0_)) hb) (fun _ hk => GS.cj hk))
          have z_HO620 := fun (h0_ : b 4 = true) => (show Kd.R (Kd.int .i64) 3 w56 w.heap.size (fun _ => True) v619 t618 from by first | exact (Kd.R_below (GS.rR (Q_HO620 h0_)) hb) | exact Kd.R_mono (Kd.R_below (GS.rR (Q_HO620 h0_)) hb) (fun _ hk => GS.cj hk))
          clear HO613
          clear BK614
          clear HB
          have HO613 := n0_
          have BK614 := n1_
          have HB := n2_
          have BK624 := n3_
          have GW624 := n4_
          have GE624 := n5_
          have NB614_624 := n6_
          have NB624_614 := n7_
          clear n0_ n1_ n2_ n3_ n4_ n5_ n6_ n7_
          clear hb hbox hg
          refine hK.out _ _ ⟨v616, v619, gb624, (.pointer (some ⟨gb624, 0, none⟩)), (by rw [ha.out]; exact putSel_upk 7 hb_ rfl rfl rfl), (GS.rR HO613.out), (GS.bqX BK614.out), (GS.lB HB.out), z_HO617, z_HO620, fun _ _ => (GS.bqX BK624.out), fun _ => GW624.out, fun _ => GE624.out, fun _ => NB614_624.out, fun _ => NB624_614.out, fun h0_ => absurd ((hoff 10 (by kernel_rfl)).symm.trans h0_) (by decide), fun _ => rfl⟩
         refine steps_cons ?_ ?_
         ·rintro b a w' ⟨v616, v619, gb624, m9_, ha, Q_HO613, Q_BK614, Q_HB, Q_HO617, Q_HO620, Q_BK624, Q_GW624, Q_GE624, Q_NB614_624, Q_NB624_614, Q_BK624_e10, Q_X9_⟩ hb_ hon hoff
          refine ⟨_, rfl, fun K hK => ?_⟩
          have e9 : a.tmps[9]? = some (m9_) := by rw [ha]; exact putSel_on (e := (9, 9, m9_)) 7 rfl rfl (hon 9 (by kernel_rfl)) rfl
          rw [Q_X9_ (hon 9 (by kernel_rfl))] at e9
          have e48 : a.tmps[48]? = some (.agg #[.int .i64 t621, .int .i64 t622]) := by rw [ha]; exact putSel_on (e := (7, 48, .agg #[.int .i64 t621, .int .i64 t622])) 5 rfl rfl (hon 7 (by kernel_rfl)) rfl
          replace ha := Aside0.mk ha
          have HO613 := Aside0.mk Q_HO613
          have BK614 := Aside0.mk Q_BK614
          have HB := Aside0.mk Q_HB
          have HO617 := Aside0.mk (Q_HO617 (hon 2 (by kernel_rfl)))
          have HO620 := Aside0.mk (Q_HO620 (hon 4 (by kernel_rfl)))
          have BK624 := Aside0.mk (Q_BK624 (hon 9 (by kernel_rfl)) hb_)
          have GW624 := Aside0.mk (Q_GW624 (hon 9 (by kernel_rfl)))
          have GE624 := Aside0.mk (Q_GE624 (hon 9 (by kernel_rfl)))
          have NB614_624 := Aside0.mk (Q_NB614_624 (hon 9 (by kernel_rfl)))
          have NB624_614 := Aside0.mk (Q_NB624_614 (hon 9 (by kernel_rfl)))
          have hs63 : w'.cell? ⟨gb624, 0, none⟩ = some (.int .i64 0) := (bqC BK624.out 0).trans rfl
          have hfs63 := bqF BK624.out 0
          have hns63_0 := NB614_624.out
          have hms63_0 := NB624_614.out
          have hs64 : w'.cell? ⟨gb624, 1, none⟩ = some (.int .i64 0) := (bqC BK624.out 1).trans rfl
          have hfs64 := bqF BK624.out 1
          have hns64_0 := NB614_624.out
          have hms64_0 := NB624_614.out
          refine skip_ (w1 := ?_) (by rfl) rfl ?_ ?_
          rotate_left
          ·go_simp
           rfl
          refine hK.out _ _ ⟨v616, v619, gb624, m9_, (by rw [ha.out]; exact putSel_none (v := undef) rfl), (by (with_reducible repeat (first | apply Kd.R_alloc | apply Kd.R_drewN | apply Kd.R_drew)); exact Kd.R_mono (Kd.R_far (p := ⟨gb624, 1, none⟩) (Kd.R_far (p := ⟨gb624, 0, none⟩) (Kd.R_types HO613.out BK624.out (by decide)) (fun _ hk => hk.2) (.int .i64 t621)) (fun _ hk => hk.2) (.int .i64 t622)) (fun _ hk => trivial)), (GS.bqX BK614.out), (GS.lB HB.out), fun _ => (by (with_reducible repeat (first | apply Kd.R_alloc | apply Kd.R_drewN | apply Kd.R_drew)); exact Kd.R_mono (Kd.R_far (p := ⟨gb624, 1, none⟩) (Kd.R_far (p := ⟨gb624, 0, none⟩) (Kd.R_types HO617.out BK624.out (by decide)) (fun _ hk => hk.2) (.int .i64 t621)) (fun _ hk => hk.2) (.int .i64 t622)) (fun _ hk => GS.cj hk)), fun _ => (by (with_reducible repeat (first | apply Kd.R_alloc | apply Kd.R_drewN | apply Kd.R_drew)); exact Kd.R_mono (Kd.R_far (p := ⟨gb624, 1, none⟩) (Kd.R_far (p := ⟨gb624, 0, none⟩) (Kd.R_types HO620.out BK624.out (by decide)) (fun _ hk => hk.2) (.int .i64 t621)) (fun _ hk => hk.2) (.int .i64 t622)) (fun _ hk => GS.cj hk)), fun _ h1_ => absurd ((up_self b 10).symm.trans h1_) (by decide), fun _ => GW624.out, fun _ => GE624.out, fun _ => NB614_624.out, fun _ => NB624_614.out, fun _ => (GS.bqZ BK624.out), Q_X9_⟩
         refine steps_cons ?_ ?_
         ·rintro b a w' ⟨v616, v619, gb624, m9_, ha, Q_HO613, Q_BK614, Q_HB, Q_HO617, Q_HO620, Q_BK624, Q_GW624, Q_GE624, Q_NB614_624, Q_NB624_614, Q_BK624_e10, Q_X9_⟩ hb_ hon hoff
          refine ⟨_, rfl, fun K hK => ?_⟩
          have e49 : a.tmps[49]? = some (.int .i64 t623) := by rw [ha]; exact putSel_on (e := (8, 49, .int .i64 t623)) 6 rfl rfl (hon 8 (by kernel_rfl)) rfl
          replace ha := Aside0.mk ha
          have HO613 := Aside0.mk Q_HO613
          have BK614 := Aside0.mk Q_BK614
          have HB := Aside0.mk Q_HB
          have HO617 := Aside0.mk (Q_HO617 (hon 2 (by kernel_rfl)))
          have HO620 := Aside0.mk (Q_HO620 (hon 4 (by kernel_rfl)))
          have GW624 := Aside0.mk (Q_GW624 (hon 9 (by kernel_rfl)))
          have GE624 := Aside0.mk (Q_GE624 (hon 9 (by kernel_rfl)))
          have NB614_624 := Aside0.mk (Q_NB614_624 (hon 9 (by kernel_rfl)))
          have NB624_614 := Aside0.mk (Q_NB624_614 (hon 9 (by kernel_rfl)))
          have BK624 := Aside0.mk (Q_BK624_e10 (hon 10 (by kernel_rfl)))
          refine value_ (w1 := w') (v := .int .i64 t623) (by rfl) rfl ?_ ?_
          ·go_simp
           (try simp only [i64_w])
           try rfl
          refine hK.out _ _ ⟨v616, v619, gb624, m9_, (by rw [ha.out]; exact putSel_upk 8 hb_ rfl rfl rfl), Q_HO613, Q_BK614, Q_HB, Q_HO617, Q_HO620, fun _ h1_ => absurd ((hon 10 (by kernel_rfl)).symm.trans h1_) (by decide), Q_GW624, Q_GE624, Q_NB614_624, Q_NB624_614, Q_BK624_e10, Q_X9_⟩
         exact steps_nil
        rintro b a w64 hall ⟨v616, v619, gb624, m9_, ha, Q_HO613, Q_BK614, Q_HB, Q_HO617, Q_HO620, Q_BK624, Q_GW624, Q_GE624, Q_NB614_624, Q_NB624_614, Q_BK624_e10, Q_X9_⟩
        clear BK614 HB HO613
        have hb0_ := hall 0 (by kernel_rfl)
        have hb2_ := hall 2 (by kernel_rfl)
        have hb4_ := hall 4 (by kernel_rfl)
        have hb5_ := hall 5 (by kernel_rfl)
        have hb6_ := hall 6 (by kernel_rfl)
        have hb7_ := hall 7 (by kernel_rfl)
        have hb8_ := hall 8 (by kernel_rfl)
        have hb9_ := hall 9 (by kernel_rfl)
        have hb10_ := hall 10 (by kernel_rfl)
        have hb11_ := hall 11 (by kernel_rfl)
        subst ha
        obtain rfl := Q_X9_ hb9_
        simp only [putSel, hb0_, hb2_, hb4_, hb5_, hb6_, hb7_, hb8_, hb9_, hb10_, hb11_, if_true, Act.put, List.setIfInBounds_toArray, List.set_cons_zero, List.set_cons_succ]
        have HO613 := Aside0.mk Q_HO613
        clear Q_HO613
        have BK614 := Aside0.mk Q_BK614
        clear Q_BK614
        have HB := Aside0.mk Q_HB
        clear Q_HB
        have HO617 := Aside0.mk (Q_HO617 hb2_)
        clear Q_HO617
        have HO620 := Aside0.mk (Q_HO620 hb4_)
        clear Q_HO620
        clear Q_BK624
        have GW624 := Aside0.mk (Q_GW624 hb9_)
        clear Q_GW624
        have GE624 := Aside0.mk (Q_GE624 hb9_)
        clear Q_GE624
        have NB614_624 := Aside0.mk (Q_NB614_624 hb9_)
        clear Q_NB614_624
        have NB624_614 := Aside0.mk (Q_NB624_614 hb9_)
        clear Q_NB624_614
        have BK624 := Aside0.mk (Q_BK624_e10 hb10_)
        clear Q_BK624_e10
        clear hall hb0_ hb2_ hb4_ hb5_ hb6_ hb7_ hb8_ hb9_ hb10_ hb11_
        have hnb65 := NB624_614.out
        have hnc65 := NB614_624.out
        obtain ⟨hcz66_0, hcz66_1, hfz66_0, hfz66_1⟩ := GS.c2 BK624.out
        try go_wp2
        go_ret
        exact ⟨by first | rfl | (simp [errW_none, errW_some] <;> rfl) | (simp only [← hji11]; first | rfl | (simp [errW_none, errW_some] <;> rfl)) | (simp [*, errW_none, errW_some] <;> rfl), GS.lB HB.out⟩
      ·rw [if_neg c13] at H
       exact absurd H (by simp)
     ·rw [if_neg c12] at H
      exact absurd H (by simp)
 ·replace c5 := Bool.eq_false_iff.mpr c5
  subst c5
  have H1 : (none) = some r := by rw [if_neg (show ¬ (false = true) by decide)] at H; exact H
  clear H
  have H := H1
  clear H1
  exact absurd H (by simp)

/-- THE ONE PURE STATEMENT of spilelaw11_LyingCylinders: yours. -/
def spilelaw11_LyingCylinders.Pure : Prop := ∀ (a0 : Int) (l1 : List Int) (l2 : List Int), (Lit.int .i64 a0).wf = true → l1.length ≤ maxLen → l1.length * 8 ≤ 140737488351232 → (∀ x ∈ l1, (Lit.int .i64 x).wf = true) → l2.length ≤ maxLen → l2.length * 8 ≤ 140737488351232 → (∀ x ∈ l2, (Lit.int .i64 x).wf = true) → ∃ k, spilelaw11_LyingCylinders.f k a0 l1 l2 = some true
theorem spilelaw11_LyingCylinders.walk (P : spilelaw11_LyingCylinders.Pure) (a0 : Int) (a1 : Option Addr) (len1 cap1 : Nat) (z1 : List Int) (a2 : Option Addr) (len2 cap2 : Nat) (z2 : List Int) (w : World) (w0 : (Lit.int .i64 a0).wf = true) (w1 : (a1 = none ∧ len1 = 0 ∧ cap1 = 0 ∧ z1 = []) ∨ ∃ x, a1 = some x ∧ len1 ≤ cap1 ∧ cap1 ≤ maxLen ∧ z1.length = cap1 ∧ (∀ i, i < z1.length → w.cell? (x.add i) = some (.int .i64 (z1.getD i 0))) ∧ ∀ n ∈ z1, (Lit.int .i64 n).wf = true) (y1 : len1 * 8 ≤ 140737488351232) (w2 : (a2 = none ∧ len2 = 0 ∧ cap2 = 0 ∧ z2 = []) ∨ ∃ x, a2 = some x ∧ len2 ≤ cap2 ∧ cap2 ≤ maxLen ∧ z2.length = cap2 ∧ (∀ i, i < z2.length → w.cell? (x.add i) = some (.int .i64 (z2.getD i 0))) ∧ ∀ n ∈ z2, (Lit.int .i64 n).wf = true) (y2 : len2 * 8 ≤ 140737488351232) :
  Calls Try.prog 6 #[.int .i64 a0, .slice a1 len1 cap1, .slice a2 len2 cap2] w fun e w' => e = .returned (.bool true) ∧ Below w.heap.size w w' := by
 obtain ⟨l1, rfl, hr1, hm1, hw1, hc1⟩ := ReadsInt.ofRowC w1
 obtain ⟨l2, rfl, hr2, hm2, hw2, hc2⟩ := ReadsInt.ofRowC w2
 obtain ⟨k, h⟩ := P a0 l1 l2 w0 hm1 y1 hw1 hm2 y2 hw2
 refine (spilelaw11_LyingCylinders.calls k a0 _ _ l1 _ _ l2 true w (Kd.C_of_reads (d := (0 : Int)) (h1 := fun _ => rfl) hr1) hc1 (Kd.C_of_reads (d := (0 : Int)) (h1 := fun _ => rfl) hr2) hc2 h).mono ?_
 rintro e w' ⟨rfl, hd⟩
 exact ⟨rfl, hd⟩

end Go.Proofs.Ytefjmcljkmppoaa.K
