-- PRINTED by print.py (a twelfth state) out of the translation. Not trusted: Lean checks it.
import Derived.Test.YtfhmjleimampeaaK0
import Derived.Test.YtfhmjleimampeaaGPu
import Derived.Test.YtfhmjleimampeaaGShort
import Derived.Test.YtfhmjleimampeaaGSym
import Derived.Test.YtfhmjleimampeaaK2
import Derived.Test.YtfhmjleimampeaaK12
import Derived.Test.YtfhmjleimampeaaK23
import Derived.Test.YtfhmjleimampeaaGCloneF
import Derived.Test.YtfhmjleimampeaaGOf
import Derived.Test.YtfhmjleimampeaaGWithout
namespace Go.Proofs.Ytfhmjleimampeaa.K
open Go.RowKit Go.Proofs.YtfhmjleimampeaaW.PrintWords Go.Proofs.YtfhmjleimampeaaW.PrintLast Go.Proofs.YtfhmjleimampeaaW.PrintMore
attribute [local go_sem] max2_int min2_int max_two min_two max_three min_three max_four min_four   -- for this text's walks alone
set_option linter.unusedVariables false
set_option linter.unusedSimpArgs false

/-! ### spilelaw34_SuspectWithout: function 8 -/
mutual
def spilelaw34_SuspectWithout.j0 : Nat → List (S30) → Int → Int → List Int → List (S30) → Bool → Option (Bool)
 | 0, _, _, _, _, _, _ => none
 | k + 1, x0, x1, x2, x8, x10, x79 => if x79 = true then (none) else (spilelaw34_SuspectWithout.l0 k x0 x1 x2 x8 x10 x10 (x10.length : Int) 0)
def spilelaw34_SuspectWithout.l0 : Nat → List (S30) → Int → Int → List Int → List (S30) → List (S30) → Int → Int → Option (Bool)
 | 0, _, _, _, _, _, _, _, _ => none
 | k + 1, x0, x1, x2, x8, x10, x80, x81, x82 => if x82 < x81 then (if 0 ≤ x82 then (if x82 < (x80.length : Int) then (if x82 < (x8.length : Int) then (if ((rd_T30 x80 x82).f3) = (rd x8 x82) then (if x1 = 1 then (if ((rd_T30 x80 x82).f1) = x2 then (none) else (if x1 = 2 then (if ((rd_T30 x80 x82).f2) = x2 then (none) else ((api_Finding_29.f k x0 ((rd_T30 x80 x82).f0) ((rd_T30 x80 x82).f1) ((rd_T30 x80 x82).f2) ((rd_T30 x80 x82).f3)).bind fun t603 => (spilelaw34_SuspectWithout.j2 k x0 x1 x2 x8 x10 x80 x81 x82 (!t603)))) else ((api_Finding_29.f k x0 ((rd_T30 x80 x82).f0) ((rd_T30 x80 x82).f1) ((rd_T30 x80 x82).f2) ((rd_T30 x80 x82).f3)).bind fun t604 => (spilelaw34_SuspectWithout.j2 k x0 x1 x2 x8 x10 x80 x81 x82 (!t604))))) else (if x1 = 2 then (if ((rd_T30 x80 x82).f2) = x2 then (none) else ((api_Finding_29.f k x0 ((rd_T30 x80 x82).f0) ((rd_T30 x80 x82).f1) ((rd_T30 x80 x82).f2) ((rd_T30 x80 x82).f3)).bind fun t605 => (spilelaw34_SuspectWithout.j2 k x0 x1 x2 x8 x10 x80 x81 x82 (!t605)))) else ((api_Finding_29.f k x0 ((rd_T30 x80 x82).f0) ((rd_T30 x80 x82).f1) ((rd_T30 x80 x82).f2) ((rd_T30 x80 x82).f3)).bind fun t606 => (spilelaw34_SuspectWithout.j2 k x0 x1 x2 x8 x10 x80 x81 x82 (!t606))))) else (none)) else (none)) else (none)) else (none)) else ((clone13.f x10).bind fun t607 => ((suspect_Without.f t607 x1 x2).bind fun bt610 => ((suspect_Check.f k x10).bind fun bt614 => (if bt610.2 = 7 then (some (bt614.2 == 0)) else (none)))))
def spilelaw34_SuspectWithout.j2 : Nat → List (S30) → Int → Int → List Int → List (S30) → List (S30) → Int → Int → Bool → Option (Bool)
 | 0, _, _, _, _, _, _, _, _, _ => none
 | k + 1, x0, x1, x2, x8, x10, x80, x81, x82, x119 => if x119 = true then (none) else (spilelaw34_SuspectWithout.l0 k x0 x1 x2 x8 x10 x80 x81 (wrap64 (x82 + 1)))
end
def spilelaw34_SuspectWithout.f (k : Nat) (l0 : List (S30)) (a1 : Int) (a2 : Int) : Option (Bool) := (spilelaw34_awake.f k).bind fun t582 => (if t582 = true then (if (l0.length : Int) > 14 then (some true) else ((clone13.f l0).bind fun t583 => ((suspect_Of.f t583 a1 a2).bind fun bt586 => ((clone13.f l0).bind fun t593 => ((suspect_Without.f t593 a1 a2).bind fun bt596 => (if bt586.2.2 = 0 then (if (wrap64 ((bt586.1.length : Int) + (bt586.2.1.length : Int))) = (l0.length : Int) then (if (bt596.1.length : Int) = (bt586.2.1.length : Int) then (spilelaw34_SuspectWithout.j0 k l0 a1 a2 bt586.2.1 bt596.1 ((bt586.1.length : Int) == 0)) else (none)) else (none)) else (if bt586.2.2 = bt596.2 then (if (bt586.1.length : Int) = 0 then (if (bt586.2.1.length : Int) = 0 then (some ((bt596.1.length : Int) == 0)) else (none)) else (none)) else (none)))))))) else (none))
theorem spilelaw34_SuspectWithout.mono_l : ∀ k, (∀ y0 y1 y2 y3 y4 y5, LeO (spilelaw34_SuspectWithout.j0 k y0 y1 y2 y3 y4 y5) (spilelaw34_SuspectWithout.j0 (k + 1) y0 y1 y2 y3 y4 y5)) ∧ (∀ y0 y1 y2 y3 y4 y5 y6 y7, LeO (spilelaw34_SuspectWithout.l0 k y0 y1 y2 y3 y4 y5 y6 y7) (spilelaw34_SuspectWithout.l0 (k + 1) y0 y1 y2 y3 y4 y5 y6 y7)) ∧ (∀ y0 y1 y2 y3 y4 y5 y6 y7 y8, LeO (spilelaw34_SuspectWithout.j2 k y0 y1 y2 y3 y4 y5 y6 y7 y8) (spilelaw34_SuspectWithout.j2 (k + 1) y0 y1 y2 y3 y4 y5 y6 y7 y8))
 | 0 => ⟨fun _ _ _ _ _ _ r h => by simp [spilelaw34_SuspectWithout.j0] at h, fun _ _ _ _ _ _ _ _ r h => by simp [spilelaw34_SuspectWithout.l0] at h, fun _ _ _ _ _ _ _ _ _ r h => by simp [spilelaw34_SuspectWithout.j2] at h⟩
 | k + 1 => by
  obtain ⟨ih0, ih1, ih2⟩ := spilelaw34_SuspectWithout.mono_l k
  refine ⟨?_, ?_, ?_⟩
  ·intro y0 y1 y2 y3 y4 y5
   unfold spilelaw34_SuspectWithout.j0
   repeat' first
   | (with_reducible exact ih0 _ _ _ _ _ _)
   | (with_reducible exact ih1 _ _ _ _ _ _ _ _)
   | (with_reducible exact ih2 _ _ _ _ _ _ _ _ _)
   | (with_reducible exact api_Finding_29.mono _ _ _ _ _ _)
   | (with_reducible exact spilelaw34_awake.mono _)
   | (with_reducible exact suspect_Check.mono _ _)
   | (with_reducible exact LeO.refl _)
   | (with_reducible exact LeO.none _)
   | (with_reducible refine LeO.ite ?_ ?_)
   | (with_reducible refine LeO.bind ?_ (fun _ => ?_))
   | exact ih0 _ _ _ _ _ _
   | exact ih1 _ _ _ _ _ _ _ _
   | exact ih2 _ _ _ _ _ _ _ _ _
   | exact api_Finding_29.mono _ _ _ _ _ _
   | exact spilelaw34_awake.mono _
   | exact suspect_Check.mono _ _
   | exact LeO.none _
   | refine LeO.ite ?_ ?_
   | refine LeO.bind ?_ (fun _ => ?_)
  ·intro y0 y1 y2 y3 y4 y5 y6 y7
   unfold spilelaw34_SuspectWithout.l0
   repeat' first
   | (with_reducible exact ih0 _ _ _ _ _ _)
   | (with_reducible exact ih1 _ _ _ _ _ _ _ _)
   | (with_reducible exact ih2 _ _ _ _ _ _ _ _ _)
   | (with_reducible exact api_Finding_29.mono _ _ _ _ _ _)
   | (with_reducible exact spilelaw34_awake.mono _)
   | (with_reducible exact suspect_Check.mono _ _)
   | (with_reducible exact LeO.refl _)
   | (with_reducible exact LeO.none _)
   | (with_reducible refine LeO.ite ?_ ?_)
   | (with_reducible refine LeO.bind ?_ (fun _ => ?_))
   | exact ih0 _ _ _ _ _ _
   | exact ih1 _ _ _ _ _ _ _ _
   | exact ih2 _ _ _ _ _ _ _ _ _
   | exact api_Finding_29.mono _ _ _ _ _ _
   | exact spilelaw34_awake.mono _
   | exact suspect_Check.mono _ _
   | exact LeO.none _
   | refine LeO.ite ?_ ?_
   | refine LeO.bind ?_ (fun _ => ?_)
  ·intro y0 y1 y2 y3 y4 y5 y6 y7 y8
   unfold spilelaw34_SuspectWithout.j2
   repeat' first
   | (with_reducible exact ih0 _ _ _ _ _ _)
   | (with_reducible exact ih1 _ _ _ _ _ _ _ _)
   | (with_reducible exact ih2 _ _ _ _ _ _ _ _ _)
   | (with_reducible exact api_Finding_29.mono _ _ _ _ _ _)
   | (with_reducible exact spilelaw34_awake.mono _)
   | (with_reducible exact suspect_Check.mono _ _)
   | (with_reducible exact LeO.refl _)
   | (with_reducible exact LeO.none _)
   | (with_reducible refine LeO.ite ?_ ?_)
   | (with_reducible refine LeO.bind ?_ (fun _ => ?_))
   | exact ih0 _ _ _ _ _ _
   | exact ih1 _ _ _ _ _ _ _ _
   | exact ih2 _ _ _ _ _ _ _ _ _
   | exact api_Finding_29.mono _ _ _ _ _ _
   | exact spilelaw34_awake.mono _
   | exact suspect_Check.mono _ _
   | exact LeO.none _
   | refine LeO.ite ?_ ?_
   | refine LeO.bind ?_ (fun _ => ?_)
theorem spilelaw34_SuspectWithout.mono : ∀ a0 a1 a2 k, LeO (spilelaw34_SuspectWithout.f k a0 a1 a2) (spilelaw34_SuspectWithout.f (k + 1) a0 a1 a2) := by
 intro a0 a1 a2 k
 obtain ⟨ih0, ih1, ih2⟩ := spilelaw34_SuspectWithout.mono_l k
 unfold spilelaw34_SuspectWithout.f
 repeat' first
   | (with_reducible exact ih0 _ _ _ _ _ _)
   | (with_reducible exact ih1 _ _ _ _ _ _ _ _)
   | (with_reducible exact ih2 _ _ _ _ _ _ _ _ _)
   | (with_reducible exact api_Finding_29.mono _ _ _ _ _ _)
   | (with_reducible exact spilelaw34_awake.mono _)
   | (with_reducible exact suspect_Check.mono _ _)
   | (with_reducible exact LeO.refl _)
   | (with_reducible exact LeO.none _)
   | (with_reducible refine LeO.ite ?_ ?_)
   | (with_reducible refine LeO.bind ?_ (fun _ => ?_))
   | exact ih0 _ _ _ _ _ _
   | exact ih1 _ _ _ _ _ _ _ _
   | exact ih2 _ _ _ _ _ _ _ _ _
   | exact api_Finding_29.mono _ _ _ _ _ _
   | exact spilelaw34_awake.mono _
   | exact suspect_Check.mono _ _
   | exact LeO.none _
   | refine LeO.ite ?_ ?_
   | refine LeO.bind ?_ (fun _ => ?_)
def spilelaw34_SuspectWithout.T14 : Bool × List (List Nat × List Nat) := (true, [([], []), ([0], [0]), ([], []), ([], []), ([2, 3], [2, 3]), ([4], [4]), ([1, 5], [1, 5]), ([6], [6]), ([7], [7]), ([8, 7], [7, 8]), ([9, 7, 7], [7, 9]), ([10], [10]), ([11, 10], [10, 11]), ([10], [10]), ([12, 13, 10], [10, 12, 13]), ([10, 14, 7], [7, 10, 14]), ([7, 15], [7, 15]), ([16, 10], [16]), ([17], [17]), ([18, 17], [17, 18]), ([19, 17, 17], [17, 19]), ([20], [20]), ([21, 20], [20, 21]), ([20], [20]), ([22, 23, 20], [20, 22, 23]), ([20, 24, 17], [17, 20, 24]), ([17, 25], [17, 25]), ([26, 20], [26]), ([27], [27]), ([27], [27]), ([28, 29, 27, 27], [27, 28, 29]), ([30, 27], [27, 30]), ([27, 31], [27, 31])])
def spilelaw34_SuspectWithout.B14 : List Nat := [0, 1, 0, 0, 12, 28, 63, 127, 255, 511, 1023, 2047, 4095, 2047, 16383, 32767, 65535, 131071, 262143, 524287, 1048575, 2097151, 4194303, 2097151, 16777215, 33554431, 67108863, 134217727, 268435455, 268435455, 1073741823, 2147483647, 4294967295]
theorem spilelaw34_SuspectWithout.tab14 : rtab .any (opsOf Try.f8 14) = spilelaw34_SuspectWithout.T14 := by kernel_rfl
theorem spilelaw34_SuspectWithout.bits14 : waitsOk spilelaw34_SuspectWithout.T14.2 spilelaw34_SuspectWithout.B14 = true := by kernel_rfl
set_option maxHeartbeats 8000000 in
set_option maxRecDepth 100000 in
theorem spilelaw34_SuspectWithout.calls (k : Nat) (A0 : Option Addr) (c0 : Nat) (l0 : List (S30)) (a1 : Int) (a2 : Int) (r : Bool) (w : World) (hr0 : Kd.C k30 w A0 l0.length l0) (hc0 : l0.length ≤ c0) (h : spilelaw34_SuspectWithout.f k l0 a1 a2 = some r) :
  Calls Try.prog 8 #[.slice A0 l0.length c0, .int .i64 a1, .int .i64 a2] w fun e w' => e = .returned (.bool r) ∧ Below w.heap.size w w' := by
 have hu30 := Try.underlying30
 have HR0 := Aside0.mk hr0
 have HC0 := Aside0.mk hc0
 clear hr0 hc0
 have HB := Aside0.mk (Below.refl w.heap.size w)
 have H : ((spilelaw34_awake.f k).bind fun t582 => (if t582 = true then (if (l0.length : Int) > 14 then (some true) else ((clone13.f l0).bind fun t583 => ((suspect_Of.f t583 a1 a2).bind fun bt586 => ((clone13.f l0).bind fun t593 => ((suspect_Without.f t593 a1 a2).bind fun bt596 => (if bt586.2.2 = 0 then (if (wrap64 ((bt586.1.length : Int) + (bt586.2.1.length : Int))) = (l0.length : Int) then (if (bt596.1.length : Int) = (bt586.2.1.length : Int) then (spilelaw34_SuspectWithout.j0 k l0 a1 a2 bt586.2.1 bt596.1 ((bt586.1.length : Int) == 0)) else (none)) else (none)) else (if bt586.2.2 = bt596.2 then (if (bt586.1.length : Int) = 0 then (if (bt586.2.1.length : Int) = 0 then (some ((bt596.1.length : Int) == 0)) else (none)) else (none)) else (none)))))))) else (none))) = some r := h
 clear h
 replace H := Option.bind_eq_some_iff.mp H
 obtain ⟨t582, A40, H⟩ := H
 replace H : (if t582 = true then (if (l0.length : Int) > 14 then (some true) else ((clone13.f l0).bind fun t583 => ((suspect_Of.f t583 a1 a2).bind fun bt586 => ((clone13.f l0).bind fun t593 => ((suspect_Without.f t593 a1 a2).bind fun bt596 => (if bt586.2.2 = 0 then (if (wrap64 ((bt586.1.length : Int) + (bt586.2.1.length : Int))) = (l0.length : Int) then (if (bt596.1.length : Int) = (bt586.2.1.length : Int) then (spilelaw34_SuspectWithout.j0 k l0 a1 a2 bt586.2.1 bt596.1 ((bt586.1.length : Int) == 0)) else (none)) else (none)) else (if bt586.2.2 = bt596.2 then (if (bt586.1.length : Int) = 0 then (if (bt586.2.1.length : Int) = 0 then (some ((bt596.1.length : Int) == 0)) else (none)) else (none)) else (none)))))))) else (none)) = some r := H
 have A4 := Aside0.mk A40
 clear A40
 by_cases c5 : t582 = true
 ·subst c5
  have H1 : (if (l0.length : Int) > 14 then (some true) else ((clone13.f l0).bind fun t583 => ((suspect_Of.f t583 a1 a2).bind fun bt586 => ((clone13.f l0).bind fun t593 => ((suspect_Without.f t593 a1 a2).bind fun bt596 => (if bt586.2.2 = 0 then (if (wrap64 ((bt586.1.length : Int) + (bt586.2.1.length : Int))) = (l0.length : Int) then (if (bt596.1.length : Int) = (bt586.2.1.length : Int) then (spilelaw34_SuspectWithout.j0 k l0 a1 a2 bt586.2.1 bt596.1 ((bt586.1.length : Int) == 0)) else (none)) else (none)) else (if bt586.2.2 = bt596.2 then (if (bt586.1.length : Int) = 0 then (if (bt586.2.1.length : Int) = 0 then (some ((bt596.1.length : Int) == 0)) else (none)) else (none)) else (none)))))))) = some r := by rw [if_pos rfl] at H; exact H
  clear H
  have H := H1
  clear H1
  by_cases c6 : (l0.length : Int) > 14
  ·rw [if_pos c6] at H
   have c6b0 : decide (14 < (l0.length : Int)) = true := decide_eq_true c6
   have c6b1 : decide (14 < l0.length) = true := decide_eq_true (by omega)
   clear c6
   obtain rfl := Option.some.inj H
   go_enter Try.func8, Try.ntmps8
   go_wp2_with (first | ((with_reducible refine gqC (f := 10) rfl ?_); refine GS.gL (some 18) Try.func10 #[] ?_; (with_reducible refine (spilelaw34_awake.calls k  true _ A4.out).mono ?_); rintro e w7 ⟨rfl, hb⟩; refine ⟨_, rfl, ?_⟩; have n0_ := Aside0.mk (lqT (GS.lB HB.out) hb); clear HB; have HB := n0_; clear n0_; (try clear hb); (try clear hb2); (try clear hk); (try clear hi)))
   go_ret
   exact ⟨by first | rfl | (simp [errW_none, errW_some] <;> rfl) | (simp [*, errW_none, errW_some] <;> rfl), GS.lB HB.out⟩
  ·rw [if_neg c6] at H
   have c6b0 : decide (14 < (l0.length : Int)) = false := decide_eq_false c6
   have c6b1 : decide (14 < l0.length) = false := decide_eq_false (by omega)
   clear c6
   replace H := Option.bind_eq_some_iff.mp H
   obtain ⟨t583, A80, H⟩ := H
   replace H : ((suspect_Of.f t583 a1 a2).bind fun bt586 => ((clone13.f l0).bind fun t593 => ((suspect_Without.f t593 a1 a2).bind fun bt596 => (if bt586.2.2 = 0 then (if (wrap64 ((bt586.1.length : Int) + (bt586.2.1.length : Int))) = (l0.length : Int) then (if (bt596.1.length : Int) = (bt586.2.1.length : Int) then (spilelaw34_SuspectWithout.j0 k l0 a1 a2 bt586.2.1 bt596.1 ((bt586.1.length : Int) == 0)) else (none)) else (none)) else (if bt586.2.2 = bt596.2 then (if (bt586.1.length : Int) = 0 then (if (bt586.2.1.length : Int) = 0 then (some ((bt596.1.length : Int) == 0)) else (none)) else (none)) else (none)))))) = some r := H
   have A8 := Aside0.mk A80
   clear A80
   replace H := Option.bind_eq_some_iff.mp H
   obtain ⟨⟨t586, t587, t588⟩, A90, H⟩ := H
   replace H : ((clone13.f l0).bind fun t593 => ((suspect_Without.f t593 a1 a2).bind fun bt596 => (if t588 = 0 then (if (wrap64 ((t586.length : Int) + (t587.length : Int))) = (l0.length : Int) then (if (bt596.1.length : Int) = (t587.length : Int) then (spilelaw34_SuspectWithout.j0 k l0 a1 a2 t587 bt596.1 ((t586.length : Int) == 0)) else (none)) else (none)) else (if t588 = bt596.2 then (if (t586.length : Int) = 0 then (if (t587.length : Int) = 0 then (some ((bt596.1.length : Int) == 0)) else (none)) else (none)) else (none))))) = some r := H
   have A9 := Aside0.mk A90
   clear A90
   replace H := Option.bind_eq_some_iff.mp H
   obtain ⟨t593, A100, H⟩ := H
   replace H : ((suspect_Without.f t593 a1 a2).bind fun bt596 => (if t588 = 0 then (if (wrap64 ((t586.length : Int) + (t587.length : Int))) = (l0.length : Int) then (if (bt596.1.length : Int) = (t587.length : Int) then (spilelaw34_SuspectWithout.j0 k l0 a1 a2 t587 bt596.1 ((t586.length : Int) == 0)) else (none)) else (none)) else (if t588 = bt596.2 then (if (t586.length : Int) = 0 then (if (t587.length : Int) = 0 then (some ((bt596.1.length : Int) == 0)) else (none)) else (none)) else (none)))) = some r := H
   have A10 := Aside0.mk A100
   clear A100
   replace H := Option.bind_eq_some_iff.mp H
   obtain ⟨⟨t596, t597⟩, A110, H⟩ := H
   replace H : (if t588 = 0 then (if (wrap64 ((t586.length : Int) + (t587.length : Int))) = (l0.length : Int) then (if (t596.length : Int) = (t587.length : Int) then (spilelaw34_SuspectWithout.j0 k l0 a1 a2 t587 t596 ((t586.length : Int) == 0)) else (none)) else (none)) else (if t588 = t597 then (if (t586.length : Int) = 0 then (if (t587.length : Int) = 0 then (some ((t596.length : Int) == 0)) else (none)) else (none)) else (none))) = some r := H
   have A11 := Aside0.mk A110
   clear A110
   by_cases c12 : t588 = 0
   ·rw [if_pos c12] at H
    have c12b0 : (t588 == 0) = true := beq_iff_eq.mpr c12
    try simp only [beq_self_eq_true, Bool.not_true, Bool.false_or, Bool.true_and] at c12b0
    have c12b1 : (t588 != 0) = false := bne_eq_false_iff_eq.mpr c12
    clear c12
    have HC13 := Aside0.mk H
    clear H
    go_enter Try.func8, Try.ntmps8
    go_upto_region 9 with (first | ((with_reducible refine gqC (f := 10) rfl ?_); refine GS.gL (some 18) Try.func10 #[] ?_; (with_reducible refine (spilelaw34_awake.calls k  true _ A4.out).mono ?_); rintro e w14 ⟨rfl, hb⟩; refine ⟨_, rfl, ?_⟩; have n0_ := Aside0.mk (lqT (GS.lB HB.out) hb); clear HB; have HB := n0_; clear n0_; (try clear hb); (try clear hb2); (try clear hk); (try clear hi)) | ((with_reducible refine gqC (f := 13) rfl ?_); refine GS.gL (some 25) Try.func13 #[.slice A0 l0.length c0] ?_; (with_reducible refine (clone13.calls _ _ l0 t583 _ ?side1 ?side2 A8.out).mono ?_); (case side1 => exact GS.rC (Kd.C_below HR0.out HB.out)); (case side2 => exact HC0.out); rintro e w15 ⟨v584, rfl, ho0, hb⟩; refine ⟨_, rfl, ?_⟩; have n0_ := Aside0.mk (Kd.R_lower ho0 (lqZ (GS.lB HB.out))); have n1_ := Aside0.mk (lqT (GS.lB HB.out) hb); clear HB; have HO585 := n0_; have HB := n1_; clear n0_ n1_; (try clear hb); (try clear hb2); (try clear hk); (try clear hi); (try clear ho0); obtain ⟨Ao16, co16, eo16⟩ := Kd.R_slice HO585.out; subst eo16) | ((with_reducible refine gqC (f := 15) rfl ?_); refine GS.gL (some 28) Try.func15 #[.slice Ao16 t583.length co16, .int .i64 a1, .int .i64 a2] ?_; (with_reducible refine (suspect_Of.calls _ _ t583 a1 a2 t586 t587 t588 _ ?side1 ?side2 A9.out).mono ?_); (case side1 => repeat (first | exact (Kd.R_reads' HO585.out).2.2 | (with_reducible refine Kd.C_alloc ?_ _) | (with_reducible refine Kd.C_drewN ?_ _) | (with_reducible refine Kd.C_drew ?_))); (case side2 => exact (Kd.R_reads' HO585.out).2.1); rintro e w17 ⟨v589, v591, rfl, ho0, ho1, hb⟩; refine ⟨_, rfl, ?_⟩; have n0_ := Aside0.mk (Kd.R_below (GS.rR HO585.out) hb); have n1_ := Aside0.mk (Kd.R_lower ho0 (lqZ (GS.lB HB.out))); have n2_ := Aside0.mk (Kd.R_lower ho1 (lqZ (GS.lB HB.out))); have n3_ := Aside0.mk (lqT (GS.lB HB.out) hb); clear HO585; clear HB; have HO585 := n0_; have HO590 := n1_; have HO592 := n2_; have HB := n3_; clear n0_ n1_ n2_ n3_; (try clear hb); (try clear hb2); (try clear hk); (try clear hi); (try clear ho0); (try clear ho1)) | ((with_reducible refine gqC (f := 13) rfl ?_); refine GS.gL (some 34) Try.func13 #[.slice A0 l0.length c0] ?_; (with_reducible refine (clone13.calls _ _ l0 t593 _ ?side1 ?side2 A10.out).mono ?_); (case side1 => exact GS.rC (Kd.C_below HR0.out HB.out)); (case side2 => exact HC0.out); rintro e w18 ⟨v594, rfl, ho0, hb⟩; refine ⟨_, rfl, ?_⟩; have n0_ := Aside0.mk (Kd.R_elder' (GS.rR HO585.out) (Kd.R_base ho0) hb); have n1_ := Aside0.mk (Kd.R_below (GS.rR HO590.out) hb); have n2_ := Aside0.mk (Kd.R_below (GS.rR HO592.out) hb); have n3_ := Aside0.mk (Kd.R_lower (Kd.R_new' ho0 (Kd.R_lt (GS.rR HO585.out))) (lqZ (GS.lB HB.out))); have n4_ := Aside0.mk (lqT (GS.lB HB.out) hb); clear HO585; clear HO590; clear HO592; clear HB; have HO585 := n0_; have HO590 := n1_; have HO592 := n2_; have HO595 := n3_; have HB := n4_; clear n0_ n1_ n2_ n3_ n4_; (try clear hb); (try clear hb2); (try clear hk); (try clear hi); (try clear ho0); obtain ⟨Ao19, co19, eo19⟩ := Kd.R_slice HO595.out; subst eo19) | ((with_reducible refine gqC (f := 17) rfl ?_); refine GS.gL (some 37) Try.func17 #[.slice Ao19 t593.length co19, .int .i64 a1, .int .i64 a2] ?_; (with_reducible refine (suspect_Without.calls _ _ t593 a1 a2 t596 t597 _ ?side1 ?side2 A11.out).mono ?_); (case side1 => repeat (first | exact (Kd.R_reads' HO595.out).2.2 | (with_reducible refine Kd.C_alloc ?_ _) | (with_reducible refine Kd.C_drewN ?_ _) | (with_reducible refine Kd.C_drew ?_))); (case side2 => exact (Kd.R_reads' HO595.out).2.1); rintro e w20 ⟨v598, rfl, ho0, hb⟩; refine ⟨_, rfl, ?_⟩; have n0_ := Aside0.mk (Kd.R_elder' (GS.rR HO585.out) (Kd.R_base ho0) hb); have n1_ := Aside0.mk (Kd.R_below (GS.rR HO590.out) hb); have n2_ := Aside0.mk (Kd.R_below (GS.rR HO592.out) hb); have n3_ := Aside0.mk (Kd.R_elder' (GS.rR HO595.out) (Kd.R_base ho0) hb); have n4_ := Aside0.mk (Kd.R_lower (Kd.R_new' (Kd.R_new' ho0 (Kd.R_lt (GS.rR HO585.out))) (Kd.R_lt (GS.rR HO595.out))) (lqZ (GS.lB HB.out))); have n5_ := Aside0.mk (lqT (GS.lB HB.out) hb); clear HO585; clear HO590; clear HO592; clear HO595; clear HB; have HO585 := n0_; have HO590 := n1_; have HO592 := n2_; have HO595 := n3_; have HO599 := n4_; have HB := n5_; clear n0_ n1_ n2_ n3_ n4_ n5_; (try clear hb); (try clear hb2); (try clear hk); (try clear hi); (try clear ho0)))
    (try simp only [Act.put, List.setIfInBounds_toArray, List.set_cons_zero, List.set_cons_succ])
    go_cut [79] (fun v79 wc => ∃ (kq : Nat) (x79_12 : Bool), v79 = .bool x79_12 ∧ Aside0 (spilelaw34_SuspectWithout.j0 kq l0 a1 a2 t587 t596 x79_12 = some r) ∧ Aside0 (kq ≤ k) ∧ Aside0 (Kd.R (Kd.int .i64) 3 wc w.heap.size (fun _ => True) v591 t587) ∧ Aside0 (Kd.R k30 30 wc w.heap.size (fun _ => True) v598 t596) ∧ Aside0 (Below w.heap.size w wc))
    case first =>
     have H := HC13.out
     clear HC13
     by_cases c21 : (wrap64 ((t586.length : Int) + (t587.length : Int))) = (l0.length : Int)
     ·rw [if_pos c21] at H
      have c21b0 : ((wrap64 ((t586.length : Int) + (t587.length : Int))) == (l0.length : Int)) = true := beq_iff_eq.mpr c21
      try simp only [beq_self_eq_true, Bool.not_true, Bool.false_or, Bool.true_and] at c21b0
      have c21b1 : ((wrap64 ((t586.length : Int) + (t587.length : Int))) != (l0.length : Int)) = false := bne_eq_false_iff_eq.mpr c21
      clear c21
      (first | rw [c21b0] | (simp only [i64_w, i32_w]; rw [c21b0]) | skip)
      by_cases c22 : (t596.length : Int) = (t587.length : Int)
      ·rw [if_pos c22] at H
       have c22b0 : ((t596.length : Int) == (t587.length : Int)) = true := beq_iff_eq.mpr c22
       try simp only [beq_self_eq_true, Bool.not_true, Bool.false_or, Bool.true_and] at c22b0
       have c22b1 : ((t596.length : Int) != (t587.length : Int)) = false := bne_eq_false_iff_eq.mpr c22
       have c22b2 : (t596.length == t587.length) = true := by first | simpa using c22 | (simp at c22 ⊢; omega)
       clear c22
       have H' := Aside0.mk H
       clear H
       obtain ⟨Ao23, co23, eo23⟩ := Kd.R_slice HO590.out
       subst eo23
       obtain ⟨Ao24, co24, eo24⟩ := Kd.R_slice HO592.out
       subst eo24
       obtain ⟨Ao25, co25, eo25⟩ := Kd.R_slice HO599.out
       subst eo25
       go_wp2
       go_meet
       case rel => exact ⟨_, (((t586.length : Int) == 0)), (by first | rfl | (simp; done) | (simp [*]; done)), H', ⟨by first | omega | exact Nat.le_refl _⟩, ⟨by (with_reducible repeat (first | apply Kd.R_alloc | apply Kd.R_drewN | apply Kd.R_drew)); exact Kd.R_mono HO592.out (fun _ hk => trivial)⟩, ⟨by (with_reducible repeat (first | apply Kd.R_alloc | apply Kd.R_drewN | apply Kd.R_drew)); exact Kd.R_mono HO599.out (fun _ hk => trivial)⟩, ⟨GS.lB HB.out⟩⟩
      ·rw [if_neg c22] at H
       exact absurd H (by simp)
     ·rw [if_neg c21] at H
      exact absurd H (by simp)
    case rest =>
     clear HC13
     try clear c1
     try clear c2
     try clear p2
     try clear c5
     try clear c6
     try clear c6b0
     try clear c6b1
     try clear p6
     try clear c8
     try clear c10
     try clear c12
     try clear c12b0
     try clear c12b1
     try clear c13
     try clear c15
     try clear c17
     try clear c21
     try clear c21b0
     try clear c21b1
     try clear c22
     try clear c22b0
     try clear c22b1
     try clear c22b2
     obtain ⟨kq, x79_12, rfl, HA, HJ12, HO_8, HO_10, HB⟩ := hcut
     cases kq with
     | zero => exact absurd HA.out (by simp [spilelaw34_SuspectWithout.j0])
     | succ kj12 =>
      have H := HA.out
      clear HA
      simp only [spilelaw34_SuspectWithout.j0] at H
      by_cases c26 : x79_12 = true
      ·subst c26
       have H1 : (none) = some r := by rw [if_pos rfl] at H; exact H
       clear H
       have H := H1
       clear H1
       exact absurd H (by simp)
      ·replace c26 := Bool.eq_false_iff.mpr c26
       subst c26
       have H1 : (spilelaw34_SuspectWithout.l0 kj12 l0 a1 a2 t587 t596 t596 (t596.length : Int) 0) = some r := by rw [if_neg (show ¬ (false = true) by decide)] at H; exact H
       clear H
       have H := H1
       clear H1
       have H' := Aside0.mk H
       clear H
       obtain ⟨Ao27, co27, eo27⟩ := Kd.R_slice HO_10.out
       subst eo27
       go_wp2
       go_loopg [82] kj12 (fun kq v82 w' => ∃ (x82_2 : Int), v82 = .int .i64 x82_2 ∧ Aside0 (spilelaw34_SuspectWithout.l0 kq l0 a1 a2 t587 t596 t596 (t596.length : Int) x82_2 = some r) ∧ Aside0 (kq ≤ kj12) ∧ Aside0 (Kd.R (Kd.int .i64) 3 w' w.heap.size (fun _ => True) v591 t587) ∧ Aside0 (Kd.R k30 30 w' w.heap.size (fun _ => True) (.slice Ao27 t596.length co27) t596) ∧ Aside0 (Kd.R k30 30 w' w.heap.size (fun _ => True) (.slice Ao27 t596.length co27) t596) ∧ Aside0 (Below w.heap.size w w'))
       case atStart => exact ⟨(0), (by first | rfl | (simp; done) | (simp [*]; done)), H', ⟨Nat.le_refl _⟩, ⟨by (with_reducible repeat (first | apply Kd.R_alloc | apply Kd.R_drewN | apply Kd.R_drew)); exact HO_8.out⟩, ⟨by (with_reducible repeat (first | apply Kd.R_alloc | apply Kd.R_drewN | apply Kd.R_drew)); exact HO_10.out⟩, ⟨by (with_reducible repeat (first | apply Kd.R_alloc | apply Kd.R_drewN | apply Kd.R_drew)); exact HO_10.out⟩, ⟨GS.lB HB.out⟩⟩
       case round =>
        clear H'
        try clear c1
        try clear c2
        try clear p2
        try clear c5
        try clear c6
        try clear c6b0
        try clear c6b1
        try clear p6
        try clear c8
        try clear c10
        try clear c12
        try clear c12b0
        try clear c12b1
        try clear c13
        try clear c15
        try clear c17
        try clear c21
        try clear c21b0
        try clear c21b1
        try clear c22
        try clear c22b0
        try clear c22b1
        try clear c22b2
        try clear c26
        try clear p2
        try clear p6
        obtain ⟨x82_2, rfl, HA, HK2, HO_8, HO_10, HO_80, HB⟩ := hrel
        cases gk with
        | zero => exact absurd HA.out (by simp [spilelaw34_SuspectWithout.l0])
        | succ k2 =>
         have H := HA.out
         clear HA
         simp only [spilelaw34_SuspectWithout.l0] at H
         by_cases c28 : x82_2 < (t596.length : Int)
         ·rw [if_pos c28] at H
          have c28b0 : decide (x82_2 < (t596.length : Int)) = true := decide_eq_true c28
          clear c28
          by_cases c29 : 0 ≤ x82_2
          ·rw [if_pos c29] at H
           have c29b0 : decide (0 ≤ x82_2) = true := decide_eq_true c29
           clear c29
           by_cases c30 : x82_2 < (t596.length : Int)
           ·rw [if_pos c30] at H
            have c30b0 : decide (x82_2 < (t596.length : Int)) = true := decide_eq_true c30
            clear c30
            have HC31 := Aside0.mk H
            clear H
            have p600 : 0 ≤ (x82_2 : Int) := of_decide_eq_true (by first | (with_reducible assumption) | assumption)
            have q600 : x82_2 < (t596.length : Int) := of_decide_eq_true (by first | (with_reducible assumption) | assumption)
            obtain ⟨ad600, e600, hx600_0, hx600_1, hx600_2, hx600_3⟩ := at_T30 (Kd.R_reads' HO_80.out).2.2 x82_2 p600 q600
            cases e600
            replace p600 := eq_true p600
            replace q600 := eq_true q600
            go_upto_region 14 with (first | ((with_reducible refine gqD (N := 13) rfl ?_); (try (refine gate_guard (by rfl) ?_; dsimp only)); refine GS.bx (N := 13) (cs := #[.int .i64 0, .int .i64 0, .int .i64 0, .int .i64 0]) (t := 30) ?_; intro gb601 hg w32 hbox hb; have n0_ := Aside0.mk (Kd.R_below (GS.rR HO_8.out) hb); have n1_ := Aside0.mk (Kd.R_below (Kd.R_elderB (GS.rR HO_10.out) gb601 (Nat.le_of_eq hg.symm)) hb); have n2_ := Aside0.mk (Kd.R_below (Kd.R_elderB (GS.rR HO_80.out) gb601 (Nat.le_of_eq hg.symm)) hb); have n3_ := Aside0.mk (lqT (GS.lB HB.out) hb); have n4_ := Aside0.mk (hbox); have n5_ := Aside0.mk ((by rw [hg]; exact (lqZ (GS.lB HB.out)) : w.heap.size ≤ gb601)); have n6_ := Aside0.mk ((by rw [hg]; exact (lqZ (GS.lB HB.out)) : w.heap.size ≤ gb601)); clear HO_8; clear HO_10; clear HO_80; clear HB; have HO_8 := n0_; have HO_10 := n1_; have HO_80 := n2_; have HB := n3_; have BK601 := n4_; have GW601 := n5_; have GE601 := n6_; clear n0_ n1_ n2_ n3_ n4_ n5_ n6_; clear hb hbox hg; obtain ⟨hcz33_0, hcz33_1, hcz33_2, hcz33_3, hfz33_0, hfz33_1, hfz33_2, hfz33_3⟩ := GS.c4 BK601.out))
            (try simp only [Act.put, List.setIfInBounds_toArray, List.set_cons_zero, List.set_cons_succ])
            go_cut [119] (fun v119 wc => ∃ (kq : Nat) (x119_30 : Bool), v119 = .bool x119_30 ∧ Aside0 (spilelaw34_SuspectWithout.j2 kq l0 a1 a2 t587 t596 t596 (t596.length : Int) x82_2 x119_30 = some r) ∧ Aside0 (kq ≤ k2) ∧ Aside0 (Kd.R (Kd.int .i64) 3 wc w.heap.size (fun _ => True) v591 t587) ∧ Aside0 (Kd.R k30 30 wc w.heap.size (fun k_ => k_ ≠ gb601) (.slice (some ad600) t596.length co27) t596) ∧ Aside0 (Kd.R k30 30 wc w.heap.size (fun k_ => k_ ≠ gb601) (.slice (some ad600) t596.length co27) t596) ∧ Aside0 (wc.heap[gb601]? = some (.cells #[.int .i64 ((rd_T30 t596 x82_2).f0), .int .i64 ((rd_T30 t596 x82_2).f1), .int .i64 ((rd_T30 t596 x82_2).f2), .int .i64 ((rd_T30 t596 x82_2).f3)] 30 (0, 0))) ∧ Aside0 (Below w.heap.size w wc))
            case first =>
             have H := HC31.out
             clear HC31
             by_cases c34 : x82_2 < (t587.length : Int)
             ·rw [if_pos c34] at H
              have c34b0 : decide (x82_2 < (t587.length : Int)) = true := decide_eq_true c34
              clear c34
              (first | rw [c34b0] | (simp only [i64_w, i32_w]; rw [c34b0]) | skip)
              by_cases c35 : ((rd_T30 t596 x82_2).f3) = (rd t587 x82_2)
              ·rw [if_pos c35] at H
               have c35b0 : (((rd_T30 t596 x82_2).f3) == (rd t587 x82_2)) = true := beq_iff_eq.mpr c35
               try simp only [beq_self_eq_true, Bool.not_true, Bool.false_or, Bool.true_and] at c35b0
               have c35b1 : (((rd_T30 t596 x82_2).f3) != (rd t587 x82_2)) = false := bne_eq_false_iff_eq.mpr c35
               clear c35
               by_cases c36 : a1 = 1
               ·rw [if_pos c36] at H
                have c36b0 : (a1 == 1) = true := beq_iff_eq.mpr c36
                try simp only [beq_self_eq_true, Bool.not_true, Bool.false_or, Bool.true_and] at c36b0
                have c36b1 : (a1 != 1) = false := bne_eq_false_iff_eq.mpr c36
                clear c36
                by_cases c37 : ((rd_T30 t596 x82_2).f1) = a2
                ·rw [if_pos c37] at H
                 exact absurd H (by simp)
                ·rw [if_neg c37] at H
                 have c37b0 : (((rd_T30 t596 x82_2).f1) == a2) = false := beq_eq_false_iff_ne.mpr c37
                 try simp only [beq_self_eq_true, Bool.not_true, Bool.false_or, Bool.true_and] at c37b0
                 have c37b1 : (((rd_T30 t596 x82_2).f1) != a2) = true := bne_iff_ne.mpr c37
                 by_cases c38 : a1 = 2
                 ·rw [if_pos c38] at H
                  have c38b0 : (a1 == 2) = true := beq_iff_eq.mpr c38
                  try simp only [beq_self_eq_true, Bool.not_true, Bool.false_or, Bool.true_and] at c38b0
                  have c38b1 : (a1 != 2) = false := bne_eq_false_iff_eq.mpr c38
                  clear c38
                  by_cases c39 : ((rd_T30 t596 x82_2).f2) = a2
                  ·rw [if_pos c39] at H
                   exact absurd H (by simp)
                  ·rw [if_neg c39] at H
                   have c39b0 : (((rd_T30 t596 x82_2).f2) == a2) = false := beq_eq_false_iff_ne.mpr c39
                   try simp only [beq_self_eq_true, Bool.not_true, Bool.false_or, Bool.true_and] at c39b0
                   have c39b1 : (((rd_T30 t596 x82_2).f2) != a2) = true := bne_iff_ne.mpr c39
                   replace H := Option.bind_eq_some_iff.mp H
                   obtain ⟨t603, A400, H⟩ := H
                   replace H : (spilelaw34_SuspectWithout.j2 k2 l0 a1 a2 t587 t596 t596 (t596.length : Int) x82_2 (!t603)) = some r := H
                   have A40 := Aside0.mk A400
                   clear A400
                   have H' := Aside0.mk H
                   clear H
                   try go_wp2
                   have n0_ : Aside0 (Kd.R (Kd.int .i64) 3 ((((w32.setCell ⟨gb601, 0, none⟩ (.int .i64 ((rd_T30 t596 x82_2).f0))).setCell ⟨gb601, 1, none⟩ (.int .i64 ((rd_T30 t596 x82_2).f1))).setCell ⟨gb601, 2, none⟩ (.int .i64 ((rd_T30 t596 x82_2).f2))).setCell ⟨gb601, 3, none⟩ (.int .i64 ((rd_T30 t596 x82_2).f3))) w.heap.size (fun _ => True) v591 t587) := ⟨by (with_reducible repeat (first | apply Kd.R_alloc | apply Kd.R_drewN | apply Kd.R_drew)); exact Kd.R_mono (Kd.R_far (p := ⟨gb601, 3, none⟩) (Kd.R_far (p := ⟨gb601, 2, none⟩) (Kd.R_far (p := ⟨gb601, 1, none⟩) (Kd.R_far (p := ⟨gb601, 0, none⟩) (Kd.R_types HO_8.out BK601.out (by decide)) (fun _ hk => hk.2) (.int .i64 ((rd_T30 t596 x82_2).f0))) (fun _ hk => hk.2) (.int .i64 ((rd_T30 t596 x82_2).f1))) (fun _ hk => hk.2) (.int .i64 ((rd_T30 t596 x82_2).f2))) (fun _ hk => hk.2) (.int .i64 ((rd_T30 t596 x82_2).f3))) (fun _ hk => trivial)⟩
                   have n1_ : Aside0 (Kd.R k30 30 ((((w32.setCell ⟨gb601, 0, none⟩ (.int .i64 ((rd_T30 t596 x82_2).f0))).setCell ⟨gb601, 1, none⟩ (.int .i64 ((rd_T30 t596 x82_2).f1))).setCell ⟨gb601, 2, none⟩ (.int .i64 ((rd_T30 t596 x82_2).f2))).setCell ⟨gb601, 3, none⟩ (.int .i64 ((rd_T30 t596 x82_2).f3))) w.heap.size (fun k_ => k_ ≠ gb601) (.slice (some ad600) t596.length co27) t596) := ⟨by (with_reducible repeat (first | apply Kd.R_alloc | apply Kd.R_drewN | apply Kd.R_drew)); exact Kd.R_mono (Kd.R_far (p := ⟨gb601, 3, none⟩) (Kd.R_far (p := ⟨gb601, 2, none⟩) (Kd.R_far (p := ⟨gb601, 1, none⟩) (Kd.R_far (p := ⟨gb601, 0, none⟩) (Kd.R_mono HO_10.out (fun k_ hk => (⟨hk, GS.cj hk⟩ : _ ∧ k_ ≠ gb601))) (fun _ hk => hk.2) (.int .i64 ((rd_T30 t596 x82_2).f0))) (fun _ hk => hk.2) (.int .i64 ((rd_T30 t596 x82_2).f1))) (fun _ hk => hk.2) (.int .i64 ((rd_T30 t596 x82_2).f2))) (fun _ hk => hk.2) (.int .i64 ((rd_T30 t596 x82_2).f3))) (fun _ hk => GS.cj hk)⟩
                   have n2_ : Aside0 (Kd.R k30 30 ((((w32.setCell ⟨gb601, 0, none⟩ (.int .i64 ((rd_T30 t596 x82_2).f0))).setCell ⟨gb601, 1, none⟩ (.int .i64 ((rd_T30 t596 x82_2).f1))).setCell ⟨gb601, 2, none⟩ (.int .i64 ((rd_T30 t596 x82_2).f2))).setCell ⟨gb601, 3, none⟩ (.int .i64 ((rd_T30 t596 x82_2).f3))) w.heap.size (fun k_ => k_ ≠ gb601) (.slice (some ad600) t596.length co27) t596) := ⟨by (with_reducible repeat (first | apply Kd.R_alloc | apply Kd.R_drewN | apply Kd.R_drew)); exact Kd.R_mono (Kd.R_far (p := ⟨gb601, 3, none⟩) (Kd.R_far (p := ⟨gb601, 2, none⟩) (Kd.R_far (p := ⟨gb601, 1, none⟩) (Kd.R_far (p := ⟨gb601, 0, none⟩) (Kd.R_mono HO_80.out (fun k_ hk => (⟨hk, GS.cj hk⟩ : _ ∧ k_ ≠ gb601))) (fun _ hk => hk.2) (.int .i64 ((rd_T30 t596 x82_2).f0))) (fun _ hk => hk.2) (.int .i64 ((rd_T30 t596 x82_2).f1))) (fun _ hk => hk.2) (.int .i64 ((rd_T30 t596 x82_2).f2))) (fun _ hk => hk.2) (.int .i64 ((rd_T30 t596 x82_2).f3))) (fun _ hk => GS.cj hk)⟩
                   have n3_ : Aside0 (((((w32.setCell ⟨gb601, 0, none⟩ (.int .i64 ((rd_T30 t596 x82_2).f0))).setCell ⟨gb601, 1, none⟩ (.int .i64 ((rd_T30 t596 x82_2).f1))).setCell ⟨gb601, 2, none⟩ (.int .i64 ((rd_T30 t596 x82_2).f2))).setCell ⟨gb601, 3, none⟩ (.int .i64 ((rd_T30 t596 x82_2).f3))).heap[gb601]? = some (.cells #[.int .i64 ((rd_T30 t596 x82_2).f0), .int .i64 ((rd_T30 t596 x82_2).f1), .int .i64 ((rd_T30 t596 x82_2).f2), .int .i64 ((rd_T30 t596 x82_2).f3)] 30 (0, 0))) := ⟨GS.bqZ BK601.out⟩
                   have n4_ : Aside0 (Below w.heap.size w ((((w32.setCell ⟨gb601, 0, none⟩ (.int .i64 ((rd_T30 t596 x82_2).f0))).setCell ⟨gb601, 1, none⟩ (.int .i64 ((rd_T30 t596 x82_2).f1))).setCell ⟨gb601, 2, none⟩ (.int .i64 ((rd_T30 t596 x82_2).f2))).setCell ⟨gb601, 3, none⟩ (.int .i64 ((rd_T30 t596 x82_2).f3)))) := ⟨GS.lB HB.out⟩
                   (try clear HO_8)
                   (try clear HO_10)
                   (try clear HO_80)
                   (try clear BK601)
                   (try clear HB)
                   generalize ((((w32.setCell ⟨gb601, 0, none⟩ (.int .i64 ((rd_T30 t596 x82_2).f0))).setCell ⟨gb601, 1, none⟩ (.int .i64 ((rd_T30 t596 x82_2).f1))).setCell ⟨gb601, 2, none⟩ (.int .i64 ((rd_T30 t596 x82_2).f2))).setCell ⟨gb601, 3, none⟩ (.int .i64 ((rd_T30 t596 x82_2).f3))) = w41 at n0_ n1_ n2_ n3_ n4_ ⊢
                   have HO_8 := n0_
                   have HO_10 := n1_
                   have HO_80 := n2_
                   have BK601 := n3_
                   have HB := n4_
                   clear n0_ n1_ n2_ n3_ n4_
                   have n0_ := Aside0.mk (Kd.R_drew HO_8.out)
                   have n1_ := Aside0.mk (Kd.R_drew HO_10.out)
                   have n2_ := Aside0.mk (Kd.R_drew HO_80.out)
                   have n3_ := Aside0.mk (bqD BK601.out)
                   have n4_ := Aside0.mk (lqD HB.out)
                   clear HO_8
                   clear HO_10
                   clear HO_80
                   clear BK601
                   clear HB
                   have HO_8 := n0_
                   have HO_10 := n1_
                   have HO_80 := n2_
                   have BK601 := n3_
                   have HB := n4_
                   clear n0_ n1_ n2_ n3_ n4_
                   obtain ⟨Ao43, co43, eo43⟩ := Kd.R_slice HO_8.out
                   (first | subst eo43 | (injection eo43 with f1_ f2_ f3_; have f4_ := f1_.symm; have f5_ := f3_.symm; clear f1_ f2_ f3_; subst f4_; subst f5_))
                   have p602 : 0 ≤ (x82_2 : Int) := of_decide_eq_true (by first | (with_reducible assumption) | assumption)
                   have q602 : x82_2 < (t587.length : Int) := of_decide_eq_true (by first | (with_reducible assumption) | assumption)
                   obtain ⟨ad602, e602, hx602_0⟩ := Kd.at_int (Kd.R_reads' HO_8.out).2.2 x82_2 p602 q602
                   cases e602
                   replace p602 := eq_true p602
                   replace q602 := eq_true q602
                   refine start_ (n := 33) (S := fun w' => w'.cell? ⟨gb601, 0, none⟩ = some (.int .i64 ((rd_T30 t596 x82_2).f0)) ∧ w'.cell? ⟨gb601, 1, none⟩ = some (.int .i64 ((rd_T30 t596 x82_2).f1)) ∧ w'.cell? ⟨gb601, 2, none⟩ = some (.int .i64 ((rd_T30 t596 x82_2).f2)) ∧ w'.cell? ⟨gb601, 3, none⟩ = some (.int .i64 ((rd_T30 t596 x82_2).f3)) ∧ w'.cell? (ad602.add (x82_2).toNat) = some (.int .i64 (rd t587 x82_2))) (ds := []) #[false, false, false, false, false, false, false, false, false, false, false, false, false, false, false, false, false, false, false, false, false, false, false, false, false, false, false, false, false, false, false, false, false] (by kernel_rfl) rfl rfl ⟨(bqC BK601.out 0).trans rfl, (bqC BK601.out 1).trans rfl, (bqC BK601.out 2).trans rfl, (bqC BK601.out 3).trans rfl, hx602_0⟩ (fun hHeld => ?_); refine with_tabW spilelaw34_SuspectWithout.tab14 spilelaw34_SuspectWithout.bits14 (fun HT_ HW_ => ?_)
                   generalize w41.drew = w42 at HO_8 HO_10 HO_80 BK601 HB hx602_0 hHeld ⊢
                   refine GS.pu 0 (some 87) HT_.out ?_
                   refine GS.pu 2 (some 89) HT_.out ?_
                   refine GS.pu 3 (some 90) HT_.out ?_
                   refine GS.pu 4 (some 91) HT_.out ?_
                   refine GS.tk 1 (some 88) HT_.out HW_.out hHeld ?_
                   refine GS.tk 5 (some 92) HT_.out HW_.out hHeld ?_
                   refine GS.pu 6 (some 93) HT_.out ?_
                   refine GS.pu 7 (some 94) HT_.out ?_
                   refine GS.pu 8 (some 95) HT_.out ?_
                   refine GS.pu 9 (some 96) HT_.out ?_
                   refine GS.pu 10 (some 97) HT_.out ?_
                   refine GS.pu 11 (some 98) HT_.out ?_
                   refine GS.pu 13 (some 100) HT_.out ?_
                   refine GS.tk 12 (some 99) HT_.out HW_.out hHeld ?_
                   refine GS.pu 14 (some 101) HT_.out ?_
                   refine GS.pu 15 (some 102) HT_.out ?_
                   refine GS.pu 16 (some 103) HT_.out ?_
                   refine GS.pu 17 (some 104) HT_.out ?_
                   refine GS.pu 18 (some 105) HT_.out ?_
                   refine GS.pu 19 (some 106) HT_.out ?_
                   refine GS.pu 20 (some 107) HT_.out ?_
                   refine GS.pu 21 (some 108) HT_.out ?_
                   refine GS.pu 23 (some 110) HT_.out ?_
                   refine GS.tk 22 (some 109) HT_.out HW_.out hHeld ?_
                   refine GS.pu 24 (some 111) HT_.out ?_
                   refine GS.pu 25 (some 112) HT_.out ?_
                   refine GS.pu 26 (some 113) HT_.out ?_
                   refine GS.pu 27 (some 114) HT_.out ?_
                   refine GS.pu 28 (some 115) HT_.out ?_
                   refine GS.tk 29 (some 116) HT_.out HW_.out hHeld ?_
                   refine one_ (i := 30) (N := some 117) #[true, true, true, true, true, true, true, true, true, true, true, true, true, true, true, true, true, true, true, true, true, true, true, true, true, true, true, true, true, true, true, false, false] rfl rfl (one_of HT_.out (by kernel_rfl)) (by decide) (fun K hK => ?_)
                   refine goes_ Try.func29 (by kernel_rfl) rfl #[.slice A0 l0.length c0, .agg #[.int .i64 ((rd_T30 t596 x82_2).f0), .int .i64 ((rd_T30 t596 x82_2).f1), .int .i64 ((rd_T30 t596 x82_2).f2), .int .i64 ((rd_T30 t596 x82_2).f3)]] (by rfl) rfl rfl (by (try simp only [List.map_toArray, List.map_cons, List.map_nil]); first | done | rfl | (simp only [List.length_drop, List.length_take]; rfl)) ?_
                   with_reducible refine (api_Finding_29.calls k2 _ _ l0 ((rd_T30 t596 x82_2).f0) ((rd_T30 t596 x82_2).f1) ((rd_T30 t596 x82_2).f2) ((rd_T30 t596 x82_2).f3) t603 _ ?side1 ?side2 A40.out).mono ?_
                   (case side1 => exact GS.rC (Kd.C_below HR0.out HB.out))
                   (case side2 => exact HC0.out)
                   rintro e w44 ⟨rfl, hb⟩
                   have HS4_ := (hb.cell (World.block_lt_of_cell? _ _ (hHeld.2.2.2.2))).trans (hHeld.2.2.2.2)
                   refine ⟨_, rfl, ?_⟩
                   have n0_ := Aside0.mk (Kd.R_below (GS.rR HO_8.out) hb)
                   have n1_ := Aside0.mk (Kd.R_below (GS.rR HO_10.out) hb)
                   have n2_ := Aside0.mk (Kd.R_below (GS.rR HO_80.out) hb)
                   have n3_ := Aside0.mk (bqB (GS.bqX BK601.out) hb)
                   have n4_ := Aside0.mk (lqT (GS.lB HB.out) hb)
                   clear HO_8
                   clear HO_10
                   clear HO_80
                   clear BK601
                   clear HB
                   have HO_8 := n0_
                   have HO_10 := n1_
                   have HO_80 := n2_
                   have BK601 := n3_
                   have HB := n4_
                   clear n0_ n1_ n2_ n3_ n4_
                   (try clear hb)
                   (try clear hb2)
                   (try clear hk)
                   (try clear hi)
                   refine hK.out _ _ ⟨(bqC BK601.out 0).trans rfl, (bqC BK601.out 1).trans rfl, (bqC BK601.out 2).trans rfl, (bqC BK601.out 3).trans rfl, HS4_⟩ (fun hHeld => ?_)
                   clear hK K
                   refine norm_ (a' := ?_) ?_ ?_
                   rotate_left
                   ·show Act.put _ (some 117) _ = _
                    simp only [Act.put, List.setIfInBounds_toArray, List.set_cons_zero, List.set_cons_succ, i64_w, i32_w]
                    rfl
                   refine GS.pu 31 (some 118) HT_.out ?_
                   refine GS.pu 32 (some 119) HT_.out ?_
                   refine done_ (done_of HT_.out (by kernel_rfl)) ?_
                   try go_wp2
                   go_meet
                   case rel => exact ⟨_, (!t603), (by first | rfl | (simp; done) | (simp [*]; done)), H', ⟨by have := HJ12.out; have := HK2.out; first | omega | exact Nat.le_refl _⟩, ⟨by (with_reducible repeat (first | apply Kd.R_alloc | apply Kd.R_drewN | apply Kd.R_drew)); exact HO_8.out⟩, ⟨by (with_reducible repeat (first | apply Kd.R_alloc | apply Kd.R_drewN | apply Kd.R_drew)); exact HO_10.out⟩, ⟨by (with_reducible repeat (first | apply Kd.R_alloc | apply Kd.R_drewN | apply Kd.R_drew)); exact HO_80.out⟩, ⟨GS.bqX BK601.out⟩, ⟨GS.lB HB.out⟩⟩
                 ·rw [if_neg c38] at H
                  have c38b0 : (a1 == 2) = false := beq_eq_false_iff_ne.mpr c38
                  try simp only [beq_self_eq_true, Bool.not_true, Bool.false_or, Bool.true_and] at c38b0
                  have c38b1 : (a1 != 2) = true := bne_iff_ne.mpr c38
                  replace H := Option.bind_eq_some_iff.mp H
                  obtain ⟨t604, A450, H⟩ := H
                  replace H : (spilelaw34_SuspectWithout.j2 k2 l0 a1 a2 t587 t596 t596 (t596.length : Int) x82_2 (!t604)) = some r := H
                  have A45 := Aside0.mk A450
                  clear A450
                  have H' := Aside0.mk H
                  clear H
                  try go_wp2
                  have n0_ : Aside0 (Kd.R (Kd.int .i64) 3 ((((w32.setCell ⟨gb601, 0, none⟩ (.int .i64 ((rd_T30 t596 x82_2).f0))).setCell ⟨gb601, 1, none⟩ (.int .i64 ((rd_T30 t596 x82_2).f1))).setCell ⟨gb601, 2, none⟩ (.int .i64 ((rd_T30 t596 x82_2).f2))).setCell ⟨gb601, 3, none⟩ (.int .i64 ((rd_T30 t596 x82_2).f3))) w.heap.size (fun _ => True) v591 t587) := ⟨by (with_reducible repeat (first | apply Kd.R_alloc | apply Kd.R_drewN | apply Kd.R_drew)); exact Kd.R_mono (Kd.R_far (p := ⟨gb601, 3, none⟩) (Kd.R_far (p := ⟨gb601, 2, none⟩) (Kd.R_far (p := ⟨gb601, 1, none⟩) (Kd.R_far (p := ⟨gb601, 0, none⟩) (Kd.R_types HO_8.out BK601.out (by decide)) (fun _ hk => hk.2) (.int .i64 ((rd_T30 t596 x82_2).f0))) (fun _ hk => hk.2) (.int .i64 ((rd_T30 t596 x82_2).f1))) (fun _ hk => hk.2) (.int .i64 ((rd_T30 t596 x82_2).f2))) (fun _ hk => hk.2) (.int .i64 ((rd_T30 t596 x82_2).f3))) (fun _ hk => trivial)⟩
                  have n1_ : Aside0 (Kd.R k30 30 ((((w32.setCell ⟨gb601, 0, none⟩ (.int .i64 ((rd_T30 t596 x82_2).f0))).setCell ⟨gb601, 1, none⟩ (.int .i64 ((rd_T30 t596 x82_2).f1))).setCell ⟨gb601, 2, none⟩ (.int .i64 ((rd_T30 t596 x82_2).f2))).setCell ⟨gb601, 3, none⟩ (.int .i64 ((rd_T30 t596 x82_2).f3))) w.heap.size (fun k_ => k_ ≠ gb601) (.slice (some ad600) t596.length co27) t596) := ⟨by (with_reducible repeat (first | apply Kd.R_alloc | apply Kd.R_drewN | apply Kd.R_drew)); exact Kd.R_mono (Kd.R_far (p := ⟨gb601, 3, none⟩) (Kd.R_far (p := ⟨gb601, 2, none⟩) (Kd.R_far (p := ⟨gb601, 1, none⟩) (Kd.R_far (p := ⟨gb601, 0, none⟩) (Kd.R_mono HO_10.out (fun k_ hk => (⟨hk, GS.cj hk⟩ : _ ∧ k_ ≠ gb601))) (fun _ hk => hk.2) (.int .i64 ((rd_T30 t596 x82_2).f0))) (fun _ hk => hk.2) (.int .i64 ((rd_T30 t596 x82_2).f1))) (fun _ hk => hk.2) (.int .i64 ((rd_T30 t596 x82_2).f2))) (fun _ hk => hk.2) (.int .i64 ((rd_T30 t596 x82_2).f3))) (fun _ hk => GS.cj hk)⟩
                  have n2_ : Aside0 (Kd.R k30 30 ((((w32.setCell ⟨gb601, 0, none⟩ (.int .i64 ((rd_T30 t596 x82_2).f0))).setCell ⟨gb601, 1, none⟩ (.int .i64 ((rd_T30 t596 x82_2).f1))).setCell ⟨gb601, 2, none⟩ (.int .i64 ((rd_T30 t596 x82_2).f2))).setCell ⟨gb601, 3, none⟩ (.int .i64 ((rd_T30 t596 x82_2).f3))) w.heap.size (fun k_ => k_ ≠ gb601) (.slice (some ad600) t596.length co27) t596) := ⟨by (with_reducible repeat (first | apply Kd.R_alloc | apply Kd.R_drewN | apply Kd.R_drew)); exact Kd.R_mono (Kd.R_far (p := ⟨gb601, 3, none⟩) (Kd.R_far (p := ⟨gb601, 2, none⟩) (Kd.R_far (p := ⟨gb601, 1, none⟩) (Kd.R_far (p := ⟨gb601, 0, none⟩) (Kd.R_mono HO_80.out (fun k_ hk => (⟨hk, GS.cj hk⟩ : _ ∧ k_ ≠ gb601))) (fun _ hk => hk.2) (.int .i64 ((rd_T30 t596 x82_2).f0))) (fun _ hk => hk.2) (.int .i64 ((rd_T30 t596 x82_2).f1))) (fun _ hk => hk.2) (.int .i64 ((rd_T30 t596 x82_2).f2))) (fun _ hk => hk.2) (.int .i64 ((rd_T30 t596 x82_2).f3))) (fun _ hk => GS.cj hk)⟩
                  have n3_ : Aside0 (((((w32.setCell ⟨gb601, 0, none⟩ (.int .i64 ((rd_T30 t596 x82_2).f0))).setCell ⟨gb601, 1, none⟩ (.int .i64 ((rd_T30 t596 x82_2).f1))).setCell ⟨gb601, 2, none⟩ (.int .i64 ((rd_T30 t596 x82_2).f2))).setCell ⟨gb601, 3, none⟩ (.int .i64 ((rd_T30 t596 x82_2).f3))).heap[gb601]? = some (.cells #[.int .i64 ((rd_T30 t596 x82_2).f0), .int .i64 ((rd_T30 t596 x82_2).f1), .int .i64 ((rd_T30 t596 x82_2).f2), .int .i64 ((rd_T30 t596 x82_2).f3)] 30 (0, 0))) := ⟨GS.bqZ BK601.out⟩
                  have n4_ : Aside0 (Below w.heap.size w ((((w32.setCell ⟨gb601, 0, none⟩ (.int .i64 ((rd_T30 t596 x82_2).f0))).setCell ⟨gb601, 1, none⟩ (.int .i64 ((rd_T30 t596 x82_2).f1))).setCell ⟨gb601, 2, none⟩ (.int .i64 ((rd_T30 t596 x82_2).f2))).setCell ⟨gb601, 3, none⟩ (.int .i64 ((rd_T30 t596 x82_2).f3)))) := ⟨GS.lB HB.out⟩
                  (try clear HO_8)
                  (try clear HO_10)
                  (try clear HO_80)
                  (try clear BK601)
                  (try clear HB)
                  generalize ((((w32.setCell ⟨gb601, 0, none⟩ (.int .i64 ((rd_T30 t596 x82_2).f0))).setCell ⟨gb601, 1, none⟩ (.int .i64 ((rd_T30 t596 x82_2).f1))).setCell ⟨gb601, 2, none⟩ (.int .i64 ((rd_T30 t596 x82_2).f2))).setCell ⟨gb601, 3, none⟩ (.int .i64 ((rd_T30 t596 x82_2).f3))) = w46 at n0_ n1_ n2_ n3_ n4_ ⊢
                  have HO_8 := n0_
                  have HO_10 := n1_
                  have HO_80 := n2_
                  have BK601 := n3_
                  have HB := n4_
                  clear n0_ n1_ n2_ n3_ n4_
                  have n0_ := Aside0.mk (Kd.R_drew HO_8.out)
                  have n1_ := Aside0.mk (Kd.R_drew HO_10.out)
                  have n2_ := Aside0.mk (Kd.R_drew HO_80.out)
                  have n3_ := Aside0.mk (bqD BK601.out)
                  have n4_ := Aside0.mk (lqD HB.out)
                  clear HO_8
                  clear HO_10
                  clear HO_80
                  clear BK601
                  clear HB
                  have HO_8 := n0_
                  have HO_10 := n1_
                  have HO_80 := n2_
                  have BK601 := n3_
                  have HB := n4_
                  clear n0_ n1_ n2_ n3_ n4_
                  obtain ⟨Ao48, co48, eo48⟩ := Kd.R_slice HO_8.out
                  (first | subst eo48 | (injection eo48 with f1_ f2_ f3_; have f4_ := f1_.symm; have f5_ := f3_.symm; clear f1_ f2_ f3_; subst f4_; subst f5_))
                  have p602 : 0 ≤ (x82_2 : Int) := of_decide_eq_true (by first | (with_reducible assumption) | assumption)
                  have q602 : x82_2 < (t587.length : Int) := of_decide_eq_true (by first | (with_reducible assumption) | assumption)
                  obtain ⟨ad602, e602, hx602_0⟩ := Kd.at_int (Kd.R_reads' HO_8.out).2.2 x82_2 p602 q602
                  cases e602
                  replace p602 := eq_true p602
                  replace q602 := eq_true q602
                  refine start_ (n := 33) (S := fun w' => w'.cell? ⟨gb601, 0, none⟩ = some (.int .i64 ((rd_T30 t596 x82_2).f0)) ∧ w'.cell? ⟨gb601, 1, none⟩ = some (.int .i64 ((rd_T30 t596 x82_2).f1)) ∧ w'.cell? ⟨gb601, 2, none⟩ = some (.int .i64 ((rd_T30 t596 x82_2).f2)) ∧ w'.cell? ⟨gb601, 3, none⟩ = some (.int .i64 ((rd_T30 t596 x82_2).f3)) ∧ w'.cell? (ad602.add (x82_2).toNat) = some (.int .i64 (rd t587 x82_2))) (ds := []) #[false, false, false, false, false, false, false, false, false, false, false, false, false, false, false, false, false, false, false, false, false, false, false, false, false, false, false, false, false, false, false, false, false] (by kernel_rfl) rfl rfl ⟨(bqC BK601.out 0).trans rfl, (bqC BK601.out 1).trans rfl, (bqC BK601.out 2).trans rfl, (bqC BK601.out 3).trans rfl, hx602_0⟩ (fun hHeld => ?_); refine with_tabW spilelaw34_SuspectWithout.tab14 spilelaw34_SuspectWithout.bits14 (fun HT_ HW_ => ?_)
                  generalize w46.drew = w47 at HO_8 HO_10 HO_80 BK601 HB hx602_0 hHeld ⊢
                  refine GS.pu 0 (some 87) HT_.out ?_
                  refine GS.pu 2 (some 89) HT_.out ?_
                  refine GS.pu 3 (some 90) HT_.out ?_
                  refine GS.pu 4 (some 91) HT_.out ?_
                  refine GS.tk 1 (some 88) HT_.out HW_.out hHeld ?_
                  refine GS.tk 5 (some 92) HT_.out HW_.out hHeld ?_
                  refine GS.pu 6 (some 93) HT_.out ?_
                  refine GS.pu 7 (some 94) HT_.out ?_
                  refine GS.pu 8 (some 95) HT_.out ?_
                  refine GS.pu 9 (some 96) HT_.out ?_
                  refine GS.pu 10 (some 97) HT_.out ?_
                  refine GS.pu 11 (some 98) HT_.out ?_
                  refine GS.pu 13 (some 100) HT_.out ?_
                  refine GS.tk 12 (some 99) HT_.out HW_.out hHeld ?_
                  refine GS.pu 14 (some 101) HT_.out ?_
                  refine GS.pu 15 (some 102) HT_.out ?_
                  refine GS.pu 16 (some 103) HT_.out ?_
                  refine GS.pu 17 (some 104) HT_.out ?_
                  refine GS.pu 18 (some 105) HT_.out ?_
                  refine GS.pu 19 (some 106) HT_.out ?_
                  refine GS.pu 20 (some 107) HT_.out ?_
                  refine GS.pn 21 (some 108) HT_.out ?_
                  refine GS.pn 22 (some 109) HT_.out ?_
                  refine GS.pn 23 (some 110) HT_.out ?_
                  refine GS.pn 24 (some 111) HT_.out ?_
                  refine GS.pu 25 (some 112) HT_.out ?_
                  refine GS.pu 26 (some 113) HT_.out ?_
                  refine GS.pu 27 (some 114) HT_.out ?_
                  refine GS.pu 28 (some 115) HT_.out ?_
                  refine GS.tk 29 (some 116) HT_.out HW_.out hHeld ?_
                  refine one_ (i := 30) (N := some 117) #[true, true, true, true, true, true, true, true, true, true, true, true, true, true, true, true, true, true, true, true, true, true, true, true, true, true, true, true, true, true, true, false, false] rfl rfl (one_of HT_.out (by kernel_rfl)) (by decide) (fun K hK => ?_)
                  refine goes_ Try.func29 (by kernel_rfl) rfl #[.slice A0 l0.length c0, .agg #[.int .i64 ((rd_T30 t596 x82_2).f0), .int .i64 ((rd_T30 t596 x82_2).f1), .int .i64 ((rd_T30 t596 x82_2).f2), .int .i64 ((rd_T30 t596 x82_2).f3)]] (by rfl) rfl rfl (by (try simp only [List.map_toArray, List.map_cons, List.map_nil]); first | done | rfl | (simp only [List.length_drop, List.length_take]; rfl)) ?_
                  with_reducible refine (api_Finding_29.calls k2 _ _ l0 ((rd_T30 t596 x82_2).f0) ((rd_T30 t596 x82_2).f1) ((rd_T30 t596 x82_2).f2) ((rd_T30 t596 x82_2).f3) t604 _ ?side1 ?side2 A45.out).mono ?_
                  (case side1 => exact GS.rC (Kd.C_below HR0.out HB.out))
                  (case side2 => exact HC0.out)
                  rintro e w49 ⟨rfl, hb⟩
                  have HS4_ := (hb.cell (World.block_lt_of_cell? _ _ (hHeld.2.2.2.2))).trans (hHeld.2.2.2.2)
                  refine ⟨_, rfl, ?_⟩
                  have n0_ := Aside0.mk (Kd.R_below (GS.rR HO_8.out) hb)
                  have n1_ := Aside0.mk (Kd.R_below (GS.rR HO_10.out) hb)
                  have n2_ := Aside0.mk (Kd.R_below (GS.rR HO_80.out) hb)
                  have n3_ := Aside0.mk (bqB (GS.bqX BK601.out) hb)
                  have n4_ := Aside0.mk (lqT (GS.lB HB.out) hb)
                  clear HO_8
                  clear HO_10
                  clear HO_80
                  clear BK601
                  clear HB
                  have HO_8 := n0_
                  have HO_10 := n1_
                  have HO_80 := n2_
                  have BK601 := n3_
                  have HB := n4_
                  clear n0_ n1_ n2_ n3_ n4_
                  (try clear hb)
                  (try clear hb2)
                  (try clear hk)
                  (try clear hi)
                  refine hK.out _ _ ⟨(bqC BK601.out 0).trans rfl, (bqC BK601.out 1).trans rfl, (bqC BK601.out 2).trans rfl, (bqC BK601.out 3).trans rfl, HS4_⟩ (fun hHeld => ?_)
                  clear hK K
                  refine norm_ (a' := ?_) ?_ ?_
                  rotate_left
                  ·show Act.put _ (some 117) _ = _
                   simp only [Act.put, List.setIfInBounds_toArray, List.set_cons_zero, List.set_cons_succ, i64_w, i32_w]
                   rfl
                  refine GS.pu 31 (some 118) HT_.out ?_
                  refine GS.pu 32 (some 119) HT_.out ?_
                  refine done_ (done_of HT_.out (by kernel_rfl)) ?_
                  try go_wp2
                  go_meet
                  case rel => exact ⟨_, (!t604), (by first | rfl | (simp; done) | (simp [*]; done)), H', ⟨by have := HJ12.out; have := HK2.out; first | omega | exact Nat.le_refl _⟩, ⟨by (with_reducible repeat (first | apply Kd.R_alloc | apply Kd.R_drewN | apply Kd.R_drew)); exact HO_8.out⟩, ⟨by (with_reducible repeat (first | apply Kd.R_alloc | apply Kd.R_drewN | apply Kd.R_drew)); exact HO_10.out⟩, ⟨by (with_reducible repeat (first | apply Kd.R_alloc | apply Kd.R_drewN | apply Kd.R_drew)); exact HO_80.out⟩, ⟨GS.bqX BK601.out⟩, ⟨GS.lB HB.out⟩⟩
               ·rw [if_neg c36] at H
                have c36b0 : (a1 == 1) = false := beq_eq_false_iff_ne.mpr c36
                try simp only [beq_self_eq_true, Bool.not_true, Bool.false_or, Bool.true_and] at c36b0
                have c36b1 : (a1 != 1) = true := bne_iff_ne.mpr c36
                by_cases c50 : a1 = 2
                ·rw [if_pos c50] at H
                 have c50b0 : (a1 == 2) = true := beq_iff_eq.mpr c50
                 try simp only [beq_self_eq_true, Bool.not_true, Bool.false_or, Bool.true_and] at c50b0
                 have c50b1 : (a1 != 2) = false := bne_eq_false_iff_eq.mpr c50
                 clear c50
                 by_cases c51 : ((rd_T30 t596 x82_2).f2) = a2
                 ·rw [if_pos c51] at H
                  exact absurd H (by simp)
                 ·rw [if_neg c51] at H
                  have c51b0 : (((rd_T30 t596 x82_2).f2) == a2) = false := beq_eq_false_iff_ne.mpr c51
                  try simp only [beq_self_eq_true, Bool.not_true, Bool.false_or, Bool.true_and] at c51b0
                  have c51b1 : (((rd_T30 t596 x82_2).f2) != a2) = true := bne_iff_ne.mpr c51
                  replace H := Option.bind_eq_some_iff.mp H
                  obtain ⟨t605, A520, H⟩ := H
                  replace H : (spilelaw34_SuspectWithout.j2 k2 l0 a1 a2 t587 t596 t596 (t596.length : Int) x82_2 (!t605)) = some r := H
                  have A52 := Aside0.mk A520
                  clear A520
                  have H' := Aside0.mk H
                  clear H
                  try go_wp2
                  have n0_ : Aside0 (Kd.R (Kd.int .i64) 3 ((((w32.setCell ⟨gb601, 0, none⟩ (.int .i64 ((rd_T30 t596 x82_2).f0))).setCell ⟨gb601, 1, none⟩ (.int .i64 ((rd_T30 t596 x82_2).f1))).setCell ⟨gb601, 2, none⟩ (.int .i64 ((rd_T30 t596 x82_2).f2))).setCell ⟨gb601, 3, none⟩ (.int .i64 ((rd_T30 t596 x82_2).f3))) w.heap.size (fun _ => True) v591 t587) := ⟨by (with_reducible repeat (first | apply Kd.R_alloc | apply Kd.R_drewN | apply Kd.R_drew)); exact Kd.R_mono (Kd.R_far (p := ⟨gb601, 3, none⟩) (Kd.R_far (p := ⟨gb601, 2, none⟩) (Kd.R_far (p := ⟨gb601, 1, none⟩) (Kd.R_far (p := ⟨gb601, 0, none⟩) (Kd.R_types HO_8.out BK601.out (by decide)) (fun _ hk => hk.2) (.int .i64 ((rd_T30 t596 x82_2).f0))) (fun _ hk => hk.2) (.int .i64 ((rd_T30 t596 x82_2).f1))) (fun _ hk => hk.2) (.int .i64 ((rd_T30 t596 x82_2).f2))) (fun _ hk => hk.2) (.int .i64 ((rd_T30 t596 x82_2).f3))) (fun _ hk => trivial)⟩
                  have n1_ : Aside0 (Kd.R k30 30 ((((w32.setCell ⟨gb601, 0, none⟩ (.int .i64 ((rd_T30 t596 x82_2).f0))).setCell ⟨gb601, 1, none⟩ (.int .i64 ((rd_T30 t596 x82_2).f1))).setCell ⟨gb601, 2, none⟩ (.int .i64 ((rd_T30 t596 x82_2).f2))).setCell ⟨gb601, 3, none⟩ (.int .i64 ((rd_T30 t596 x82_2).f3))) w.heap.size (fun k_ => k_ ≠ gb601) (.slice (some ad600) t596.length co27) t596) := ⟨by (with_reducible repeat (first | apply Kd.R_alloc | apply Kd.R_drewN | apply Kd.R_drew)); exact Kd.R_mono (Kd.R_far (p := ⟨gb601, 3, none⟩) (Kd.R_far (p := ⟨gb601, 2, none⟩) (Kd.R_far (p := ⟨gb601, 1, none⟩) (Kd.R_far (p := ⟨gb601, 0, none⟩) (Kd.R_mono HO_10.out (fun k_ hk => (⟨hk, GS.cj hk⟩ : _ ∧ k_ ≠ gb601))) (fun _ hk => hk.2) (.int .i64 ((rd_T30 t596 x82_2).f0))) (fun _ hk => hk.2) (.int .i64 ((rd_T30 t596 x82_2).f1))) (fun _ hk => hk.2) (.int .i64 ((rd_T30 t596 x82_2).f2))) (fun _ hk => hk.2) (.int .i64 ((rd_T30 t596 x82_2).f3))) (fun _ hk => GS.cj hk)⟩
                  have n2_ : Aside0 (Kd.R k30 30 ((((w32.setCell ⟨gb601, 0, none⟩ (.int .i64 ((rd_T30 t596 x82_2).f0))).setCell ⟨gb601, 1, none⟩ (.int .i64 ((rd_T30 t596 x82_2).f1))).setCell ⟨gb601, 2, none⟩ (.int .i64 ((rd_T30 t596 x82_2).f2))).setCell ⟨gb601, 3, none⟩ (.int .i64 ((rd_T30 t596 x82_2).f3))) w.heap.size (fun k_ => k_ ≠ gb601) (.slice (some ad600) t596.length co27) t596) := ⟨by (with_reducible repeat (first | apply Kd.R_alloc | apply Kd.R_drewN | apply Kd.R_drew)); exact Kd.R_mono (Kd.R_far (p := ⟨gb601, 3, none⟩) (Kd.R_far (p := ⟨gb601, 2, none⟩) (Kd.R_far (p := ⟨gb601, 1, none⟩) (Kd.R_far (p := ⟨gb601, 0, none⟩) (Kd.R_mono HO_80.out (fun k_ hk => (⟨hk, GS.cj hk⟩ : _ ∧ k_ ≠ gb601))) (fun _ hk => hk.2) (.int .i64 ((rd_T30 t596 x82_2).f0))) (fun _ hk => hk.2) (.int .i64 ((rd_T30 t596 x82_2).f1))) (fun _ hk => hk.2) (.int .i64 ((rd_T30 t596 x82_2).f2))) (fun _ hk => hk.2) (.int .i64 ((rd_T30 t596 x82_2).f3))) (fun _ hk => GS.cj hk)⟩
                  have n3_ : Aside0 (((((w32.setCell ⟨gb601, 0, none⟩ (.int .i64 ((rd_T30 t596 x82_2).f0))).setCell ⟨gb601, 1, none⟩ (.int .i64 ((rd_T30 t596 x82_2).f1))).setCell ⟨gb601, 2, none⟩ (.int .i64 ((rd_T30 t596 x82_2).f2))).setCell ⟨gb601, 3, none⟩ (.int .i64 ((rd_T30 t596 x82_2).f3))).heap[gb601]? = some (.cells #[.int .i64 ((rd_T30 t596 x82_2).f0), .int .i64 ((rd_T30 t596 x82_2).f1), .int .i64 ((rd_T30 t596 x82_2).f2), .int .i64 ((rd_T30 t596 x82_2).f3)] 30 (0, 0))) := ⟨GS.bqZ BK601.out⟩
                  have n4_ : Aside0 (Below w.heap.size w ((((w32.setCell ⟨gb601, 0, none⟩ (.int .i64 ((rd_T30 t596 x82_2).f0))).setCell ⟨gb601, 1, none⟩ (.int .i64 ((rd_T30 t596 x82_2).f1))).setCell ⟨gb601, 2, none⟩ (.int .i64 ((rd_T30 t596 x82_2).f2))).setCell ⟨gb601, 3, none⟩ (.int .i64 ((rd_T30 t596 x82_2).f3)))) := ⟨GS.lB HB.out⟩
                  (try clear HO_8)
                  (try clear HO_10)
                  (try clear HO_80)
                  (try clear BK601)
                  (try clear HB)
                  generalize ((((w32.setCell ⟨gb601, 0, none⟩ (.int .i64 ((rd_T30 t596 x82_2).f0))).setCell ⟨gb601, 1, none⟩ (.int .i64 ((rd_T30 t596 x82_2).f1))).setCell ⟨gb601, 2, none⟩ (.int .i64 ((rd_T30 t596 x82_2).f2))).setCell ⟨gb601, 3, none⟩ (.int .i64 ((rd_T30 t596 x82_2).f3))) = w53 at n0_ n1_ n2_ n3_ n4_ ⊢
                  have HO_8 := n0_
                  have HO_10 := n1_
                  have HO_80 := n2_
                  have BK601 := n3_
                  have HB := n4_
                  clear n0_ n1_ n2_ n3_ n4_
                  have n0_ := Aside0.mk (Kd.R_drew HO_8.out)
                  have n1_ := Aside0.mk (Kd.R_drew HO_10.out)
                  have n2_ := Aside0.mk (Kd.R_drew HO_80.out)
                  have n3_ := Aside0.mk (bqD BK601.out)
                  have n4_ := Aside0.mk (lqD HB.out)
                  clear HO_8
                  clear HO_10
                  clear HO_80
                  clear BK601
                  clear HB
                  have HO_8 := n0_
                  have HO_10 := n1_
                  have HO_80 := n2_
                  have BK601 := n3_
                  have HB := n4_
                  clear n0_ n1_ n2_ n3_ n4_
                  obtain ⟨Ao55, co55, eo55⟩ := Kd.R_slice HO_8.out
                  (first | subst eo55 | (injection eo55 with f1_ f2_ f3_; have f4_ := f1_.symm; have f5_ := f3_.symm; clear f1_ f2_ f3_; subst f4_; subst f5_))
                  have p602 : 0 ≤ (x82_2 : Int) := of_decide_eq_true (by first | (with_reducible assumption) | assumption)
                  have q602 : x82_2 < (t587.length : Int) := of_decide_eq_true (by first | (with_reducible assumption) | assumption)
                  obtain ⟨ad602, e602, hx602_0⟩ := Kd.at_int (Kd.R_reads' HO_8.out).2.2 x82_2 p602 q602
                  cases e602
                  replace p602 := eq_true p602
                  replace q602 := eq_true q602
                  refine start_ (n := 33) (S := fun w' => w'.cell? ⟨gb601, 0, none⟩ = some (.int .i64 ((rd_T30 t596 x82_2).f0)) ∧ w'.cell? ⟨gb601, 1, none⟩ = some (.int .i64 ((rd_T30 t596 x82_2).f1)) ∧ w'.cell? ⟨gb601, 2, none⟩ = some (.int .i64 ((rd_T30 t596 x82_2).f2)) ∧ w'.cell? ⟨gb601, 3, none⟩ = some (.int .i64 ((rd_T30 t596 x82_2).f3)) ∧ w'.cell? (ad602.add (x82_2).toNat) = some (.int .i64 (rd t587 x82_2))) (ds := []) #[false, false, false, false, false, false, false, false, false, false, false, false, false, false, false, false, false, false, false, false, false, false, false, false, false, false, false, false, false, false, false, false, false] (by kernel_rfl) rfl rfl ⟨(bqC BK601.out 0).trans rfl, (bqC BK601.out 1).trans rfl, (bqC BK601.out 2).trans rfl, (bqC BK601.out 3).trans rfl, hx602_0⟩ (fun hHeld => ?_); refine with_tabW spilelaw34_SuspectWithout.tab14 spilelaw34_SuspectWithout.bits14 (fun HT_ HW_ => ?_)
                  generalize w53.drew = w54 at HO_8 HO_10 HO_80 BK601 HB hx602_0 hHeld ⊢
                  refine GS.pu 0 (some 87) HT_.out ?_
                  refine GS.pu 2 (some 89) HT_.out ?_
                  refine GS.pu 3 (some 90) HT_.out ?_
                  refine GS.pu 4 (some 91) HT_.out ?_
                  refine GS.tk 1 (some 88) HT_.out HW_.out hHeld ?_
                  refine GS.tk 5 (some 92) HT_.out HW_.out hHeld ?_
                  refine GS.pu 6 (some 93) HT_.out ?_
                  refine GS.pu 7 (some 94) HT_.out ?_
                  refine GS.pu 8 (some 95) HT_.out ?_
                  refine GS.pu 9 (some 96) HT_.out ?_
                  refine GS.pu 10 (some 97) HT_.out ?_
                  refine GS.pn 11 (some 98) HT_.out ?_
                  refine GS.pn 12 (some 99) HT_.out ?_
                  refine GS.pn 13 (some 100) HT_.out ?_
                  refine GS.pn 14 (some 101) HT_.out ?_
                  refine GS.pu 15 (some 102) HT_.out ?_
                  refine GS.pu 16 (some 103) HT_.out ?_
                  refine GS.pu 17 (some 104) HT_.out ?_
                  refine GS.pu 18 (some 105) HT_.out ?_
                  refine GS.pu 19 (some 106) HT_.out ?_
                  refine GS.pu 20 (some 107) HT_.out ?_
                  refine GS.pu 21 (some 108) HT_.out ?_
                  refine GS.pu 23 (some 110) HT_.out ?_
                  refine GS.tk 22 (some 109) HT_.out HW_.out hHeld ?_
                  refine GS.pu 24 (some 111) HT_.out ?_
                  refine GS.pu 25 (some 112) HT_.out ?_
                  refine GS.pu 26 (some 113) HT_.out ?_
                  refine GS.pu 27 (some 114) HT_.out ?_
                  refine GS.pu 28 (some 115) HT_.out ?_
                  refine GS.tk 29 (some 116) HT_.out HW_.out hHeld ?_
                  refine one_ (i := 30) (N := some 117) #[true, true, true, true, true, true, true, true, true, true, true, true, true, true, true, true, true, true, true, true, true, true, true, true, true, true, true, true, true, true, true, false, false] rfl rfl (one_of HT_.out (by kernel_rfl)) (by decide) (fun K hK => ?_)
                  refine goes_ Try.func29 (by kernel_rfl) rfl #[.slice A0 l0.length c0, .agg #[.int .i64 ((rd_T30 t596 x82_2).f0), .int .i64 ((rd_T30 t596 x82_2).f1), .int .i64 ((rd_T30 t596 x82_2).f2), .int .i64 ((rd_T30 t596 x82_2).f3)]] (by rfl) rfl rfl (by (try simp only [List.map_toArray, List.map_cons, List.map_nil]); first | done | rfl | (simp only [List.length_drop, List.length_take]; rfl)) ?_
                  with_reducible refine (api_Finding_29.calls k2 _ _ l0 ((rd_T30 t596 x82_2).f0) ((rd_T30 t596 x82_2).f1) ((rd_T30 t596 x82_2).f2) ((rd_T30 t596 x82_2).f3) t605 _ ?side1 ?side2 A52.out).mono ?_
                  (case side1 => exact GS.rC (Kd.C_below HR0.out HB.out))
                  (case side2 => exact HC0.out)
                  rintro e w56 ⟨rfl, hb⟩
                  have HS4_ := (hb.cell (World.block_lt_of_cell? _ _ (hHeld.2.2.2.2))).trans (hHeld.2.2.2.2)
                  refine ⟨_, rfl, ?_⟩
                  have n0_ := Aside0.mk (Kd.R_below (GS.rR HO_8.out) hb)
                  have n1_ := Aside0.mk (Kd.R_below (GS.rR HO_10.out) hb)
                  have n2_ := Aside0.mk (Kd.R_below (GS.rR HO_80.out) hb)
                  have n3_ := Aside0.mk (bqB (GS.bqX BK601.out) hb)
                  have n4_ := Aside0.mk (lqT (GS.lB HB.out) hb)
                  clear HO_8
                  clear HO_10
                  clear HO_80
                  clear BK601
                  clear HB
                  have HO_8 := n0_
                  have HO_10 := n1_
                  have HO_80 := n2_
                  have BK601 := n3_
                  have HB := n4_
                  clear n0_ n1_ n2_ n3_ n4_
                  (try clear hb)
                  (try clear hb2)
                  (try clear hk)
                  (try clear hi)
                  refine hK.out _ _ ⟨(bqC BK601.out 0).trans rfl, (bqC BK601.out 1).trans rfl, (bqC BK601.out 2).trans rfl, (bqC BK601.out 3).trans rfl, HS4_⟩ (fun hHeld => ?_)
                  clear hK K
                  refine norm_ (a' := ?_) ?_ ?_
                  rotate_left
                  ·show Act.put _ (some 117) _ = _
                   simp only [Act.put, List.setIfInBounds_toArray, List.set_cons_zero, List.set_cons_succ, i64_w, i32_w]
                   rfl
                  refine GS.pu 31 (some 118) HT_.out ?_
                  refine GS.pu 32 (some 119) HT_.out ?_
                  refine done_ (done_of HT_.out (by kernel_rfl)) ?_
                  try go_wp2
                  go_meet
                  case rel => exact ⟨_, (!t605), (by first | rfl | (simp; done) | (simp [*]; done)), H', ⟨by have := HJ12.out; have := HK2.out; first | omega | exact Nat.le_refl _⟩, ⟨by (with_reducible repeat (first | apply Kd.R_alloc | apply Kd.R_drewN | apply Kd.R_drew)); exact HO_8.out⟩, ⟨by (with_reducible repeat (first | apply Kd.R_alloc | apply Kd.R_drewN | apply Kd.R_drew)); exact HO_10.out⟩, ⟨by (with_reducible repeat (first | apply Kd.R_alloc | apply Kd.R_drewN | apply Kd.R_drew)); exact HO_80.out⟩, ⟨GS.bqX BK601.out⟩, ⟨GS.lB HB.out⟩⟩
                ·rw [if_neg c50] at H
                 have c50b0 : (a1 == 2) = false := beq_eq_false_iff_ne.mpr c50
                 try simp only [beq_self_eq_true, Bool.not_true, Bool.false_or, Bool.true_and] at c50b0
                 have c50b1 : (a1 != 2) = true := bne_iff_ne.mpr c50
                 replace H := Option.bind_eq_some_iff.mp H
                 obtain ⟨t606, A570, H⟩ := H
                 replace H : (spilelaw34_SuspectWithout.j2 k2 l0 a1 a2 t587 t596 t596 (t596.length : Int) x82_2 (!t606)) = some r := H
                 have A57 := Aside0.mk A570
                 clear A570
                 have H' := Aside0.mk H
                 clear H
                 try go_wp2
                 have n0_ : Aside0 (Kd.R (Kd.int .i64) 3 ((((w32.setCell ⟨gb601, 0, none⟩ (.int .i64 ((rd_T30 t596 x82_2).f0))).setCell ⟨gb601, 1, none⟩ (.int .i64 ((rd_T30 t596 x82_2).f1))).setCell ⟨gb601, 2, none⟩ (.int .i64 ((rd_T30 t596 x82_2).f2))).setCell ⟨gb601, 3, none⟩ (.int .i64 ((rd_T30 t596 x82_2).f3))) w.heap.size (fun _ => True) v591 t587) := ⟨by (with_reducible repeat (first | apply Kd.R_alloc | apply Kd.R_drewN | apply Kd.R_drew)); exact Kd.R_mono (Kd.R_far (p := ⟨gb601, 3, none⟩) (Kd.R_far (p := ⟨gb601, 2, none⟩) (Kd.R_far (p := ⟨gb601, 1, none⟩) (Kd.R_far (p := ⟨gb601, 0, none⟩) (Kd.R_types HO_8.out BK601.out (by decide)) (fun _ hk => hk.2) (.int .i64 ((rd_T30 t596 x82_2).f0))) (fun _ hk => hk.2) (.int .i64 ((rd_T30 t596 x82_2).f1))) (fun _ hk => hk.2) (.int .i64 ((rd_T30 t596 x82_2).f2))) (fun _ hk => hk.2) (.int .i64 ((rd_T30 t596 x82_2).f3))) (fun _ hk => trivial)⟩
                 have n1_ : Aside0 (Kd.R k30 30 ((((w32.setCell ⟨gb601, 0, none⟩ (.int .i64 ((rd_T30 t596 x82_2).f0))).setCell ⟨gb601, 1, none⟩ (.int .i64 ((rd_T30 t596 x82_2).f1))).setCell ⟨gb601, 2, none⟩ (.int .i64 ((rd_T30 t596 x82_2).f2))).setCell ⟨gb601, 3, none⟩ (.int .i64 ((rd_T30 t596 x82_2).f3))) w.heap.size (fun k_ => k_ ≠ gb601) (.slice (some ad600) t596.length co27) t596) := ⟨by (with_reducible repeat (first | apply Kd.R_alloc | apply Kd.R_drewN | apply Kd.R_drew)); exact Kd.R_mono (Kd.R_far (p := ⟨gb601, 3, none⟩) (Kd.R_far (p := ⟨gb601, 2, none⟩) (Kd.R_far (p := ⟨gb601, 1, none⟩) (Kd.R_far (p := ⟨gb601, 0, none⟩) (Kd.R_mono HO_10.out (fun k_ hk => (⟨hk, GS.cj hk⟩ : _ ∧ k_ ≠ gb601))) (fun _ hk => hk.2) (.int .i64 ((rd_T30 t596 x82_2).f0))) (fun _ hk => hk.2) (.int .i64 ((rd_T30 t596 x82_2).f1))) (fun _ hk => hk.2) (.int .i64 ((rd_T30 t596 x82_2).f2))) (fun _ hk => hk.2) (.int .i64 ((rd_T30 t596 x82_2).f3))) (fun _ hk => GS.cj hk)⟩
                 have n2_ : Aside0 (Kd.R k30 30 ((((w32.setCell ⟨gb601, 0, none⟩ (.int .i64 ((rd_T30 t596 x82_2).f0))).setCell ⟨gb601, 1, none⟩ (.int .i64 ((rd_T30 t596 x82_2).f1))).setCell ⟨gb601, 2, none⟩ (.int .i64 ((rd_T30 t596 x82_2).f2))).setCell ⟨gb601, 3, none⟩ (.int .i64 ((rd_T30 t596 x82_2).f3))) w.heap.size (fun k_ => k_ ≠ gb601) (.slice (some ad600) t596.length co27) t596) := ⟨by (with_reducible repeat (first | apply Kd.R_alloc | apply Kd.R_drewN | apply Kd.R_drew)); exact Kd.R_mono (Kd.R_far (p := ⟨gb601, 3, none⟩) (Kd.R_far (p := ⟨gb601, 2, none⟩) (Kd.R_far (p := ⟨gb601, 1, none⟩) (Kd.R_far (p := ⟨gb601, 0, none⟩) (Kd.R_mono HO_80.out (fun k_ hk => (⟨hk, GS.cj hk⟩ : _ ∧ k_ ≠ gb601))) (fun _ hk => hk.2) (.int .i64 ((rd_T30 t596 x82_2).f0))) (fun _ hk => hk.2) (.int .i64 ((rd_T30 t596 x82_2).f1))) (fun _ hk => hk.2) (.int .i64 ((rd_T30 t596 x82_2).f2))) (fun _ hk => hk.2) (.int .i64 ((rd_T30 t596 x82_2).f3))) (fun _ hk => GS.cj hk)⟩
                 have n3_ : Aside0 (((((w32.setCell ⟨gb601, 0, none⟩ (.int .i64 ((rd_T30 t596 x82_2).f0))).setCell ⟨gb601, 1, none⟩ (.int .i64 ((rd_T30 t596 x82_2).f1))).setCell ⟨gb601, 2, none⟩ (.int .i64 ((rd_T30 t596 x82_2).f2))).setCell ⟨gb601, 3, none⟩ (.int .i64 ((rd_T30 t596 x82_2).f3))).heap[gb601]? = some (.cells #[.int .i64 ((rd_T30 t596 x82_2).f0), .int .i64 ((rd_T30 t596 x82_2).f1), .int .i64 ((rd_T30 t596 x82_2).f2), .int .i64 ((rd_T30 t596 x82_2).f3)] 30 (0, 0))) := ⟨GS.bqZ BK601.out⟩
                 have n4_ : Aside0 (Below w.heap.size w ((((w32.setCell ⟨gb601, 0, none⟩ (.int .i64 ((rd_T30 t596 x82_2).f0))).setCell ⟨gb601, 1, none⟩ (.int .i64 ((rd_T30 t596 x82_2).f1))).setCell ⟨gb601, 2, none⟩ (.int .i64 ((rd_T30 t596 x82_2).f2))).setCell ⟨gb601, 3, none⟩ (.int .i64 ((rd_T30 t596 x82_2).f3)))) := ⟨GS.lB HB.out⟩
                 (try clear HO_8)
                 (try clear HO_10)
                 (try clear HO_80)
                 (try clear BK601)
                 (try clear HB)
                 generalize ((((w32.setCell ⟨gb601, 0, none⟩ (.int .i64 ((rd_T30 t596 x82_2).f0))).setCell ⟨gb601, 1, none⟩ (.int .i64 ((rd_T30 t596 x82_2).f1))).setCell ⟨gb601, 2, none⟩ (.int .i64 ((rd_T30 t596 x82_2).f2))).setCell ⟨gb601, 3, none⟩ (.int .i64 ((rd_T30 t596 x82_2).f3))) = w58 at n0_ n1_ n2_ n3_ n4_ ⊢
                 have HO_8 := n0_
                 have HO_10 := n1_
                 have HO_80 := n2_
                 have BK601 := n3_
                 have HB := n4_
                 clear n0_ n1_ n2_ n3_ n4_
                 have n0_ := Aside0.mk (Kd.R_drew HO_8.out)
                 have n1_ := Aside0.mk (Kd.R_drew HO_10.out)
                 have n2_ := Aside0.mk (Kd.R_drew HO_80.out)
                 have n3_ := Aside0.mk (bqD BK601.out)
                 have n4_ := Aside0.mk (lqD HB.out)
                 clear HO_8
                 clear HO_10
                 clear HO_80
                 clear BK601
                 clear HB
                 have HO_8 := n0_
                 have HO_10 := n1_
                 have HO_80 := n2_
                 have BK601 := n3_
                 have HB := n4_
                 clear n0_ n1_ n2_ n3_ n4_
                 obtain ⟨Ao60, co60, eo60⟩ := Kd.R_slice HO_8.out
                 (first | subst eo60 | (injection eo60 with f1_ f2_ f3_; have f4_ := f1_.symm; have f5_ := f3_.symm; clear f1_ f2_ f3_; subst f4_; subst f5_))
                 have p602 : 0 ≤ (x82_2 : Int) := of_decide_eq_true (by first | (with_reducible assumption) | assumption)
                 have q602 : x82_2 < (t587.length : Int) := of_decide_eq_true (by first | (with_reducible assumption) | assumption)
                 obtain ⟨ad602, e602, hx602_0⟩ := Kd.at_int (Kd.R_reads' HO_8.out).2.2 x82_2 p602 q602
                 cases e602
                 replace p602 := eq_true p602
                 replace q602 := eq_true q602
                 refine start_ (n := 33) (S := fun w' => w'.cell? ⟨gb601, 0, none⟩ = some (.int .i64 ((rd_T30 t596 x82_2).f0)) ∧ w'.cell? ⟨gb601, 1, none⟩ = some (.int .i64 ((rd_T30 t596 x82_2).f1)) ∧ w'.cell? ⟨gb601, 2, none⟩ = some (.int .i64 ((rd_T30 t596 x82_2).f2)) ∧ w'.cell? ⟨gb601, 3, none⟩ = some (.int .i64 ((rd_T30 t596 x82_2).f3)) ∧ w'.cell? (ad602.add (x82_2).toNat) = some (.int .i64 (rd t587 x82_2))) (ds := []) #[false, false, false, false, false, false, false, false, false, false, false, false, false, false, false, false, false, false, false, false, false, false, false, false, false, false, false, false, false, false, false, false, false] (by kernel_rfl) rfl rfl ⟨(bqC BK601.out 0).trans rfl, (bqC BK601.out 1).trans rfl, (bqC BK601.out 2).trans rfl, (bqC BK601.out 3).trans rfl, hx602_0⟩ (fun hHeld => ?_); refine with_tabW spilelaw34_SuspectWithout.tab14 spilelaw34_SuspectWithout.bits14 (fun HT_ HW_ => ?_)
                 generalize w58.drew = w59 at HO_8 HO_10 HO_80 BK601 HB hx602_0 hHeld ⊢
                 refine GS.pu 0 (some 87) HT_.out ?_
                 refine GS.pu 2 (some 89) HT_.out ?_
                 refine GS.pu 3 (some 90) HT_.out ?_
                 refine GS.pu 4 (some 91) HT_.out ?_
                 refine GS.tk 1 (some 88) HT_.out HW_.out hHeld ?_
                 refine GS.tk 5 (some 92) HT_.out HW_.out hHeld ?_
                 refine GS.pu 6 (some 93) HT_.out ?_
                 refine GS.pu 7 (some 94) HT_.out ?_
                 refine GS.pu 8 (some 95) HT_.out ?_
                 refine GS.pu 9 (some 96) HT_.out ?_
                 refine GS.pu 10 (some 97) HT_.out ?_
                 refine GS.pn 11 (some 98) HT_.out ?_
                 refine GS.pn 12 (some 99) HT_.out ?_
                 refine GS.pn 13 (some 100) HT_.out ?_
                 refine GS.pn 14 (some 101) HT_.out ?_
                 refine GS.pu 15 (some 102) HT_.out ?_
                 refine GS.pu 16 (some 103) HT_.out ?_
                 refine GS.pu 17 (some 104) HT_.out ?_
                 refine GS.pu 18 (some 105) HT_.out ?_
                 refine GS.pu 19 (some 106) HT_.out ?_
                 refine GS.pu 20 (some 107) HT_.out ?_
                 refine GS.pn 21 (some 108) HT_.out ?_
                 refine GS.pn 22 (some 109) HT_.out ?_
                 refine GS.pn 23 (some 110) HT_.out ?_
                 refine GS.pn 24 (some 111) HT_.out ?_
                 refine GS.pu 25 (some 112) HT_.out ?_
                 refine GS.pu 26 (some 113) HT_.out ?_
                 refine GS.pu 27 (some 114) HT_.out ?_
                 refine GS.pu 28 (some 115) HT_.out ?_
                 refine GS.tk 29 (some 116) HT_.out HW_.out hHeld ?_
                 refine one_ (i := 30) (N := some 117) #[true, true, true, true, true, true, true, true, true, true, true, true, true, true, true, true, true, true, true, true, true, true, true, true, true, true, true, true, true, true, true, false, false] rfl rfl (one_of HT_.out (by kernel_rfl)) (by decide) (fun K hK => ?_)
                 refine goes_ Try.func29 (by kernel_rfl) rfl #[.slice A0 l0.length c0, .agg #[.int .i64 ((rd_T30 t596 x82_2).f0), .int .i64 ((rd_T30 t596 x82_2).f1), .int .i64 ((rd_T30 t596 x82_2).f2), .int .i64 ((rd_T30 t596 x82_2).f3)]] (by rfl) rfl rfl (by (try simp only [List.map_toArray, List.map_cons, List.map_nil]); first | done | rfl | (simp only [List.length_drop, List.length_take]; rfl)) ?_
                 with_reducible refine (api_Finding_29.calls k2 _ _ l0 ((rd_T30 t596 x82_2).f0) ((rd_T30 t596 x82_2).f1) ((rd_T30 t596 x82_2).f2) ((rd_T30 t596 x82_2).f3) t606 _ ?side1 ?side2 A57.out).mono ?_
                 (case side1 => exact GS.rC (Kd.C_below HR0.out HB.out))
                 (case side2 => exact HC0.out)
                 rintro e w61 ⟨rfl, hb⟩
                 have HS4_ := (hb.cell (World.block_lt_of_cell? _ _ (hHeld.2.2.2.2))).trans (hHeld.2.2.2.2)
                 refine ⟨_, rfl, ?_⟩
                 have n0_ := Aside0.mk (Kd.R_below (GS.rR HO_8.out) hb)
                 have n1_ := Aside0.mk (Kd.R_below (GS.rR HO_10.out) hb)
                 have n2_ := Aside0.mk (Kd.R_below (GS.rR HO_80.out) hb)
                 have n3_ := Aside0.mk (bqB (GS.bqX BK601.out) hb)
                 have n4_ := Aside0.mk (lqT (GS.lB HB.out) hb)
                 clear HO_8
                 clear HO_10
                 clear HO_80
                 clear BK601
                 clear HB
                 have HO_8 := n0_
                 have HO_10 := n1_
                 have HO_80 := n2_
                 have BK601 := n3_
                 have HB := n4_
                 clear n0_ n1_ n2_ n3_ n4_
                 (try clear hb)
                 (try clear hb2)
                 (try clear hk)
                 (try clear hi)
                 refine hK.out _ _ ⟨(bqC BK601.out 0).trans rfl, (bqC BK601.out 1).trans rfl, (bqC BK601.out 2).trans rfl, (bqC BK601.out 3).trans rfl, HS4_⟩ (fun hHeld => ?_)
                 clear hK K
                 refine norm_ (a' := ?_) ?_ ?_
                 rotate_left
                 ·show Act.put _ (some 117) _ = _
                  simp only [Act.put, List.setIfInBounds_toArray, List.set_cons_zero, List.set_cons_succ, i64_w, i32_w]
                  rfl
                 refine GS.pu 31 (some 118) HT_.out ?_
                 refine GS.pu 32 (some 119) HT_.out ?_
                 refine done_ (done_of HT_.out (by kernel_rfl)) ?_
                 try go_wp2
                 go_meet
                 case rel => exact ⟨_, (!t606), (by first | rfl | (simp; done) | (simp [*]; done)), H', ⟨by have := HJ12.out; have := HK2.out; first | omega | exact Nat.le_refl _⟩, ⟨by (with_reducible repeat (first | apply Kd.R_alloc | apply Kd.R_drewN | apply Kd.R_drew)); exact HO_8.out⟩, ⟨by (with_reducible repeat (first | apply Kd.R_alloc | apply Kd.R_drewN | apply Kd.R_drew)); exact HO_10.out⟩, ⟨by (with_reducible repeat (first | apply Kd.R_alloc | apply Kd.R_drewN | apply Kd.R_drew)); exact HO_80.out⟩, ⟨GS.bqX BK601.out⟩, ⟨GS.lB HB.out⟩⟩
              ·rw [if_neg c35] at H
               exact absurd H (by simp)
             ·rw [if_neg c34] at H
              exact absurd H (by simp)
            case rest =>
             clear HC31
             try clear c2
             try clear p2
             try clear c3
             try clear c5
             try clear p6
             try clear q6
             try clear hx6
             try clear c29
             try clear c34
             try clear c35
             try clear c50
             try clear c50b0
             try clear c50b1
             try clear p60
             try clear q60
             try clear hx60
             try clear hx602_0
             try clear p602
             try clear q602
             obtain ⟨kq, x119_30, rfl, HA, HJ30, HO_8, HO_10, HO_80, BK601, HB⟩ := hcut
             cases kq with
             | zero => exact absurd HA.out (by simp [spilelaw34_SuspectWithout.j2])
             | succ kj30 =>
              have H := HA.out
              clear HA
              simp only [spilelaw34_SuspectWithout.j2] at H
              by_cases c62 : x119_30 = true
              ·subst c62
               have H1 : (none) = some r := by rw [if_pos rfl] at H; exact H
               clear H
               have H := H1
               clear H1
               exact absurd H (by simp)
              ·replace c62 := Bool.eq_false_iff.mpr c62
               subst c62
               have H1 : (spilelaw34_SuspectWithout.l0 kj30 l0 a1 a2 t587 t596 t596 (t596.length : Int) (wrap64 (x82_2 + 1))) = some r := by rw [if_neg (show ¬ (false = true) by decide)] at H; exact H
               clear H
               have H := H1
               clear H1
               have H' := Aside0.mk H
               clear H
               go_wp2
               go_roundg kj30
               case measure => have := HJ12.out; have := HK2.out; have := HJ30.out; omega
               case rel => exact ⟨(wrap64 (x82_2 + 1)), (by first | rfl | (simp; done) | (simp [*]; done)), H', ⟨by have := HJ12.out; have := HK2.out; have := HJ30.out; omega⟩, ⟨by (with_reducible repeat (first | apply Kd.R_alloc | apply Kd.R_drewN | apply Kd.R_drew)); exact HO_8.out⟩, ⟨by (with_reducible repeat (first | apply Kd.R_alloc | apply Kd.R_drewN | apply Kd.R_drew)); exact Kd.R_mono HO_10.out (fun _ hk => trivial)⟩, ⟨by (with_reducible repeat (first | apply Kd.R_alloc | apply Kd.R_drewN | apply Kd.R_drew)); exact Kd.R_mono HO_80.out (fun _ hk => trivial)⟩, ⟨GS.lB HB.out⟩⟩
           ·rw [if_neg c30] at H
            exact absurd H (by simp)
          ·rw [if_neg c29] at H
           exact absurd H (by simp)
         ·rw [if_neg c28] at H
          have c28b0 : decide (x82_2 < (t596.length : Int)) = false := decide_eq_false c28
          clear c28
          replace H := Option.bind_eq_some_iff.mp H
          obtain ⟨t607, A630, H⟩ := H
          replace H : ((suspect_Without.f t607 a1 a2).bind fun bt610 => ((suspect_Check.f k2 t596).bind fun bt614 => (if bt610.2 = 7 then (some (bt614.2 == 0)) else (none)))) = some r := H
          have A63 := Aside0.mk A630
          clear A630
          replace H := Option.bind_eq_some_iff.mp H
          obtain ⟨⟨t610, t611⟩, A640, H⟩ := H
          replace H : ((suspect_Check.f k2 t596).bind fun bt614 => (if t611 = 7 then (some (bt614.2 == 0)) else (none))) = some r := H
          have A64 := Aside0.mk A640
          clear A640
          replace H := Option.bind_eq_some_iff.mp H
          obtain ⟨⟨t614, t615⟩, A650, H⟩ := H
          replace H : (if t611 = 7 then (some (t615 == 0)) else (none)) = some r := H
          have A65 := Aside0.mk A650
          clear A650
          by_cases c66 : t611 = 7
          ·rw [if_pos c66] at H
           have c66b0 : (t611 == 7) = true := beq_iff_eq.mpr c66
           try simp only [beq_self_eq_true, Bool.not_true, Bool.false_or, Bool.true_and] at c66b0
           have c66b1 : (t611 != 7) = false := bne_eq_false_iff_eq.mpr c66
           clear c66
           obtain rfl := Option.some.inj H
           go_wp2_with (first | ((with_reducible refine gqC (f := 13) rfl ?_); refine GS.gL (some 123) Try.func13 #[.slice Ao27 t596.length co27] ?_; (with_reducible refine (clone13.calls _ _ t596 t607 _ ?side1 ?side2 A63.out).mono ?_); (case side1 => repeat (first | exact (Kd.R_reads' HO_10.out).2.2 | (with_reducible refine Kd.C_alloc ?_ _) | (with_reducible refine Kd.C_drewN ?_ _) | (with_reducible refine Kd.C_drew ?_))); (case side2 => exact (Kd.R_reads' HO_10.out).2.1); rintro e w67 ⟨v608, rfl, ho0, hb⟩; refine ⟨_, rfl, ?_⟩; have n0_ := Aside0.mk (Kd.R_below (GS.rR HO_8.out) hb); have n1_ := Aside0.mk (Kd.R_elder' (GS.rR HO_10.out) (Kd.R_base ho0) hb); have n2_ := Aside0.mk (Kd.R_elder' (GS.rR HO_80.out) (Kd.R_base ho0) hb); have n3_ := Aside0.mk (Kd.R_lower (Kd.R_new' (Kd.R_new' ho0 (Kd.R_lt (GS.rR HO_10.out))) (Kd.R_lt (GS.rR HO_80.out))) (lqZ (GS.lB HB.out))); have n4_ := Aside0.mk (lqT (GS.lB HB.out) hb); clear HO_8; clear HO_10; clear HO_80; clear HB; have HO_8 := n0_; have HO_10 := n1_; have HO_80 := n2_; have HO609 := n3_; have HB := n4_; clear n0_ n1_ n2_ n3_ n4_; (try clear hb); (try clear hb2); (try clear hk); (try clear hi); (try clear ho0); obtain ⟨Ao68, co68, eo68⟩ := Kd.R_slice HO609.out; subst eo68) | ((with_reducible refine gqC (f := 17) rfl ?_); refine GS.gL (some 126) Try.func17 #[.slice Ao68 t607.length co68, .int .i64 a1, .int .i64 a2] ?_; (with_reducible refine (suspect_Without.calls _ _ t607 a1 a2 t610 t611 _ ?side1 ?side2 A64.out).mono ?_); (case side1 => repeat (first | exact (Kd.R_reads' HO609.out).2.2 | (with_reducible refine Kd.C_alloc ?_ _) | (with_reducible refine Kd.C_drewN ?_ _) | (with_reducible refine Kd.C_drew ?_))); (case side2 => exact (Kd.R_reads' HO609.out).2.1); rintro e w69 ⟨v612, rfl, ho0, hb⟩; refine ⟨_, rfl, ?_⟩; have n0_ := Aside0.mk (Kd.R_below (GS.rR HO_8.out) hb); have n1_ := Aside0.mk (Kd.R_elder' (GS.rR HO_10.out) (Kd.R_base ho0) hb); have n2_ := Aside0.mk (Kd.R_elder' (GS.rR HO_80.out) (Kd.R_base ho0) hb); have n3_ := Aside0.mk (Kd.R_elder' (GS.rR HO609.out) (Kd.R_base ho0) hb); have n4_ := Aside0.mk (Kd.R_lower (Kd.R_new' (Kd.R_new' (Kd.R_new' ho0 (Kd.R_lt (GS.rR HO_10.out))) (Kd.R_lt (GS.rR HO_80.out))) (Kd.R_lt (GS.rR HO609.out))) (lqZ (GS.lB HB.out))); have n5_ := Aside0.mk (lqT (GS.lB HB.out) hb); clear HO_8; clear HO_10; clear HO_80; clear HO609; clear HB; have HO_8 := n0_; have HO_10 := n1_; have HO_80 := n2_; have HO609 := n3_; have HO613 := n4_; have HB := n5_; clear n0_ n1_ n2_ n3_ n4_ n5_; (try clear hb); (try clear hb2); (try clear hk); (try clear hi); (try clear ho0)) | ((with_reducible refine gqC (f := 12) rfl ?_); refine GS.gL (some 131) Try.func12 #[.slice Ao27 t596.length co27] ?_; (with_reducible refine (suspect_Check.calls k2 _ _ t596 t614 t615 _ ?side1 ?side2 A65.out).mono ?_); (case side1 => repeat (first | exact (Kd.R_reads' HO_10.out).2.2 | (with_reducible refine Kd.C_alloc ?_ _) | (with_reducible refine Kd.C_drewN ?_ _) | (with_reducible refine Kd.C_drew ?_))); (case side2 => exact (Kd.R_reads' HO_10.out).2.1); rintro e w70 ⟨rfl, hb⟩; refine ⟨_, rfl, ?_⟩; have n0_ := Aside0.mk (Kd.R_below (GS.rR HO_8.out) hb); have n1_ := Aside0.mk (Kd.R_below (GS.rR HO_10.out) hb); have n2_ := Aside0.mk (Kd.R_below (GS.rR HO_80.out) hb); have n3_ := Aside0.mk (Kd.R_below (GS.rR HO609.out) hb); have n4_ := Aside0.mk (Kd.R_below (GS.rR HO613.out) hb); have n5_ := Aside0.mk (lqT (GS.lB HB.out) hb); clear HO_8; clear HO_10; clear HO_80; clear HO609; clear HO613; clear HB; have HO_8 := n0_; have HO_10 := n1_; have HO_80 := n2_; have HO609 := n3_; have HO613 := n4_; have HB := n5_; clear n0_ n1_ n2_ n3_ n4_ n5_; (try clear hb); (try clear hb2); (try clear hk); (try clear hi)))
           go_ret
           exact ⟨by first | rfl | (simp [errW_none, errW_some] <;> rfl) | (simp [*, errW_none, errW_some] <;> rfl), GS.lB HB.out⟩
          ·rw [if_neg c66] at H
           exact absurd H (by simp)
   ·rw [if_neg c12] at H
    have c12b0 : (t588 == 0) = false := beq_eq_false_iff_ne.mpr c12
    try simp only [beq_self_eq_true, Bool.not_true, Bool.false_or, Bool.true_and] at c12b0
    have c12b1 : (t588 != 0) = true := bne_iff_ne.mpr c12
    by_cases c71 : t588 = t597
    ·rw [if_pos c71] at H
     have c71b0 : (t588 == t597) = true := beq_iff_eq.mpr c71
     try simp only [beq_self_eq_true, Bool.not_true, Bool.false_or, Bool.true_and] at c71b0
     have c71b1 : (t588 != t597) = false := bne_eq_false_iff_eq.mpr c71
     clear c71
     by_cases c72 : (t586.length : Int) = 0
     ·rw [if_pos c72] at H
      have c72b0 : ((t586.length : Int) == 0) = true := beq_iff_eq.mpr c72
      try simp only [beq_self_eq_true, Bool.not_true, Bool.false_or, Bool.true_and] at c72b0
      have c72b1 : ((t586.length : Int) != 0) = false := bne_eq_false_iff_eq.mpr c72
      clear c72
      by_cases c73 : (t587.length : Int) = 0
      ·rw [if_pos c73] at H
       have c73b0 : ((t587.length : Int) == 0) = true := beq_iff_eq.mpr c73
       try simp only [beq_self_eq_true, Bool.not_true, Bool.false_or, Bool.true_and] at c73b0
       have c73b1 : ((t587.length : Int) != 0) = false := bne_eq_false_iff_eq.mpr c73
       clear c73
       obtain rfl := Option.some.inj H
       go_enter Try.func8, Try.ntmps8
       go_wp2_with (first | ((with_reducible refine gqC (f := 10) rfl ?_); refine GS.gL (some 18) Try.func10 #[] ?_; (with_reducible refine (spilelaw34_awake.calls k  true _ A4.out).mono ?_); rintro e w74 ⟨rfl, hb⟩; refine ⟨_, rfl, ?_⟩; have n0_ := Aside0.mk (lqT (GS.lB HB.out) hb); clear HB; have HB := n0_; clear n0_; (try clear hb); (try clear hb2); (try clear hk); (try clear hi)) | ((with_reducible refine gqC (f := 13) rfl ?_); refine GS.gL (some 25) Try.func13 #[.slice A0 l0.length c0] ?_; (with_reducible refine (clone13.calls _ _ l0 t583 _ ?side1 ?side2 A8.out).mono ?_); (case side1 => exact GS.rC (Kd.C_below HR0.out HB.out)); (case side2 => exact HC0.out); rintro e w75 ⟨v584, rfl, ho0, hb⟩; refine ⟨_, rfl, ?_⟩; have n0_ := Aside0.mk (Kd.R_lower ho0 (lqZ (GS.lB HB.out))); have n1_ := Aside0.mk (lqT (GS.lB HB.out) hb); clear HB; have HO585 := n0_; have HB := n1_; clear n0_ n1_; (try clear hb); (try clear hb2); (try clear hk); (try clear hi); (try clear ho0); obtain ⟨Ao76, co76, eo76⟩ := Kd.R_slice HO585.out; subst eo76) | ((with_reducible refine gqC (f := 15) rfl ?_); refine GS.gL (some 28) Try.func15 #[.slice Ao76 t583.length co76, .int .i64 a1, .int .i64 a2] ?_; (with_reducible refine (suspect_Of.calls _ _ t583 a1 a2 t586 t587 t588 _ ?side1 ?side2 A9.out).mono ?_); (case side1 => repeat (first | exact (Kd.R_reads' HO585.out).2.2 | (with_reducible refine Kd.C_alloc ?_ _) | (with_reducible refine Kd.C_drewN ?_ _) | (with_reducible refine Kd.C_drew ?_))); (case side2 => exact (Kd.R_reads' HO585.out).2.1); rintro e w77 ⟨v589, v591, rfl, ho0, ho1, hb⟩; refine ⟨_, rfl, ?_⟩; have n0_ := Aside0.mk (Kd.R_below (GS.rR HO585.out) hb); have n1_ := Aside0.mk (Kd.R_lower ho0 (lqZ (GS.lB HB.out))); have n2_ := Aside0.mk (Kd.R_lower ho1 (lqZ (GS.lB HB.out))); have n3_ := Aside0.mk (lqT (GS.lB HB.out) hb); clear HO585; clear HB; have HO585 := n0_; have HO590 := n1_; have HO592 := n2_; have HB := n3_; clear n0_ n1_ n2_ n3_; (try clear hb); (try clear hb2); (try clear hk); (try clear hi); (try clear ho0); (try clear ho1)) | ((with_reducible refine gqC (f := 13) rfl ?_); refine GS.gL (some 34) Try.func13 #[.slice A0 l0.length c0] ?_; (with_reducible refine (clone13.calls _ _ l0 t593 _ ?side1 ?side2 A10.out).mono ?_); (case side1 => exact GS.rC (Kd.C_below HR0.out HB.out)); (case side2 => exact HC0.out); rintro e w78 ⟨v594, rfl, ho0, hb⟩; refine ⟨_, rfl, ?_⟩; have n0_ := Aside0.mk (Kd.R_elder' (GS.rR HO585.out) (Kd.R_base ho0) hb); have n1_ := Aside0.mk (Kd.R_below (GS.rR HO590.out) hb); have n2_ := Aside0.mk (Kd.R_below (GS.rR HO592.out) hb); have n3_ := Aside0.mk (Kd.R_lower (Kd.R_new' ho0 (Kd.R_lt (GS.rR HO585.out))) (lqZ (GS.lB HB.out))); have n4_ := Aside0.mk (lqT (GS.lB HB.out) hb); clear HO585; clear HO590; clear HO592; clear HB; have HO585 := n0_; have HO590 := n1_; have HO592 := n2_; have HO595 := n3_; have HB := n4_; clear n0_ n1_ n2_ n3_ n4_; (try clear hb); (try clear hb2); (try clear hk); (try clear hi); (try clear ho0); obtain ⟨Ao79, co79, eo79⟩ := Kd.R_slice HO595.out; subst eo79) | ((with_reducible refine gqC (f := 17) rfl ?_); refine GS.gL (some 37) Try.func17 #[.slice Ao79 t593.length co79, .int .i64 a1, .int .i64 a2] ?_; (with_reducible refine (suspect_Without.calls _ _ t593 a1 a2 t596 t597 _ ?side1 ?side2 A11.out).mono ?_); (case side1 => repeat (first | exact (Kd.R_reads' HO595.out).2.2 | (with_reducible refine Kd.C_alloc ?_ _) | (with_reducible refine Kd.C_drewN ?_ _) | (with_reducible refine Kd.C_drew ?_))); (case side2 => exact (Kd.R_reads' HO595.out).2.1); rintro e w80 ⟨v598, rfl, ho0, hb⟩; refine ⟨_, rfl, ?_⟩; have n0_ := Aside0.mk (Kd.R_elder' (GS.rR HO585.out) (Kd.R_base ho0) hb); have n1_ := Aside0.mk (Kd.R_below (GS.rR HO590.out) hb); have n2_ := Aside0.mk (Kd.R_below (GS.rR HO592.out) hb); have n3_ := Aside0.mk (Kd.R_elder' (GS.rR HO595.out) (Kd.R_base ho0) hb); have n4_ := Aside0.mk (Kd.R_lower (Kd.R_new' (Kd.R_new' ho0 (Kd.R_lt (GS.rR HO585.out))) (Kd.R_lt (GS.rR HO595.out))) (lqZ (GS.lB HB.out))); have n5_ := Aside0.mk (lqT (GS.lB HB.out) hb); clear HO585; clear HO590; clear HO592; clear HO595; clear HB; have HO585 := n0_; have HO590 := n1_; have HO592 := n2_; have HO595 := n3_; have HO599 := n4_; have HB := n5_; clear n0_ n1_ n2_ n3_ n4_ n5_; (try clear hb); (try clear hb2); (try clear hk); (try clear hi); (try clear ho0); obtain ⟨Ao81, co81, eo81⟩ := Kd.R_slice HO590.out; subst eo81; obtain ⟨Ao82, co82, eo82⟩ := Kd.R_slice HO592.out; subst eo82; obtain ⟨Ao83, co83, eo83⟩ := Kd.R_slice HO599.out; subst eo83))
       go_ret
       exact ⟨by first | rfl | (simp [errW_none, errW_some] <;> rfl) | (simp [*, errW_none, errW_some] <;> rfl), GS.lB HB.out⟩
      ·rw [if_neg c73] at H
       exact absurd H (by simp)
     ·rw [if_neg c72] at H
      exact absurd H (by simp)
    ·rw [if_neg c71] at H
     exact absurd H (by simp)
 ·replace c5 := Bool.eq_false_iff.mpr c5
  subst c5
  have H1 : (none) = some r := by rw [if_neg (show ¬ (false = true) by decide)] at H; exact H
  clear H
  have H := H1
  clear H1
  exact absurd H (by simp)

end Go.Proofs.Ytfhmjleimampeaa.K
