-- PRINTED by print.py (a twelfth state) out of the translation. Not trusted: Lean checks it.
import Derived.Test.YtfhmjleimampeaaK0
import Derived.Test.YtfhmjleimampeaaGPu
import Derived.Test.YtfhmjleimampeaaGSym
import Derived.Test.YtfhmjleimampeaaGShort
import Derived.Test.YtfhmjleimampeaaK2
import Derived.Test.YtfhmjleimampeaaK3
import Derived.Test.YtfhmjleimampeaaK12
import Derived.Test.YtfhmjleimampeaaGCloneF
import Derived.Test.YtfhmjleimampeaaGSuspects
import Derived.Test.YtfhmjleimampeaaGBig
namespace Go.Proofs.Ytfhmjleimampeaa.K
open Go.RowKit Go.Proofs.YtfhmjleimampeaaW.PrintWords Go.Proofs.YtfhmjleimampeaaW.PrintLast Go.Proofs.YtfhmjleimampeaaW.PrintMore
attribute [local go_sem] max2_int min2_int max_two min_two max_three min_three max_four min_four   -- for this text's walks alone
set_option linter.unusedVariables false
set_option linter.unusedSimpArgs false

/-! ### spilelaw34_SuspectRenamed: function 7 -/
mutual
def spilelaw34_SuspectRenamed.j0 : Nat → List (S30) → Int → Int → Int → Bool → Option (Bool)
 | 0, _, _, _, _, _ => none
 | k + 1, x0, x1, x2, x3, x48 => if x48 = true then (some true) else ((clone13.f x0).bind fun t594 => (spilelaw34_SuspectRenamed.l0 k x0 x1 x2 x3 t594 (t594.length : Int) 0))
def spilelaw34_SuspectRenamed.l0 : Nat → List (S30) → Int → Int → Int → List (S30) → Int → Int → Option (Bool)
 | 0, _, _, _, _, _, _, _ => none
 | k + 1, x0, x1, x2, x3, x11, x52, x53 => if x53 < x52 then (if 0 ≤ x53 then (if x53 < (x11.length : Int) then ((some (x11.set (x53 : Int).toNat (⟨(rd_T30 x11 x53).f0, wrap64 (((rd_T30 x11 x53).f1) + (wrap64 (x3))), (rd_T30 x11 x53).f2, (rd_T30 x11 x53).f3⟩ : S30) : List (S30))).bind fun y599 => (spilelaw34_SuspectRenamed.l0 k x0 x1 x2 x3 (y599.set (x53 : Int).toNat (⟨(rd_T30 y599 x53).f0, (rd_T30 y599 x53).f1, wrap64 (((rd_T30 x11 x53).f2) + (wrap64 (x3))), (rd_T30 y599 x53).f3⟩ : S30)) x52 (wrap64 (x53 + 1)))) else (none)) else (none)) else ((clone13.f x0).bind fun t601 => ((suspect_Test.f t601 x1 x2).bind fun bt604 => ((clone13.f x11).bind fun t607 => ((suspect_Test.f t607 x1 (wrap64 (x2 + (wrap64 (x3))))).bind fun bt610 => ((clone13.f x0).bind fun t613 => ((suspect_Suspects.f t613 x1 1 4).bind fun bt616 => ((clone13.f x11).bind fun t620 => ((suspect_Suspects.f t620 x1 1 4).bind fun bt623 => (if bt604.1 = bt610.1 then (if bt604.2.1 = bt610.2.1 then (if bt604.2.2 = bt610.2.2 then (if bt616.2 = bt623.2 then (spilelaw34_SuspectRenamed.j2 k x3 bt616.1 bt623.1 ((bt616.1.length : Int) != (bt623.1.length : Int))) else (none)) else (none)) else (none)) else (none))))))))))
def spilelaw34_SuspectRenamed.j2 : Nat → Int → List Int → List Int → Bool → Option (Bool)
 | 0, _, _, _, _ => none
 | k + 1, x3, x19, x21, x140 => if x140 = true then (none) else (spilelaw34_SuspectRenamed.l1 k x3 x19 x21 (x19.length : Int) 0)
def spilelaw34_SuspectRenamed.l1 : Nat → Int → List Int → List Int → Int → Int → Option (Bool)
 | 0, _, _, _, _, _ => none
 | k + 1, x3, x19, x21, x142, x143 => if x143 < x142 then (if 0 ≤ x143 then (if x143 < (x19.length : Int) then (if x143 < (x21.length : Int) then (if (wrap64 ((rd x19 x143) + (wrap64 (x3)))) = (rd x21 x143) then (spilelaw34_SuspectRenamed.l1 k x3 x19 x21 x142 (wrap64 (x143 + 1))) else (none)) else (none)) else (none)) else (none)) else (some true)
end
def spilelaw34_SuspectRenamed.f (k : Nat) (l0 : List (S30)) (a1 : Int) (a2 : Int) (a3 : Int) : Option (Bool) := (spilelaw34_awake.f k).bind fun t587 => (if t587 = true then (if (l0.length : Int) > 14 then (some true) else ((clone13.f l0).bind fun t588 => ((suspect_Check.f k t588).bind fun bt591 => (if bt591.2 = 0 then (if a2 < 1 then (spilelaw34_SuspectRenamed.j0 k l0 a1 a2 a3 true) else (if a2 > 1048576 then (spilelaw34_SuspectRenamed.j0 k l0 a1 a2 a3 true) else ((big27.f l0).bind fun t593 => (spilelaw34_SuspectRenamed.j0 k l0 a1 a2 a3 t593)))) else (spilelaw34_SuspectRenamed.j0 k l0 a1 a2 a3 true))))) else (none))
theorem spilelaw34_SuspectRenamed.mono_l : ∀ k, (∀ y0 y1 y2 y3 y4, LeO (spilelaw34_SuspectRenamed.j0 k y0 y1 y2 y3 y4) (spilelaw34_SuspectRenamed.j0 (k + 1) y0 y1 y2 y3 y4)) ∧ (∀ y0 y1 y2 y3 y4 y5 y6, LeO (spilelaw34_SuspectRenamed.l0 k y0 y1 y2 y3 y4 y5 y6) (spilelaw34_SuspectRenamed.l0 (k + 1) y0 y1 y2 y3 y4 y5 y6)) ∧ (∀ y0 y1 y2 y3, LeO (spilelaw34_SuspectRenamed.j2 k y0 y1 y2 y3) (spilelaw34_SuspectRenamed.j2 (k + 1) y0 y1 y2 y3)) ∧ (∀ y0 y1 y2 y3 y4, LeO (spilelaw34_SuspectRenamed.l1 k y0 y1 y2 y3 y4) (spilelaw34_SuspectRenamed.l1 (k + 1) y0 y1 y2 y3 y4))
 | 0 => ⟨fun _ _ _ _ _ r h => by simp [spilelaw34_SuspectRenamed.j0] at h, fun _ _ _ _ _ _ _ r h => by simp [spilelaw34_SuspectRenamed.l0] at h, fun _ _ _ _ r h => by simp [spilelaw34_SuspectRenamed.j2] at h, fun _ _ _ _ _ r h => by simp [spilelaw34_SuspectRenamed.l1] at h⟩
 | k + 1 => by
  obtain ⟨ih0, ih1, ih2, ih3⟩ := spilelaw34_SuspectRenamed.mono_l k
  refine ⟨?_, ?_, ?_, ?_⟩
  ·intro y0 y1 y2 y3 y4
   unfold spilelaw34_SuspectRenamed.j0
   repeat' first
   | (with_reducible exact ih0 _ _ _ _ _)
   | (with_reducible exact ih1 _ _ _ _ _ _ _)
   | (with_reducible exact ih2 _ _ _ _)
   | (with_reducible exact ih3 _ _ _ _ _)
   | (with_reducible exact spilelaw34_awake.mono _)
   | (with_reducible exact suspect_Check.mono _ _)
   | (with_reducible exact LeO.refl _)
   | (with_reducible exact LeO.none _)
   | (with_reducible refine LeO.ite ?_ ?_)
   | (with_reducible refine LeO.bind ?_ (fun _ => ?_))
   | exact ih0 _ _ _ _ _
   | exact ih1 _ _ _ _ _ _ _
   | exact ih2 _ _ _ _
   | exact ih3 _ _ _ _ _
   | exact spilelaw34_awake.mono _
   | exact suspect_Check.mono _ _
   | exact LeO.none _
   | refine LeO.ite ?_ ?_
   | refine LeO.bind ?_ (fun _ => ?_)
  ·intro y0 y1 y2 y3 y4 y5 y6
   unfold spilelaw34_SuspectRenamed.l0
   repeat' first
   | (with_reducible exact ih0 _ _ _ _ _)
   | (with_reducible exact ih1 _ _ _ _ _ _ _)
   | (with_reducible exact ih2 _ _ _ _)
   | (with_reducible exact ih3 _ _ _ _ _)
   | (with_reducible exact spilelaw34_awake.mono _)
   | (with_reducible exact suspect_Check.mono _ _)
   | (with_reducible exact LeO.refl _)
   | (with_reducible exact LeO.none _)
   | (with_reducible refine LeO.ite ?_ ?_)
   | (with_reducible refine LeO.bind ?_ (fun _ => ?_))
   | exact ih0 _ _ _ _ _
   | exact ih1 _ _ _ _ _ _ _
   | exact ih2 _ _ _ _
   | exact ih3 _ _ _ _ _
   | exact spilelaw34_awake.mono _
   | exact suspect_Check.mono _ _
   | exact LeO.none _
   | refine LeO.ite ?_ ?_
   | refine LeO.bind ?_ (fun _ => ?_)
  ·intro y0 y1 y2 y3
   unfold spilelaw34_SuspectRenamed.j2
   repeat' first
   | (with_reducible exact ih0 _ _ _ _ _)
   | (with_reducible exact ih1 _ _ _ _ _ _ _)
   | (with_reducible exact ih2 _ _ _ _)
   | (with_reducible exact ih3 _ _ _ _ _)
   | (with_reducible exact spilelaw34_awake.mono _)
   | (with_reducible exact suspect_Check.mono _ _)
   | (with_reducible exact LeO.refl _)
   | (with_reducible exact LeO.none _)
   | (with_reducible refine LeO.ite ?_ ?_)
   | (with_reducible refine LeO.bind ?_ (fun _ => ?_))
   | exact ih0 _ _ _ _ _
   | exact ih1 _ _ _ _ _ _ _
   | exact ih2 _ _ _ _
   | exact ih3 _ _ _ _ _
   | exact spilelaw34_awake.mono _
   | exact suspect_Check.mono _ _
   | exact LeO.none _
   | refine LeO.ite ?_ ?_
   | refine LeO.bind ?_ (fun _ => ?_)
  ·intro y0 y1 y2 y3 y4
   unfold spilelaw34_SuspectRenamed.l1
   repeat' first
   | (with_reducible exact ih0 _ _ _ _ _)
   | (with_reducible exact ih1 _ _ _ _ _ _ _)
   | (with_reducible exact ih2 _ _ _ _)
   | (with_reducible exact ih3 _ _ _ _ _)
   | (with_reducible exact spilelaw34_awake.mono _)
   | (with_reducible exact suspect_Check.mono _ _)
   | (with_reducible exact LeO.refl _)
   | (with_reducible exact LeO.none _)
   | (with_reducible refine LeO.ite ?_ ?_)
   | (with_reducible refine LeO.bind ?_ (fun _ => ?_))
   | exact ih0 _ _ _ _ _
   | exact ih1 _ _ _ _ _ _ _
   | exact ih2 _ _ _ _
   | exact ih3 _ _ _ _ _
   | exact spilelaw34_awake.mono _
   | exact suspect_Check.mono _ _
   | exact LeO.none _
   | refine LeO.ite ?_ ?_
   | refine LeO.bind ?_ (fun _ => ?_)
theorem spilelaw34_SuspectRenamed.mono : ∀ a0 a1 a2 a3 k, LeO (spilelaw34_SuspectRenamed.f k a0 a1 a2 a3) (spilelaw34_SuspectRenamed.f (k + 1) a0 a1 a2 a3) := by
 intro a0 a1 a2 a3 k
 obtain ⟨ih0, ih1, ih2, ih3⟩ := spilelaw34_SuspectRenamed.mono_l k
 unfold spilelaw34_SuspectRenamed.f
 repeat' first
   | (with_reducible exact ih0 _ _ _ _ _)
   | (with_reducible exact ih1 _ _ _ _ _ _ _)
   | (with_reducible exact ih2 _ _ _ _)
   | (with_reducible exact ih3 _ _ _ _ _)
   | (with_reducible exact spilelaw34_awake.mono _)
   | (with_reducible exact suspect_Check.mono _ _)
   | (with_reducible exact LeO.refl _)
   | (with_reducible exact LeO.none _)
   | (with_reducible refine LeO.ite ?_ ?_)
   | (with_reducible refine LeO.bind ?_ (fun _ => ?_))
   | exact ih0 _ _ _ _ _
   | exact ih1 _ _ _ _ _ _ _
   | exact ih2 _ _ _ _
   | exact ih3 _ _ _ _ _
   | exact spilelaw34_awake.mono _
   | exact suspect_Check.mono _ _
   | exact LeO.none _
   | refine LeO.ite ?_ ?_
   | refine LeO.bind ?_ (fun _ => ?_)
def spilelaw34_SuspectRenamed.T12 : Bool × List (List Nat × List Nat) := (true, [([], []), ([], []), ([], []), ([], []), ([], []), ([], []), ([4, 5], [4, 5]), ([6], [6]), ([7], [7]), ([], []), ([9], [9]), ([8, 10], [8, 10]), ([], []), ([], []), ([12, 13], [12, 13]), ([14], [14]), ([15], [15]), ([], []), ([17], [17]), ([16, 18], [16, 18]), ([0, 1, 0, 1, 4, 5, 6, 7, 8, 9, 10, 11, 16], [0, 1]), ([20, 0, 1, 4, 5, 6, 7, 8, 9, 10, 11, 16], [20]), ([21, 11, 0, 1, 4, 5, 6, 7, 8, 9, 10, 11, 16], [11, 21]), ([2, 3, 0, 1, 2, 3, 4, 5, 6, 7, 8, 9, 10, 11, 12, 13, 14, 15, 16, 17, 18, 19, 20, 21, 22], [2, 3]), ([23, 0, 1, 2, 3, 4, 5, 6, 7, 8, 9, 10, 11, 12, 13, 14, 15, 16, 17, 18, 19, 20, 21, 22], [23]), ([24, 19, 22, 0, 1, 2, 3, 4, 5, 6, 7, 8, 9, 10, 11, 12, 13, 14, 15, 16, 17, 18, 19, 20, 21, 22], [19, 24])])
def spilelaw34_SuspectRenamed.B12 : List Nat := [0, 0, 0, 0, 0, 0, 48, 112, 240, 0, 512, 2032, 0, 0, 12288, 28672, 61440, 0, 131072, 520192, 131059, 1179635, 3276787, 8388607, 16777215, 33554431]
theorem spilelaw34_SuspectRenamed.tab12 : rtab .any (opsOf Try.f7 12) = spilelaw34_SuspectRenamed.T12 := by kernel_rfl
theorem spilelaw34_SuspectRenamed.bits12 : waitsOk spilelaw34_SuspectRenamed.T12.2 spilelaw34_SuspectRenamed.B12 = true := by kernel_rfl
def spilelaw34_SuspectRenamed.T23 : Bool × List (List Nat × List Nat) := (true, [([], []), ([], []), ([0, 1], [0, 1]), ([2], [2]), ([], []), ([4], [4]), ([3, 5], [3, 5]), ([], []), ([], []), ([7, 8], [7, 8]), ([9], [9]), ([6, 10], [6, 10])])
def spilelaw34_SuspectRenamed.B23 : List Nat := [0, 0, 3, 7, 0, 16, 63, 0, 0, 384, 896, 2047]
theorem spilelaw34_SuspectRenamed.tab23 : rtab .any (opsOf Try.f7 23) = spilelaw34_SuspectRenamed.T23 := by kernel_rfl
theorem spilelaw34_SuspectRenamed.bits23 : waitsOk spilelaw34_SuspectRenamed.T23.2 spilelaw34_SuspectRenamed.B23 = true := by kernel_rfl
set_option maxHeartbeats 8000000 in
set_option maxRecDepth 100000 in
theorem spilelaw34_SuspectRenamed.calls (k : Nat) (A0 : Option Addr) (c0 : Nat) (l0 : List (S30)) (a1 : Int) (a2 : Int) (a3 : Int) (r : Bool) (w : World) (hr0 : Kd.C k30 w A0 l0.length l0) (hc0 : l0.length ≤ c0) (h : spilelaw34_SuspectRenamed.f k l0 a1 a2 a3 = some r) :
  Calls Try.prog 7 #[.slice A0 l0.length c0, .int .i64 a1, .int .i64 a2, .int .u16 a3] w fun e w' => e = .returned (.bool r) ∧ Below w.heap.size w w' := by
 have HR0 := Aside0.mk hr0
 have HC0 := Aside0.mk hc0
 clear hr0 hc0
 have HB := Aside0.mk (Below.refl w.heap.size w)
 have H : ((spilelaw34_awake.f k).bind fun t587 => (if t587 = true then (if (l0.length : Int) > 14 then (some true) else ((clone13.f l0).bind fun t588 => ((suspect_Check.f k t588).bind fun bt591 => (if bt591.2 = 0 then (if a2 < 1 then (spilelaw34_SuspectRenamed.j0 k l0 a1 a2 a3 true) else (if a2 > 1048576 then (spilelaw34_SuspectRenamed.j0 k l0 a1 a2 a3 true) else ((big27.f l0).bind fun t593 => (spilelaw34_SuspectRenamed.j0 k l0 a1 a2 a3 t593)))) else (spilelaw34_SuspectRenamed.j0 k l0 a1 a2 a3 true))))) else (none))) = some r := h
 clear h
 replace H := Option.bind_eq_some_iff.mp H
 obtain ⟨t587, A50, H⟩ := H
 replace H : (if t587 = true then (if (l0.length : Int) > 14 then (some true) else ((clone13.f l0).bind fun t588 => ((suspect_Check.f k t588).bind fun bt591 => (if bt591.2 = 0 then (if a2 < 1 then (spilelaw34_SuspectRenamed.j0 k l0 a1 a2 a3 true) else (if a2 > 1048576 then (spilelaw34_SuspectRenamed.j0 k l0 a1 a2 a3 true) else ((big27.f l0).bind fun t593 => (spilelaw34_SuspectRenamed.j0 k l0 a1 a2 a3 t593)))) else (spilelaw34_SuspectRenamed.j0 k l0 a1 a2 a3 true))))) else (none)) = some r := H
 have A5 := Aside0.mk A50
 clear A50
 by_cases c6 : t587 = true
 ·subst c6
  have H1 : (if (l0.length : Int) > 14 then (some true) else ((clone13.f l0).bind fun t588 => ((suspect_Check.f k t588).bind fun bt591 => (if bt591.2 = 0 then (if a2 < 1 then (spilelaw34_SuspectRenamed.j0 k l0 a1 a2 a3 true) else (if a2 > 1048576 then (spilelaw34_SuspectRenamed.j0 k l0 a1 a2 a3 true) else ((big27.f l0).bind fun t593 => (spilelaw34_SuspectRenamed.j0 k l0 a1 a2 a3 t593)))) else (spilelaw34_SuspectRenamed.j0 k l0 a1 a2 a3 true))))) = some r := by rw [if_pos rfl] at H; exact H
  clear H
  have H := H1
  clear H1
  by_cases c7 : (l0.length : Int) > 14
  ·rw [if_pos c7] at H
   have c7b0 : decide (14 < (l0.length : Int)) = true := decide_eq_true c7
   have c7b1 : decide (14 < l0.length) = true := decide_eq_true (by omega)
   clear c7
   obtain rfl := Option.some.inj H
   go_enter Try.func7, Try.ntmps7
   go_wp2_with (first | ((with_reducible refine gqC (f := 10) rfl ?_); refine GS.gL (some 24) Try.func10 #[] ?_; (with_reducible refine (spilelaw34_awake.calls k  true _ A5.out).mono ?_); rintro e w8 ⟨rfl, hb⟩; refine ⟨_, rfl, ?_⟩; have n0_ := Aside0.mk (lqT (GS.lB HB.out) hb); clear HB; have HB := n0_; clear n0_; (try clear hb); (try clear hb2); (try clear hk); (try clear hi)))
   go_ret
   exact ⟨by first | rfl | (simp [errW_none, errW_some] <;> rfl) | (simp [*, errW_none, errW_some] <;> rfl), GS.lB HB.out⟩
  ·rw [if_neg c7] at H
   have c7b0 : decide (14 < (l0.length : Int)) = false := decide_eq_false c7
   have c7b1 : decide (14 < l0.length) = false := decide_eq_false (by omega)
   clear c7
   replace H := Option.bind_eq_some_iff.mp H
   obtain ⟨t588, A90, H⟩ := H
   replace H : ((suspect_Check.f k t588).bind fun bt591 => (if bt591.2 = 0 then (if a2 < 1 then (spilelaw34_SuspectRenamed.j0 k l0 a1 a2 a3 true) else (if a2 > 1048576 then (spilelaw34_SuspectRenamed.j0 k l0 a1 a2 a3 true) else ((big27.f l0).bind fun t593 => (spilelaw34_SuspectRenamed.j0 k l0 a1 a2 a3 t593)))) else (spilelaw34_SuspectRenamed.j0 k l0 a1 a2 a3 true))) = some r := H
   have A9 := Aside0.mk A90
   clear A90
   replace H := Option.bind_eq_some_iff.mp H
   obtain ⟨⟨t591, t592⟩, A100, H⟩ := H
   replace H : (if t592 = 0 then (if a2 < 1 then (spilelaw34_SuspectRenamed.j0 k l0 a1 a2 a3 true) else (if a2 > 1048576 then (spilelaw34_SuspectRenamed.j0 k l0 a1 a2 a3 true) else ((big27.f l0).bind fun t593 => (spilelaw34_SuspectRenamed.j0 k l0 a1 a2 a3 t593)))) else (spilelaw34_SuspectRenamed.j0 k l0 a1 a2 a3 true)) = some r := H
   have A10 := Aside0.mk A100
   clear A100
   have HC11 := Aside0.mk H
   clear H
   go_enter Try.func7, Try.ntmps7
   go_upto_region 6 with (first | ((with_reducible refine gqC (f := 10) rfl ?_); refine GS.gL (some 24) Try.func10 #[] ?_; (with_reducible refine (spilelaw34_awake.calls k  true _ A5.out).mono ?_); rintro e w12 ⟨rfl, hb⟩; refine ⟨_, rfl, ?_⟩; have n0_ := Aside0.mk (lqT (GS.lB HB.out) hb); clear HB; have HB := n0_; clear n0_; (try clear hb); (try clear hb2); (try clear hk); (try clear hi)) | ((with_reducible refine gqC (f := 13) rfl ?_); refine GS.gL (some 31) Try.func13 #[.slice A0 l0.length c0] ?_; (with_reducible refine (clone13.calls _ _ l0 t588 _ ?side1 ?side2 A9.out).mono ?_); (case side1 => exact GS.rC (Kd.C_below HR0.out HB.out)); (case side2 => exact HC0.out); rintro e w13 ⟨v589, rfl, ho0, hb⟩; refine ⟨_, rfl, ?_⟩; have n0_ := Aside0.mk (Kd.R_lower ho0 (lqZ (GS.lB HB.out))); have n1_ := Aside0.mk (lqT (GS.lB HB.out) hb); clear HB; have HO590 := n0_; have HB := n1_; clear n0_ n1_; (try clear hb); (try clear hb2); (try clear hk); (try clear hi); (try clear ho0); obtain ⟨Ao14, co14, eo14⟩ := Kd.R_slice HO590.out; subst eo14) | ((with_reducible refine gqC (f := 12) rfl ?_); refine GS.gL (some 32) Try.func12 #[.slice Ao14 t588.length co14] ?_; (with_reducible refine (suspect_Check.calls k _ _ t588 t591 t592 _ ?side1 ?side2 A10.out).mono ?_); (case side1 => repeat (first | exact (Kd.R_reads' HO590.out).2.2 | (with_reducible refine Kd.C_alloc ?_ _) | (with_reducible refine Kd.C_drewN ?_ _) | (with_reducible refine Kd.C_drew ?_))); (case side2 => exact (Kd.R_reads' HO590.out).2.1); rintro e w15 ⟨rfl, hb⟩; refine ⟨_, rfl, ?_⟩; have n0_ := Aside0.mk (Kd.R_below (GS.rR HO590.out) hb); have n1_ := Aside0.mk (lqT (GS.lB HB.out) hb); clear HO590; clear HB; have HO590 := n0_; have HB := n1_; clear n0_ n1_; (try clear hb); (try clear hb2); (try clear hk); (try clear hi)))
   (try simp only [Act.put, List.setIfInBounds_toArray, List.set_cons_zero, List.set_cons_succ])
   go_cut [48] (fun v48 wc => ∃ (kq : Nat) (x48_10 : Bool), v48 = .bool x48_10 ∧ Aside0 (spilelaw34_SuspectRenamed.j0 kq l0 a1 a2 a3 x48_10 = some r) ∧ Aside0 (kq ≤ k) ∧ Aside0 (Below w.heap.size w wc))
   case first =>
    have H := HC11.out
    clear HC11
    by_cases c16 : t592 = 0
    ·rw [if_pos c16] at H
     have c16b0 : (t592 == 0) = true := beq_iff_eq.mpr c16
     try simp only [beq_self_eq_true, Bool.not_true, Bool.false_or, Bool.true_and] at c16b0
     have c16b1 : (t592 != 0) = false := bne_eq_false_iff_eq.mpr c16
     clear c16
     (first | rw [c16b0] | (simp only [i64_w, i32_w]; rw [c16b0]) | skip)
     by_cases c17 : a2 < 1
     ·rw [if_pos c17] at H
      have c17b0 : decide (a2 < 1) = true := decide_eq_true c17
      clear c17
      have H' := Aside0.mk H
      clear H
      go_wp2
      go_meet
      case rel => exact ⟨_, (true), (by first | rfl | (simp; done) | (simp [*]; done)), H', ⟨by first | omega | exact Nat.le_refl _⟩, ⟨GS.lB HB.out⟩⟩
     ·rw [if_neg c17] at H
      have c17b0 : decide (a2 < 1) = false := decide_eq_false c17
      clear c17
      by_cases c18 : a2 > 1048576
      ·rw [if_pos c18] at H
       have c18b0 : decide (1048576 < a2) = true := decide_eq_true c18
       clear c18
       have H' := Aside0.mk H
       clear H
       go_wp2
       go_meet
       case rel => exact ⟨_, (true), (by first | rfl | (simp; done) | (simp [*]; done)), H', ⟨by first | omega | exact Nat.le_refl _⟩, ⟨GS.lB HB.out⟩⟩
      ·rw [if_neg c18] at H
       have c18b0 : decide (1048576 < a2) = false := decide_eq_false c18
       clear c18
       replace H := Option.bind_eq_some_iff.mp H
       obtain ⟨t593, A190, H⟩ := H
       replace H : (spilelaw34_SuspectRenamed.j0 k l0 a1 a2 a3 t593) = some r := H
       have A19 := Aside0.mk A190
       clear A190
       have H' := Aside0.mk H
       clear H
       go_wp2_with (first | (go_at_call 27; (with_reducible refine (big27.calls _ _ l0 t593 _ ?side1 ?side2 A19.out).mono ?_); (case side1 => exact GS.rC (Kd.C_below HR0.out HB.out)); (case side2 => exact HC0.out); rintro e w20 ⟨rfl, hb⟩; have n0_ := Aside0.mk (Kd.R_below (GS.rR HO590.out) hb); have n1_ := Aside0.mk (lqT (GS.lB HB.out) hb); clear HO590; clear HB; have HO590 := n0_; have HB := n1_; clear n0_ n1_; (try clear hb); (try clear hb2); (try clear hk); (try clear hi)))
       go_meet
       case rel => exact ⟨_, (t593), (by first | rfl | (simp; done) | (simp [*]; done)), H', ⟨by first | omega | exact Nat.le_refl _⟩, ⟨GS.lB HB.out⟩⟩
    ·rw [if_neg c16] at H
     have c16b0 : (t592 == 0) = false := beq_eq_false_iff_ne.mpr c16
     try simp only [beq_self_eq_true, Bool.not_true, Bool.false_or, Bool.true_and] at c16b0
     have c16b1 : (t592 != 0) = true := bne_iff_ne.mpr c16
     (first | rw [c16b0] | (simp only [i64_w, i32_w]; rw [c16b0]) | skip)
     have H' := Aside0.mk H
     clear H
     go_wp2
     go_meet
     case rel => exact ⟨_, (true), (by first | rfl | (simp; done) | (simp [*]; done)), H', ⟨by first | omega | exact Nat.le_refl _⟩, ⟨GS.lB HB.out⟩⟩
   case rest =>
    clear HC11
    try clear c1
    try clear p2
    try clear c6
    try clear c7
    try clear c7b0
    try clear c7b1
    try clear c10
    try clear c12
    try clear c13
    try clear c16
    try clear c16b0
    try clear c16b1
    try clear c17
    try clear c17b0
    try clear c18
    try clear c18b0
    obtain ⟨kq, x48_10, rfl, HA, HJ10, HB⟩ := hcut
    cases kq with
    | zero => exact absurd HA.out (by simp [spilelaw34_SuspectRenamed.j0])
    | succ kj10 =>
     have H := HA.out
     clear HA
     simp only [spilelaw34_SuspectRenamed.j0] at H
     by_cases c21 : x48_10 = true
     ·subst c21
      have H1 : (some true) = some r := by rw [if_pos rfl] at H; exact H
      clear H
      have H := H1
      clear H1
      obtain rfl := Option.some.inj H
      go_wp2
      go_ret
      exact ⟨by first | rfl | (simp [errW_none, errW_some] <;> rfl) | (simp [*, errW_none, errW_some] <;> rfl), GS.lB HB.out⟩
     ·replace c21 := Bool.eq_false_iff.mpr c21
      subst c21
      have H1 : ((clone13.f l0).bind fun t594 => (spilelaw34_SuspectRenamed.l0 kj10 l0 a1 a2 a3 t594 (t594.length : Int) 0)) = some r := by rw [if_neg (show ¬ (false = true) by decide)] at H; exact H
      clear H
      have H := H1
      clear H1
      replace H := Option.bind_eq_some_iff.mp H
      obtain ⟨t594, A220, H⟩ := H
      replace H : (spilelaw34_SuspectRenamed.l0 kj10 l0 a1 a2 a3 t594 (t594.length : Int) 0) = some r := H
      have A22 := Aside0.mk A220
      clear A220
      have H' := Aside0.mk H
      clear H
      go_wp2_with (first | ((with_reducible refine gqC (f := 13) rfl ?_); refine GS.gL (some 50) Try.func13 #[.slice A0 l0.length c0] ?_; (with_reducible refine (clone13.calls _ _ l0 t594 _ ?side1 ?side2 A22.out).mono ?_); (case side1 => exact GS.rC (Kd.C_below HR0.out HB.out)); (case side2 => exact HC0.out); rintro e w23 ⟨v595, rfl, ho0, hb⟩; refine ⟨_, rfl, ?_⟩; have n0_ := Aside0.mk (Kd.R_lower ho0 (lqZ (GS.lB HB.out))); have n1_ := Aside0.mk (lqT (GS.lB HB.out) hb); clear HB; have HO596 := n0_; have HB := n1_; clear n0_ n1_; (try clear hb); (try clear hb2); (try clear hk); (try clear hi); (try clear ho0); obtain ⟨Ao24, co24, eo24⟩ := Kd.R_slice HO596.out; subst eo24))
      go_loopg [53] kj10 (fun kq v53 w' => ∃ (x11_2 : List (S30)) (x53_2 : Int), v53 = .int .i64 x53_2 ∧ Aside0 (spilelaw34_SuspectRenamed.l0 kq l0 a1 a2 a3 x11_2 (t594.length : Int) x53_2 = some r) ∧ Aside0 (kq ≤ kj10) ∧ Aside0 (Kd.R k30 30 w' w.heap.size (fun _ => True) (.slice Ao24 t594.length co24) x11_2) ∧ Aside0 (Below w.heap.size w w'))
      case atStart => exact ⟨(t594), (0), (by first | rfl | (simp; done) | (simp [*]; done)), H', ⟨Nat.le_refl _⟩, ⟨by (with_reducible repeat (first | apply Kd.R_alloc | apply Kd.R_drewN | apply Kd.R_drew)); exact HO596.out⟩, ⟨GS.lB HB.out⟩⟩
      case round =>
       clear H'
       try clear c1
       try clear c2
       try clear p2
       try clear c6
       try clear c7
       try clear c7b0
       try clear c7b1
       try clear c10
       try clear c12
       try clear c13
       try clear c16
       try clear c16b0
       try clear c16b1
       try clear c17
       try clear c17b0
       try clear c18
       try clear c18b0
       try clear c21
       try clear p2
       obtain ⟨x11_2, x53_2, rfl, HA, HK2, HO_11, HB⟩ := hrel
       have hl11_2 := (Kd.R_reads' HO_11.out).1
       rw [hl11_2] at HO_11
       (try simp only [hl11_2])
       cases gk with
       | zero => exact absurd HA.out (by simp [spilelaw34_SuspectRenamed.l0])
       | succ k2 =>
        have H := HA.out
        clear HA
        simp only [spilelaw34_SuspectRenamed.l0] at H
        by_cases c25 : x53_2 < (t594.length : Int)
        ·rw [if_pos c25] at H
         have c25b0 : decide (x53_2 < (t594.length : Int)) = true := decide_eq_true c25
         have c25b9 : decide (x53_2 < (x11_2.length : Int)) = true := by rw [← hl11_2]; exact c25b0
         clear c25
         by_cases c26 : 0 ≤ x53_2
         ·rw [if_pos c26] at H
          have c26b0 : decide (0 ≤ x53_2) = true := decide_eq_true c26
          clear c26
          by_cases c27 : x53_2 < (x11_2.length : Int)
          ·rw [if_pos c27] at H
           have c27b0 : decide (x53_2 < (x11_2.length : Int)) = true := decide_eq_true c27
           clear c27
           obtain ⟨y599, hy599⟩ : ∃ y_ : List (S30), y_ = (x11_2.set (x53_2 : Int).toNat (⟨(rd_T30 x11_2 x53_2).f0, wrap64 (((rd_T30 x11_2 x53_2).f1) + (wrap64 (a3))), (rd_T30 x11_2 x53_2).f2, (rd_T30 x11_2 x53_2).f3⟩ : S30)) := ⟨_, rfl⟩
           replace H : (spilelaw34_SuspectRenamed.l0 k2 l0 a1 a2 a3 (y599.set (x53_2 : Int).toNat (⟨(rd_T30 y599 x53_2).f0, (rd_T30 y599 x53_2).f1, wrap64 (((rd_T30 x11_2 x53_2).f2) + (wrap64 (a3))), (rd_T30 y599 x53_2).f3⟩ : S30)) (t594.length : Int) (wrap64 (x53_2 + 1))) = some r := by first | (rw [hy599]; with_reducible exact H) | (have H2_ := (Option.bind_some _ _).symm.trans H; rw [hy599]; with_reducible exact H2_) | (have H2_ := (Option.bind_some _ _).symm.trans H; with_reducible exact H2_) | with_reducible exact H | (rw [hy599]; exact H) | exact H
           have Ny599 := Aside0.mk hy599
           clear hy599
           obtain ⟨y600, hy600⟩ : ∃ y_ : List (S30), y_ = (y599.set (x53_2 : Int).toNat (⟨(rd_T30 y599 x53_2).f0, (rd_T30 y599 x53_2).f1, wrap64 (((rd_T30 x11_2 x53_2).f2) + (wrap64 (a3))), (rd_T30 y599 x53_2).f3⟩ : S30)) := ⟨_, rfl⟩
           replace H : (spilelaw34_SuspectRenamed.l0 k2 l0 a1 a2 a3 y600 (t594.length : Int) (wrap64 (x53_2 + 1))) = some r := by first | (rw [hy600]; with_reducible exact H) | (have H2_ := (Option.bind_some _ _).symm.trans H; rw [hy600]; with_reducible exact H2_) | (have H2_ := (Option.bind_some _ _).symm.trans H; with_reducible exact H2_) | with_reducible exact H | (rw [hy600]; exact H) | exact H
           have Ny600 := Aside0.mk hy600
           clear hy600
           have H' := Aside0.mk H
           clear H
           try go_wp2
           have n0_ := Aside0.mk (Kd.R_drew HO_11.out)
           have n1_ := Aside0.mk (lqD HB.out)
           clear HO_11
           clear HB
           have HO_11 := n0_
           have HB := n1_
           clear n0_ n1_
           have p597 : 0 ≤ (x53_2 : Int) := of_decide_eq_true (by first | (with_reducible assumption) | assumption)
           have q597 : x53_2 < (x11_2.length : Int) := of_decide_eq_true (by first | (with_reducible assumption) | assumption)
           obtain ⟨ad597, e597, hx597_0, hx597_1, hx597_2, hx597_3⟩ := at_T30 (Kd.R_reads' HO_11.out).2.2 x53_2 p597 q597
           cases e597
           replace p597 := eq_true p597
           replace q597 := eq_true q597
           have p598 : 0 ≤ (x53_2 : Int) := of_decide_eq_true (by first | (with_reducible assumption) | assumption)
           have q598 : x53_2 < (x11_2.length : Int) := of_decide_eq_true (by first | (with_reducible assumption) | assumption)
           obtain ⟨ad598, e598, hx598_0, hx598_1, hx598_2, hx598_3⟩ := at_T30 (Kd.R_reads' HO_11.out).2.2 x53_2 p598 q598
           obtain rfl : ad597 = ad598 := (by injection e598)
           replace p598 := eq_true p598
           replace q598 := eq_true q598
           have p28 : 0 ≤ (x53_2 : Int) := of_decide_eq_true (by first | (with_reducible assumption) | assumption)
           have q28 : (x53_2 : Int) < ((x11_2.length : Int) : Int) := of_decide_eq_true (by first | (with_reducible assumption) | assumption)
           obtain ⟨go28, co28, eo28, gb28, gl28, cl28, HG28⟩ := Kd.R_form HO_11.out (by omega)
           (first | cases eo28 | (injection eo28 with ea_ en_ ec_; (first | subst ea_ | (injection ea_ with ea_; subst ea_)); subst ec_; clear en_))
           have GB28 := Aside0.mk gb28
           have GG28 := Aside0.mk HG28
           clear gb28 gl28 HG28
           (first | simp only [add_plain] at hx597_0 | skip)
           (first | simp only [add_plain] at hx597_1 | skip)
           (first | simp only [add_plain] at hx597_2 | skip)
           (first | simp only [add_plain] at hx597_3 | skip)
           (first | simp only [add_plain] at hx598_0 | skip)
           (first | simp only [add_plain] at hx598_1 | skip)
           (first | simp only [add_plain] at hx598_2 | skip)
           (first | simp only [add_plain] at hx598_3 | skip)
           obtain ⟨ce28, hcl28, hM28, hcc28, hfr28⟩ := Kd.R_elem HO_11.out z30 (x53_2 : Int) p28 q28
           obtain rfl := k30_openM hM28
           have hx28_0 : World.cell? _ ⟨go28, (x53_2 : Int).toNat * 4, none⟩ = some (.int .i64 ((rd_T30 x11_2 x53_2).f0)) := hcc28 0 _ rfl
           have hx28_1 : World.cell? _ ⟨go28, (x53_2 : Int).toNat * 4 + 1, none⟩ = some (.int .i64 ((rd_T30 x11_2 x53_2).f1)) := hcc28 1 _ rfl
           have hx28_2 : World.cell? _ ⟨go28, (x53_2 : Int).toNat * 4 + 2, none⟩ = some (.int .i64 ((rd_T30 x11_2 x53_2).f2)) := hcc28 2 _ rfl
           have hx28_3 : World.cell? _ ⟨go28, (x53_2 : Int).toNat * 4 + 3, none⟩ = some (.int .i64 ((rd_T30 x11_2 x53_2).f3)) := hcc28 3 _ rfl
           have hf28_0 : World.frozen? _ ⟨go28, (x53_2 : Int).toNat * 4, none⟩ = false := hfr28 0
           have hf28_1 : World.frozen? _ ⟨go28, (x53_2 : Int).toNat * 4 + 1, none⟩ = false := hfr28 1
           have hf28_2 : World.frozen? _ ⟨go28, (x53_2 : Int).toNat * 4 + 2, none⟩ = false := hfr28 2
           have hf28_3 : World.frozen? _ ⟨go28, (x53_2 : Int).toNat * 4 + 3, none⟩ = false := hfr28 3
           clear hcl28 hcc28 hfr28 hM28
           replace p28 := eq_true p28
           replace q28 := eq_true q28
           obtain ⟨ce31, hcl31, hM31, hcc31, hfr31⟩ := Kd.R_elem HO_11.out z30 (x53_2 : Int) (of_decide_eq_true (by first | (with_reducible assumption) | assumption)) (by have h_ : (x53_2 : Int) < ((x11_2.length : Int) : Int) := of_decide_eq_true (by first | (with_reducible assumption) | assumption); first | exact h_ | (have e_ := (Kd.R_reads' HO_11.out).1; omega) | simpa using h_)
           obtain rfl := k30_openM hM31
           have HP31 := (Kd.R_seg HO_11.out (x53_2 : Int) (of_decide_eq_true (by first | (with_reducible assumption) | assumption)) (by have h_ : (x53_2 : Int) < ((x11_2.length : Int) : Int) := of_decide_eq_true (by first | (with_reducible assumption) | assumption); first | exact h_ | (have e_ := (Kd.R_reads' HO_11.out).1; omega) | simpa using h_) (seg := [.int .i64 (wrap64 (((rd_T30 x11_2 x53_2).f1) + (wrap64 (a3))))]) (j := 1) hcl31 hcc31 (show 2 ≤ 4 from by decide) (x' := (⟨(rd_T30 x11_2 x53_2).f0, wrap64 (((rd_T30 x11_2 x53_2).f1) + (wrap64 (a3))), (rd_T30 x11_2 x53_2).f2, (rd_T30 x11_2 x53_2).f3⟩ : S30)) (k30_mkM _ _ _ (⟨(rd_T30 x11_2 x53_2).f0, wrap64 (((rd_T30 x11_2 x53_2).f1) + (wrap64 (a3))), (rd_T30 x11_2 x53_2).f2, (rd_T30 x11_2 x53_2).f3⟩ : S30) ) (fun _ hk => hk)).1
           rw [← Ny599.out] at HP31
           have HQ31 := Aside0.mk HP31
           clear hcl31 hcc31 hfr31 hM31 HP31
           have p29 : 0 ≤ (x53_2 : Int) := of_decide_eq_true (by first | (with_reducible assumption) | assumption)
           have q29 : (x53_2 : Int) < ((x11_2.length : Int) : Int) := of_decide_eq_true (by first | (with_reducible assumption) | assumption)
           replace p29 := eq_true p29
           replace q29 := eq_true q29
           obtain ⟨ce32, hcl32, hM32, hcc32, hfr32⟩ := Kd.R_elem HQ31.out z30 (x53_2 : Int) (of_decide_eq_true (by first | (with_reducible assumption) | assumption)) (by have h_ : (x53_2 : Int) < ((x11_2.length : Int) : Int) := of_decide_eq_true (by first | (with_reducible assumption) | assumption); first | exact h_ | (have e_ := (Kd.R_reads' HO_11.out).1; omega) | simpa using h_)
           obtain rfl := k30_openM hM32
           have HP32 := (Kd.R_seg HQ31.out (x53_2 : Int) (of_decide_eq_true (by first | (with_reducible assumption) | assumption)) (by have h_ : (x53_2 : Int) < ((x11_2.length : Int) : Int) := of_decide_eq_true (by first | (with_reducible assumption) | assumption); first | exact h_ | (have e_ := (Kd.R_reads' HO_11.out).1; omega) | simpa using h_) (seg := [.int .i64 (wrap64 (((rd_T30 x11_2 x53_2).f2) + (wrap64 (a3))))]) (j := 2) hcl32 hcc32 (show 3 ≤ 4 from by decide) (x' := (⟨(rd_T30 y599 x53_2).f0, (rd_T30 y599 x53_2).f1, wrap64 (((rd_T30 x11_2 x53_2).f2) + (wrap64 (a3))), (rd_T30 y599 x53_2).f3⟩ : S30)) (k30_mkM _ _ _ (⟨(rd_T30 y599 x53_2).f0, (rd_T30 y599 x53_2).f1, wrap64 (((rd_T30 x11_2 x53_2).f2) + (wrap64 (a3))), (rd_T30 y599 x53_2).f3⟩ : S30) ) (fun _ hk => hk)).1
           rw [← Ny600.out] at HP32
           have HQ32 := Aside0.mk HP32
           clear hcl32 hcc32 hfr32 hM32 HP32
           refine start_ (n := 26) (S := fun w' => w'.cell? ⟨go28, ((x53_2).toNat * 4), none⟩ = some (.int .i64 ((rd_T30 x11_2 x53_2).f0)) ∧ w'.cell? ⟨go28, ((x53_2).toNat * 4) + 1, none⟩ = some (.int .i64 ((rd_T30 x11_2 x53_2).f1)) ∧ w'.cell? ⟨go28, ((x53_2).toNat * 4) + 2, none⟩ = some (.int .i64 ((rd_T30 x11_2 x53_2).f2)) ∧ w'.cell? ⟨go28, ((x53_2).toNat * 4) + 3, none⟩ = some (.int .i64 ((rd_T30 x11_2 x53_2).f3)) ∧ w'.cell? ⟨go28, ((x53_2).toNat * 4), none⟩ = some (.int .i64 ((rd_T30 x11_2 x53_2).f0)) ∧ w'.cell? ⟨go28, ((x53_2).toNat * 4) + 1, none⟩ = some (.int .i64 ((rd_T30 x11_2 x53_2).f1)) ∧ w'.cell? ⟨go28, ((x53_2).toNat * 4) + 2, none⟩ = some (.int .i64 ((rd_T30 x11_2 x53_2).f2)) ∧ w'.cell? ⟨go28, ((x53_2).toNat * 4) + 3, none⟩ = some (.int .i64 ((rd_T30 x11_2 x53_2).f3))) (ds := [22, 25]) #[false, false, false, false, false, false, false, false, false, false, false, false, false, false, false, false, false, false, false, false, false, false, false, false, false, false] (by kernel_rfl) rfl rfl ⟨hx597_0, hx597_1, hx597_2, hx597_3, hx598_0, hx598_1, hx598_2, hx598_3⟩ (fun hHeld => ?_); refine with_tabW spilelaw34_SuspectRenamed.tab12 spilelaw34_SuspectRenamed.bits12 (fun HT_ HW_ => ?_)
           generalize wr.drew = w30 at HO_11 HB GG28 HQ31 HQ32 hf28_0 hf28_1 hf28_2 hf28_3 hx28_0 hx28_1 hx28_2 hx28_3 hx597_0 hx597_1 hx597_2 hx597_3 hx598_0 hx598_1 hx598_2 hx598_3 hHeld ⊢
           refine GS.pu 0 (some 56) HT_.out ?_
           refine GS.pu 1 (some 57) HT_.out ?_
           refine GS.pu 2 (some 58) HT_.out ?_
           refine GS.pu 3 (some 59) HT_.out ?_
           refine GS.pu 4 (some 60) HT_.out ?_
           refine GS.pu 5 (some 61) HT_.out ?_
           refine GS.pu 6 (some 62) HT_.out ?_
           refine GS.pu 7 (some 63) HT_.out ?_
           refine GS.pu 9 (some 65) HT_.out ?_
           refine GS.pu 10 (some 66) HT_.out ?_
           refine GS.pu 12 (some 68) HT_.out ?_
           refine GS.pu 13 (some 69) HT_.out ?_
           refine GS.pu 14 (some 70) HT_.out ?_
           refine GS.pu 15 (some 71) HT_.out ?_
           refine GS.pu 17 (some 73) HT_.out ?_
           refine GS.pu 18 (some 74) HT_.out ?_
           refine GS.tk 8 (some 64) HT_.out HW_.out hHeld ?_
           refine GS.pu 11 (some 67) HT_.out ?_
           refine GS.tk 16 (some 72) HT_.out HW_.out hHeld ?_
           refine GS.pu 19 (some 75) HT_.out ?_
           refine GS.pu 20 (some 76) HT_.out ?_
           refine GS.pu 21 (some 77) HT_.out ?_
           refine last_ (i := 22) (N := none) #[true, true, true, true, true, true, true, true, true, true, true, true, true, true, true, true, true, true, true, true, true, true, true, false, false, false] rfl rfl (one_of HT_.out (by kernel_rfl)) (by decide) (fun K hK => ?_)
           refine skip_ (w1 := ?_) (by rfl) rfl ?_ ?_
           rotate_left
           ·go_simp
            rfl
           refine hK.out _ _ ?_
           clear hK K
           refine GS.pu 23 (some 78) HT_.out ?_
           refine GS.pu 24 (some 79) HT_.out ?_
           refine last_ (i := 25) (N := none) #[true, true, true, true, true, true, true, true, true, true, true, true, true, true, true, true, true, true, true, true, true, true, true, true, true, true] rfl rfl (one_of HT_.out (by kernel_rfl)) (by decide) (fun K hK => ?_)
           refine skip_ (w1 := ?_) (by rfl) rfl ?_ ?_
           rotate_left
           ·go_simp
            rfl
           refine hK.out _ _ ?_
           clear hK K
           refine done_ (done_of HT_.out (by kernel_rfl)) ?_
           try go_wp2
           (try simp only [← hl11_2])
           go_roundg k2
           case measure => have := HJ10.out; have := HK2.out; omega
           case rel => exact ⟨(y600), (wrap64 (x53_2 + 1)), (by first | rfl | (simp; done) | (simp [*]; done)), H', ⟨by have := HJ10.out; have := HK2.out; omega⟩, ⟨by (try simp only [hl11_2]); (with_reducible repeat (first | apply Kd.R_alloc | apply Kd.R_drewN | apply Kd.R_drew)); exact HQ32.out⟩, ⟨by repeat (first | (with_reducible first | exact HB.out | apply lqA | apply lqN | apply lqD | refine lqS ?_ GB28.out | refine lqS ?_ GB28.out) | exact HB.out)⟩⟩
          ·rw [if_neg c27] at H
           exact absurd H (by simp)
         ·rw [if_neg c26] at H
          exact absurd H (by simp)
        ·rw [if_neg c25] at H
         have c25b0 : decide (x53_2 < (t594.length : Int)) = false := decide_eq_false c25
         have c25b9 : decide (x53_2 < (x11_2.length : Int)) = false := by rw [← hl11_2]; exact c25b0
         clear c25
         replace H := Option.bind_eq_some_iff.mp H
         obtain ⟨t601, A330, H⟩ := H
         replace H : ((suspect_Test.f t601 a1 a2).bind fun bt604 => ((clone13.f x11_2).bind fun t607 => ((suspect_Test.f t607 a1 (wrap64 (a2 + (wrap64 (a3))))).bind fun bt610 => ((clone13.f l0).bind fun t613 => ((suspect_Suspects.f t613 a1 1 4).bind fun bt616 => ((clone13.f x11_2).bind fun t620 => ((suspect_Suspects.f t620 a1 1 4).bind fun bt623 => (if bt604.1 = bt610.1 then (if bt604.2.1 = bt610.2.1 then (if bt604.2.2 = bt610.2.2 then (if bt616.2 = bt623.2 then (spilelaw34_SuspectRenamed.j2 k2 a3 bt616.1 bt623.1 ((bt616.1.length : Int) != (bt623.1.length : Int))) else (none)) else (none)) else (none)) else (none))))))))) = some r := H
         have A33 := Aside0.mk A330
         clear A330
         replace H := Option.bind_eq_some_iff.mp H
         obtain ⟨⟨t604, t605, t606⟩, A340, H⟩ := H
         replace H : ((clone13.f x11_2).bind fun t607 => ((suspect_Test.f t607 a1 (wrap64 (a2 + (wrap64 (a3))))).bind fun bt610 => ((clone13.f l0).bind fun t613 => ((suspect_Suspects.f t613 a1 1 4).bind fun bt616 => ((clone13.f x11_2).bind fun t620 => ((suspect_Suspects.f t620 a1 1 4).bind fun bt623 => (if t604 = bt610.1 then (if t605 = bt610.2.1 then (if t606 = bt610.2.2 then (if bt616.2 = bt623.2 then (spilelaw34_SuspectRenamed.j2 k2 a3 bt616.1 bt623.1 ((bt616.1.length : Int) != (bt623.1.length : Int))) else (none)) else (none)) else (none)) else (none)))))))) = some r := H
         have A34 := Aside0.mk A340
         clear A340
         replace H := Option.bind_eq_some_iff.mp H
         obtain ⟨t607, A350, H⟩ := H
         replace H : ((suspect_Test.f t607 a1 (wrap64 (a2 + (wrap64 (a3))))).bind fun bt610 => ((clone13.f l0).bind fun t613 => ((suspect_Suspects.f t613 a1 1 4).bind fun bt616 => ((clone13.f x11_2).bind fun t620 => ((suspect_Suspects.f t620 a1 1 4).bind fun bt623 => (if t604 = bt610.1 then (if t605 = bt610.2.1 then (if t606 = bt610.2.2 then (if bt616.2 = bt623.2 then (spilelaw34_SuspectRenamed.j2 k2 a3 bt616.1 bt623.1 ((bt616.1.length : Int) != (bt623.1.length : Int))) else (none)) else (none)) else (none)) else (none))))))) = some r := H
         have A35 := Aside0.mk A350
         clear A350
         replace H := Option.bind_eq_some_iff.mp H
         obtain ⟨⟨t610, t611, t612⟩, A360, H⟩ := H
         replace H : ((clone13.f l0).bind fun t613 => ((suspect_Suspects.f t613 a1 1 4).bind fun bt616 => ((clone13.f x11_2).bind fun t620 => ((suspect_Suspects.f t620 a1 1 4).bind fun bt623 => (if t604 = t610 then (if t605 = t611 then (if t606 = t612 then (if bt616.2 = bt623.2 then (spilelaw34_SuspectRenamed.j2 k2 a3 bt616.1 bt623.1 ((bt616.1.length : Int) != (bt623.1.length : Int))) else (none)) else (none)) else (none)) else (none)))))) = some r := H
         have A36 := Aside0.mk A360
         clear A360
         replace H := Option.bind_eq_some_iff.mp H
         obtain ⟨t613, A370, H⟩ := H
         replace H : ((suspect_Suspects.f t613 a1 1 4).bind fun bt616 => ((clone13.f x11_2).bind fun t620 => ((suspect_Suspects.f t620 a1 1 4).bind fun bt623 => (if t604 = t610 then (if t605 = t611 then (if t606 = t612 then (if bt616.2 = bt623.2 then (spilelaw34_SuspectRenamed.j2 k2 a3 bt616.1 bt623.1 ((bt616.1.length : Int) != (bt623.1.length : Int))) else (none)) else (none)) else (none)) else (none))))) = some r := H
         have A37 := Aside0.mk A370
         clear A370
         replace H := Option.bind_eq_some_iff.mp H
         obtain ⟨⟨t616, t617⟩, A380, H⟩ := H
         replace H : ((clone13.f x11_2).bind fun t620 => ((suspect_Suspects.f t620 a1 1 4).bind fun bt623 => (if t604 = t610 then (if t605 = t611 then (if t606 = t612 then (if t617 = bt623.2 then (spilelaw34_SuspectRenamed.j2 k2 a3 t616 bt623.1 ((t616.length : Int) != (bt623.1.length : Int))) else (none)) else (none)) else (none)) else (none)))) = some r := H
         have A38 := Aside0.mk A380
         clear A380
         replace H := Option.bind_eq_some_iff.mp H
         obtain ⟨t620, A390, H⟩ := H
         replace H : ((suspect_Suspects.f t620 a1 1 4).bind fun bt623 => (if t604 = t610 then (if t605 = t611 then (if t606 = t612 then (if t617 = bt623.2 then (spilelaw34_SuspectRenamed.j2 k2 a3 t616 bt623.1 ((t616.length : Int) != (bt623.1.length : Int))) else (none)) else (none)) else (none)) else (none))) = some r := H
         have A39 := Aside0.mk A390
         clear A390
         replace H := Option.bind_eq_some_iff.mp H
         obtain ⟨⟨t623, t624⟩, A400, H⟩ := H
         replace H : (if t604 = t610 then (if t605 = t611 then (if t606 = t612 then (if t617 = t624 then (spilelaw34_SuspectRenamed.j2 k2 a3 t616 t623 ((t616.length : Int) != (t623.length : Int))) else (none)) else (none)) else (none)) else (none)) = some r := H
         have A40 := Aside0.mk A400
         clear A400
         have HC41 := Aside0.mk H
         clear H
         go_upto_region 18 with (first | ((with_reducible refine gqC (f := 13) rfl ?_); refine GS.gL (some 83) Try.func13 #[.slice A0 l0.length c0] ?_; (with_reducible refine (clone13.calls _ _ l0 t601 _ ?side1 ?side2 A33.out).mono ?_); (case side1 => exact GS.rC (Kd.C_below HR0.out HB.out)); (case side2 => exact HC0.out); rintro e w42 ⟨v602, rfl, ho0, hb⟩; refine ⟨_, rfl, ?_⟩; have n0_ := Aside0.mk (Kd.R_elder' (GS.rR HO_11.out) (Kd.R_base ho0) hb); have n1_ := Aside0.mk (Kd.R_lower (Kd.R_new' ho0 (Kd.R_lt (GS.rR HO_11.out))) (lqZ (GS.lB HB.out))); have n2_ := Aside0.mk (lqT (GS.lB HB.out) hb); clear HO_11; clear HB; have HO_11 := n0_; have HO603 := n1_; have HB := n2_; clear n0_ n1_ n2_; (try clear hb); (try clear hb2); (try clear hk); (try clear hi); (try clear ho0); obtain ⟨Ao43, co43, eo43⟩ := Kd.R_slice HO603.out; subst eo43) | ((with_reducible refine gqC (f := 21) rfl ?_); refine GS.gL (some 86) Try.func21 #[.slice Ao43 t601.length co43, .int .i64 a1, .int .i64 a2] ?_; (with_reducible refine (suspect_Test.calls _ _ t601 a1 a2 t604 t605 t606 _ ?side1 ?side2 A34.out).mono ?_); (case side1 => repeat (first | exact (Kd.R_reads' HO603.out).2.2 | (with_reducible refine Kd.C_alloc ?_ _) | (with_reducible refine Kd.C_drewN ?_ _) | (with_reducible refine Kd.C_drew ?_))); (case side2 => exact (Kd.R_reads' HO603.out).2.1); rintro e w44 ⟨rfl, hb⟩; refine ⟨_, rfl, ?_⟩; have n0_ := Aside0.mk (Kd.R_below (GS.rR HO_11.out) hb); have n1_ := Aside0.mk (Kd.R_below (GS.rR HO603.out) hb); have n2_ := Aside0.mk (lqT (GS.lB HB.out) hb); clear HO_11; clear HO603; clear HB; have HO_11 := n0_; have HO603 := n1_; have HB := n2_; clear n0_ n1_ n2_; (try clear hb); (try clear hb2); (try clear hk); (try clear hi)) | ((with_reducible refine gqC (f := 13) rfl ?_); refine GS.gL (some 92) Try.func13 #[.slice Ao24 x11_2.length co24] ?_; (with_reducible refine (clone13.calls _ _ x11_2 t607 _ ?side1 ?side2 A35.out).mono ?_); (case side1 => repeat (first | exact (Kd.R_reads' HO_11.out).2.2 | (with_reducible refine Kd.C_alloc ?_ _) | (with_reducible refine Kd.C_drewN ?_ _) | (with_reducible refine Kd.C_drew ?_))); (case side2 => exact (Kd.R_reads' HO_11.out).2.1); rintro e w45 ⟨v608, rfl, ho0, hb⟩; refine ⟨_, rfl, ?_⟩; have n0_ := Aside0.mk (Kd.R_elder' (GS.rR HO_11.out) (Kd.R_base ho0) hb); have n1_ := Aside0.mk (Kd.R_elder' (GS.rR HO603.out) (Kd.R_base ho0) hb); have n2_ := Aside0.mk (Kd.R_lower (Kd.R_new' (Kd.R_new' ho0 (Kd.R_lt (GS.rR HO_11.out))) (Kd.R_lt (GS.rR HO603.out))) (lqZ (GS.lB HB.out))); have n3_ := Aside0.mk (lqT (GS.lB HB.out) hb); clear HO_11; clear HO603; clear HB; have HO_11 := n0_; have HO603 := n1_; have HO609 := n2_; have HB := n3_; clear n0_ n1_ n2_ n3_; (try clear hb); (try clear hb2); (try clear hk); (try clear hi); (try clear ho0); obtain ⟨Ao46, co46, eo46⟩ := Kd.R_slice HO609.out; subst eo46) | ((with_reducible refine gqC (f := 21) rfl ?_); refine GS.gL (some 98) Try.func21 #[.slice Ao46 t607.length co46, .int .i64 a1, .int .i64 (wrap64 (a2 + (wrap64 (a3))))] ?_; (with_reducible refine (suspect_Test.calls _ _ t607 a1 (wrap64 (a2 + (wrap64 (a3)))) t610 t611 t612 _ ?side1 ?side2 A36.out).mono ?_); (case side1 => repeat (first | exact (Kd.R_reads' HO609.out).2.2 | (with_reducible refine Kd.C_alloc ?_ _) | (with_reducible refine Kd.C_drewN ?_ _) | (with_reducible refine Kd.C_drew ?_))); (case side2 => exact (Kd.R_reads' HO609.out).2.1); rintro e w47 ⟨rfl, hb⟩; refine ⟨_, rfl, ?_⟩; have n0_ := Aside0.mk (Kd.R_below (GS.rR HO_11.out) hb); have n1_ := Aside0.mk (Kd.R_below (GS.rR HO603.out) hb); have n2_ := Aside0.mk (Kd.R_below (GS.rR HO609.out) hb); have n3_ := Aside0.mk (lqT (GS.lB HB.out) hb); clear HO_11; clear HO603; clear HO609; clear HB; have HO_11 := n0_; have HO603 := n1_; have HO609 := n2_; have HB := n3_; clear n0_ n1_ n2_ n3_; (try clear hb); (try clear hb2); (try clear hk); (try clear hi)) | ((with_reducible refine gqC (f := 13) rfl ?_); refine GS.gL (some 104) Try.func13 #[.slice A0 l0.length c0] ?_; (with_reducible refine (clone13.calls _ _ l0 t613 _ ?side1 ?side2 A37.out).mono ?_); (case side1 => exact GS.rC (Kd.C_below HR0.out HB.out)); (case side2 => exact HC0.out); rintro e w48 ⟨v614, rfl, ho0, hb⟩; refine ⟨_, rfl, ?_⟩; have n0_ := Aside0.mk (Kd.R_elder' (GS.rR HO_11.out) (Kd.R_base ho0) hb); have n1_ := Aside0.mk (Kd.R_elder' (GS.rR HO603.out) (Kd.R_base ho0) hb); have n2_ := Aside0.mk (Kd.R_elder' (GS.rR HO609.out) (Kd.R_base ho0) hb); have n3_ := Aside0.mk (Kd.R_lower (Kd.R_new' (Kd.R_new' (Kd.R_new' ho0 (Kd.R_lt (GS.rR HO_11.out))) (Kd.R_lt (GS.rR HO603.out))) (Kd.R_lt (GS.rR HO609.out))) (lqZ (GS.lB HB.out))); have n4_ := Aside0.mk (lqT (GS.lB HB.out) hb); clear HO_11; clear HO603; clear HO609; clear HB; have HO_11 := n0_; have HO603 := n1_; have HO609 := n2_; have HO615 := n3_; have HB := n4_; clear n0_ n1_ n2_ n3_ n4_; (try clear hb); (try clear hb2); (try clear hk); (try clear hi); (try clear ho0); obtain ⟨Ao49, co49, eo49⟩ := Kd.R_slice HO615.out; subst eo49) | ((with_reducible refine gqC (f := 25) rfl ?_); refine GS.gL (some 106) Try.func25 #[.slice Ao49 t613.length co49, .int .i64 a1, .int .i64 1, .int .i64 4] ?_; (with_reducible refine (suspect_Suspects.calls _ _ t613 a1 1 4 t616 t617 _ ?side1 ?side2 A38.out).mono ?_); (case side1 => repeat (first | exact (Kd.R_reads' HO615.out).2.2 | (with_reducible refine Kd.C_alloc ?_ _) | (with_reducible refine Kd.C_drewN ?_ _) | (with_reducible refine Kd.C_drew ?_))); (case side2 => exact (Kd.R_reads' HO615.out).2.1); rintro e w50 ⟨v618, rfl, ho0, hb⟩; refine ⟨_, rfl, ?_⟩; have n0_ := Aside0.mk (Kd.R_below (GS.rR HO_11.out) hb); have n1_ := Aside0.mk (Kd.R_below (GS.rR HO603.out) hb); have n2_ := Aside0.mk (Kd.R_below (GS.rR HO609.out) hb); have n3_ := Aside0.mk (Kd.R_below (GS.rR HO615.out) hb); have n4_ := Aside0.mk (Kd.R_lower ho0 (lqZ (GS.lB HB.out))); have n5_ := Aside0.mk (lqT (GS.lB HB.out) hb); clear HO_11; clear HO603; clear HO609; clear HO615; clear HB; have HO_11 := n0_; have HO603 := n1_; have HO609 := n2_; have HO615 := n3_; have HO619 := n4_; have HB := n5_; clear n0_ n1_ n2_ n3_ n4_ n5_; (try clear hb); (try clear hb2); (try clear hk); (try clear hi); (try clear ho0)) | ((with_reducible refine gqC (f := 13) rfl ?_); refine GS.gL (some 111) Try.func13 #[.slice Ao24 x11_2.length co24] ?_; (with_reducible refine (clone13.calls _ _ x11_2 t620 _ ?side1 ?side2 A39.out).mono ?_); (case side1 => repeat (first | exact (Kd.R_reads' HO_11.out).2.2 | (with_reducible refine Kd.C_alloc ?_ _) | (with_reducible refine Kd.C_drewN ?_ _) | (with_reducible refine Kd.C_drew ?_))); (case side2 => exact (Kd.R_reads' HO_11.out).2.1); rintro e w51 ⟨v621, rfl, ho0, hb⟩; refine ⟨_, rfl, ?_⟩; have n0_ := Aside0.mk (Kd.R_elder' (GS.rR HO_11.out) (Kd.R_base ho0) hb); have n1_ := Aside0.mk (Kd.R_elder' (GS.rR HO603.out) (Kd.R_base ho0) hb); have n2_ := Aside0.mk (Kd.R_elder' (GS.rR HO609.out) (Kd.R_base ho0) hb); have n3_ := Aside0.mk (Kd.R_elder' (GS.rR HO615.out) (Kd.R_base ho0) hb); have n4_ := Aside0.mk (Kd.R_below (GS.rR HO619.out) hb); have n5_ := Aside0.mk (Kd.R_lower (Kd.R_new' (Kd.R_new' (Kd.R_new' (Kd.R_new' ho0 (Kd.R_lt (GS.rR HO_11.out))) (Kd.R_lt (GS.rR HO603.out))) (Kd.R_lt (GS.rR HO609.out))) (Kd.R_lt (GS.rR HO615.out))) (lqZ (GS.lB HB.out))); have n6_ := Aside0.mk (lqT (GS.lB HB.out) hb); clear HO_11; clear HO603; clear HO609; clear HO615; clear HO619; clear HB; have HO_11 := n0_; have HO603 := n1_; have HO609 := n2_; have HO615 := n3_; have HO619 := n4_; have HO622 := n5_; have HB := n6_; clear n0_ n1_ n2_ n3_ n4_ n5_ n6_; (try clear hb); (try clear hb2); (try clear hk); (try clear hi); (try clear ho0); obtain ⟨Ao52, co52, eo52⟩ := Kd.R_slice HO622.out; subst eo52) | ((with_reducible refine gqC (f := 25) rfl ?_); refine GS.gL (some 113) Try.func25 #[.slice Ao52 t620.length co52, .int .i64 a1, .int .i64 1, .int .i64 4] ?_; (with_reducible refine (suspect_Suspects.calls _ _ t620 a1 1 4 t623 t624 _ ?side1 ?side2 A40.out).mono ?_); (case side1 => repeat (first | exact (Kd.R_reads' HO622.out).2.2 | (with_reducible refine Kd.C_alloc ?_ _) | (with_reducible refine Kd.C_drewN ?_ _) | (with_reducible refine Kd.C_drew ?_))); (case side2 => exact (Kd.R_reads' HO622.out).2.1); rintro e w53 ⟨v625, rfl, ho0, hb⟩; refine ⟨_, rfl, ?_⟩; have n0_ := Aside0.mk (Kd.R_below (GS.rR HO_11.out) hb); have n1_ := Aside0.mk (Kd.R_below (GS.rR HO603.out) hb); have n2_ := Aside0.mk (Kd.R_below (GS.rR HO609.out) hb); have n3_ := Aside0.mk (Kd.R_below (GS.rR HO615.out) hb); have n4_ := Aside0.mk (Kd.R_elder' (GS.rR HO619.out) (Kd.R_base ho0) hb); have n5_ := Aside0.mk (Kd.R_below (GS.rR HO622.out) hb); have n6_ := Aside0.mk (Kd.R_lower (Kd.R_new' ho0 (Kd.R_lt (GS.rR HO619.out))) (lqZ (GS.lB HB.out))); have n7_ := Aside0.mk (lqT (GS.lB HB.out) hb); clear HO_11; clear HO603; clear HO609; clear HO615; clear HO619; clear HO622; clear HB; have HO_11 := n0_; have HO603 := n1_; have HO609 := n2_; have HO615 := n3_; have HO619 := n4_; have HO622 := n5_; have HO626 := n6_; have HB := n7_; clear n0_ n1_ n2_ n3_ n4_ n5_ n6_ n7_; (try clear hb); (try clear hb2); (try clear hk); (try clear hi); (try clear ho0)))
         (try simp only [Act.put, List.setIfInBounds_toArray, List.set_cons_zero, List.set_cons_succ])
         go_cut [140] (fun v140 wc => ∃ (kq : Nat) (x140_40 : Bool), v140 = .bool x140_40 ∧ Aside0 (spilelaw34_SuspectRenamed.j2 kq a3 t616 t623 x140_40 = some r) ∧ Aside0 (kq ≤ k2) ∧ Aside0 (Kd.R (Kd.int .i64) 3 wc w.heap.size (fun k_ => some k_ ≠ (v625 : Value).ownBlock) v618 t616) ∧ Aside0 (Kd.R (Kd.int .i64) 3 wc w.heap.size (fun k_ => some k_ ≠ (v618 : Value).ownBlock) v625 t623) ∧ Aside0 (Below w.heap.size w wc))
         case first =>
          have H := HC41.out
          clear HC41
          by_cases c54 : t604 = t610
          ·rw [if_pos c54] at H
           have c54b0 : (t604 == t610) = true := beq_iff_eq.mpr c54
           try simp only [beq_self_eq_true, Bool.not_true, Bool.false_or, Bool.true_and] at c54b0
           have c54b1 : (t604 != t610) = false := bne_eq_false_iff_eq.mpr c54
           clear c54
           (first | rw [c54b0] | (simp only [i64_w, i32_w]; rw [c54b0]) | skip)
           by_cases c55 : t605 = t611
           ·rw [if_pos c55] at H
            have c55b0 : (t605 == t611) = true := beq_iff_eq.mpr c55
            try simp only [beq_self_eq_true, Bool.not_true, Bool.false_or, Bool.true_and] at c55b0
            have c55b1 : (t605 != t611) = false := bne_eq_false_iff_eq.mpr c55
            clear c55
            by_cases c56 : t606 = t612
            ·rw [if_pos c56] at H
             have c56b0 : (t606 == t612) = true := beq_iff_eq.mpr c56
             try simp only [beq_self_eq_true, Bool.not_true, Bool.false_or, Bool.true_and] at c56b0
             have c56b1 : (t606 != t612) = false := bne_eq_false_iff_eq.mpr c56
             clear c56
             by_cases c57 : t617 = t624
             ·rw [if_pos c57] at H
              have c57b0 : (t617 == t624) = true := beq_iff_eq.mpr c57
              try simp only [beq_self_eq_true, Bool.not_true, Bool.false_or, Bool.true_and] at c57b0
              have c57b1 : (t617 != t624) = false := bne_eq_false_iff_eq.mpr c57
              clear c57
              have H' := Aside0.mk H
              clear H
              obtain ⟨Ao58, co58, eo58⟩ := Kd.R_slice HO619.out
              subst eo58
              obtain ⟨Ao59, co59, eo59⟩ := Kd.R_slice HO626.out
              subst eo59
              go_wp2
              go_meet
              case rel => exact ⟨_, (((t616.length : Int) != (t623.length : Int))), (by first | rfl | (simp; done) | (simp [*]; done)), H', ⟨by have := HJ10.out; have := HK2.out; first | omega | exact Nat.le_refl _⟩, ⟨by (try simp only [hl11_2]); (with_reducible repeat (first | apply Kd.R_alloc | apply Kd.R_drewN | apply Kd.R_drew)); exact Kd.R_mono HO619.out (fun _ hk => GS.cj hk)⟩, ⟨by (try simp only [hl11_2]); (with_reducible repeat (first | apply Kd.R_alloc | apply Kd.R_drewN | apply Kd.R_drew)); exact Kd.R_mono HO626.out (fun _ hk => GS.cj hk)⟩, ⟨GS.lB HB.out⟩⟩
             ·rw [if_neg c57] at H
              exact absurd H (by simp)
            ·rw [if_neg c56] at H
             exact absurd H (by simp)
           ·rw [if_neg c55] at H
            exact absurd H (by simp)
          ·rw [if_neg c54] at H
           exact absurd H (by simp)
         case rest =>
          clear HC41
          try clear c1
          try clear c2
          try clear p2
          try clear q2
          try clear hx2
          try clear c3
          try clear c5
          try clear p5
          try clear q5
          try clear hx5
          try clear c6
          try clear p6
          try clear c7
          try clear c7b0
          try clear c7b1
          try clear c10
          try clear c12
          try clear c13
          try clear c16
          try clear c16b0
          try clear c16b1
          try clear c17
          try clear c17b0
          try clear c18
          try clear c18b0
          try clear c21
          try clear c25
          try clear c25b0
          try clear c26
          try clear c26b0
          try clear c27
          try clear c27b0
          try clear c28
          try clear p28
          try clear q28
          try clear hx28
          try clear hf28
          try clear p29
          try clear q29
          try clear c31
          try clear c32
          try clear c54
          try clear c54b0
          try clear c54b1
          try clear c55
          try clear c55b0
          try clear c55b1
          try clear c56
          try clear c56b0
          try clear c56b1
          try clear c57
          try clear c57b0
          try clear c57b1
          try clear p59
          try clear q59
          try clear hx59
          try clear hx28_0
          try clear hx28_1
          try clear hx28_2
          try clear hx28_3
          try clear hx597_0
          try clear hx597_1
          try clear hx597_2
          try clear hx597_3
          try clear hx598_0
          try clear hx598_1
          try clear hx598_2
          try clear hx598_3
          try clear p2
          try clear p28
          try clear p29
          try clear p597
          try clear p598
          try clear q28
          try clear q29
          try clear q597
          try clear q598
          obtain ⟨kq, x140_40, rfl, HA, HJ40, HO_19, HO_21, HB⟩ := hcut
          cases kq with
          | zero => exact absurd HA.out (by simp [spilelaw34_SuspectRenamed.j2])
          | succ kj40 =>
           have H := HA.out
           clear HA
           simp only [spilelaw34_SuspectRenamed.j2] at H
           by_cases c60 : x140_40 = true
           ·subst c60
            have H1 : (none) = some r := by rw [if_pos rfl] at H; exact H
            clear H
            have H := H1
            clear H1
            exact absurd H (by simp)
           ·replace c60 := Bool.eq_false_iff.mpr c60
            subst c60
            have H1 : (spilelaw34_SuspectRenamed.l1 kj40 a3 t616 t623 (t616.length : Int) 0) = some r := by rw [if_neg (show ¬ (false = true) by decide)] at H; exact H
            clear H
            have H := H1
            clear H1
            have H' := Aside0.mk H
            clear H
            obtain ⟨Ao61, co61, eo61⟩ := Kd.R_slice HO_19.out
            subst eo61
            go_wp2
            go_loopg [143] kj40 (fun kq v143 w' => ∃ (x143_4 : Int), v143 = .int .i64 x143_4 ∧ Aside0 (spilelaw34_SuspectRenamed.l1 kq a3 t616 t623 (t616.length : Int) x143_4 = some r) ∧ Aside0 (kq ≤ kj40) ∧ Aside0 (Kd.R (Kd.int .i64) 3 w' w.heap.size (fun k_ => some k_ ≠ (v625 : Value).ownBlock) (.slice Ao61 t616.length co61) t616) ∧ Aside0 (Kd.R (Kd.int .i64) 3 w' w.heap.size (fun k_ => some k_ ≠ ((.slice Ao61 t616.length co61) : Value).ownBlock) v625 t623) ∧ Aside0 (Below w.heap.size w w'))
            case atStart => exact ⟨(0), (by first | rfl | (simp; done) | (simp [*]; done)), H', ⟨Nat.le_refl _⟩, ⟨by (try simp only [hl11_2]); (with_reducible repeat (first | apply Kd.R_alloc | apply Kd.R_drewN | apply Kd.R_drew)); exact HO_19.out⟩, ⟨by (try simp only [hl11_2]); (with_reducible repeat (first | apply Kd.R_alloc | apply Kd.R_drewN | apply Kd.R_drew)); exact HO_21.out⟩, ⟨GS.lB HB.out⟩⟩
            case round =>
             clear H'
             try clear c1
             try clear c2
             try clear p2
             try clear q2
             try clear hx2
             try clear c3
             try clear c5
             try clear p5
             try clear q5
             try clear hx5
             try clear c6
             try clear p6
             try clear c7
             try clear c7b0
             try clear c7b1
             try clear c10
             try clear c12
             try clear c13
             try clear c16
             try clear c16b0
             try clear c16b1
             try clear c17
             try clear c17b0
             try clear c18
             try clear c18b0
             try clear c21
             try clear c25
             try clear c25b0
             try clear c26
             try clear c26b0
             try clear c27
             try clear c27b0
             try clear c28
             try clear p28
             try clear q28
             try clear hx28
             try clear hf28
             try clear p29
             try clear q29
             try clear c31
             try clear c32
             try clear c54
             try clear c54b0
             try clear c54b1
             try clear c55
             try clear c55b0
             try clear c55b1
             try clear c56
             try clear c56b0
             try clear c56b1
             try clear c57
             try clear c57b0
             try clear c57b1
             try clear p59
             try clear q59
             try clear hx59
             try clear c60
             try clear hx28_0
             try clear hx28_1
             try clear hx28_2
             try clear hx28_3
             try clear hx597_0
             try clear hx597_1
             try clear hx597_2
             try clear hx597_3
             try clear hx598_0
             try clear hx598_1
             try clear hx598_2
             try clear hx598_3
             try clear p2
             try clear p28
             try clear p29
             try clear p5
             try clear p59
             try clear p597
             try clear p598
             try clear p6
             try clear q2
             try clear q28
             try clear q29
             try clear q5
             try clear q59
             try clear q597
             try clear q598
             obtain ⟨x143_4, rfl, HA, HK4, HO_19, HO_21, HB⟩ := hrel
             cases gk with
             | zero => exact absurd HA.out (by simp [spilelaw34_SuspectRenamed.l1])
             | succ k4 =>
              have H := HA.out
              clear HA
              simp only [spilelaw34_SuspectRenamed.l1] at H
              by_cases c62 : x143_4 < (t616.length : Int)
              ·rw [if_pos c62] at H
               have c62b0 : decide (x143_4 < (t616.length : Int)) = true := decide_eq_true c62
               clear c62
               by_cases c63 : 0 ≤ x143_4
               ·rw [if_pos c63] at H
                have c63b0 : decide (0 ≤ x143_4) = true := decide_eq_true c63
                clear c63
                by_cases c64 : x143_4 < (t616.length : Int)
                ·rw [if_pos c64] at H
                 have c64b0 : decide (x143_4 < (t616.length : Int)) = true := decide_eq_true c64
                 clear c64
                 by_cases c65 : x143_4 < (t623.length : Int)
                 ·rw [if_pos c65] at H
                  have c65b0 : decide (x143_4 < (t623.length : Int)) = true := decide_eq_true c65
                  clear c65
                  by_cases c66 : (wrap64 ((rd t616 x143_4) + (wrap64 (a3)))) = (rd t623 x143_4)
                  ·rw [if_pos c66] at H
                   have c66b0 : ((wrap64 ((rd t616 x143_4) + (wrap64 (a3)))) == (rd t623 x143_4)) = true := beq_iff_eq.mpr c66
                   try simp only [beq_self_eq_true, Bool.not_true, Bool.false_or, Bool.true_and] at c66b0
                   have c66b1 : ((wrap64 ((rd t616 x143_4) + (wrap64 (a3)))) != (rd t623 x143_4)) = false := bne_eq_false_iff_eq.mpr c66
                   clear c66
                   have H' := Aside0.mk H
                   clear H
                   try go_wp2
                   have n0_ := Aside0.mk (Kd.R_drew HO_19.out)
                   have n1_ := Aside0.mk (Kd.R_drew HO_21.out)
                   have n2_ := Aside0.mk (lqD HB.out)
                   clear HO_19
                   clear HO_21
                   clear HB
                   have HO_19 := n0_
                   have HO_21 := n1_
                   have HB := n2_
                   clear n0_ n1_ n2_
                   have p627 : 0 ≤ (x143_4 : Int) := of_decide_eq_true (by first | (with_reducible assumption) | assumption)
                   have q627 : x143_4 < (t616.length : Int) := of_decide_eq_true (by first | (with_reducible assumption) | assumption)
                   obtain ⟨ad627, e627, hx627_0⟩ := Kd.at_int (Kd.R_reads' HO_19.out).2.2 x143_4 p627 q627
                   cases e627
                   replace p627 := eq_true p627
                   replace q627 := eq_true q627
                   obtain ⟨Ao68, co68, eo68⟩ := Kd.R_slice HO_21.out
                   (first | subst eo68 | (injection eo68 with f1_ f2_ f3_; have f4_ := f1_.symm; have f5_ := f3_.symm; clear f1_ f2_ f3_; subst f4_; subst f5_))
                   have p628 : 0 ≤ (x143_4 : Int) := of_decide_eq_true (by first | (with_reducible assumption) | assumption)
                   have q628 : x143_4 < (t623.length : Int) := of_decide_eq_true (by first | (with_reducible assumption) | assumption)
                   obtain ⟨ad628, e628, hx628_0⟩ := Kd.at_int (Kd.R_reads' HO_21.out).2.2 x143_4 p628 q628
                   cases e628
                   replace p628 := eq_true p628
                   replace q628 := eq_true q628
                   refine start_ (n := 12) (S := fun w' => w'.cell? (ad627.add (x143_4).toNat) = some (.int .i64 (rd t616 x143_4)) ∧ w'.cell? (ad628.add (x143_4).toNat) = some (.int .i64 (rd t623 x143_4))) (ds := []) #[false, false, false, false, false, false, false, false, false, false, false, false] (by kernel_rfl) rfl rfl ⟨hx627_0, hx628_0⟩ (fun hHeld => ?_); refine with_tabW spilelaw34_SuspectRenamed.tab23 spilelaw34_SuspectRenamed.bits23 (fun HT_ HW_ => ?_)
                   generalize wr.drew = w67 at HO_19 HO_21 HB hx627_0 hx628_0 hHeld ⊢
                   refine GS.pu 0 (some 146) HT_.out ?_
                   refine GS.pu 1 (some 147) HT_.out ?_
                   refine GS.pu 2 (some 148) HT_.out ?_
                   refine GS.pu 4 (some 150) HT_.out ?_
                   refine GS.pu 5 (some 151) HT_.out ?_
                   refine GS.pu 7 (some 153) HT_.out ?_
                   refine GS.pu 8 (some 154) HT_.out ?_
                   refine GS.pu 9 (some 155) HT_.out ?_
                   refine GS.tk 3 (some 149) HT_.out HW_.out hHeld ?_
                   refine GS.pu 6 (some 152) HT_.out ?_
                   refine GS.tk 10 (some 156) HT_.out HW_.out hHeld ?_
                   refine GS.pu 11 (some 157) HT_.out ?_
                   refine done_ (done_of HT_.out (by kernel_rfl)) ?_
                   try go_wp2
                   go_roundg k4
                   case measure => have := HJ10.out; have := HK2.out; have := HJ40.out; have := HK4.out; omega
                   case rel => exact ⟨(wrap64 (x143_4 + 1)), (by first | rfl | (simp; done) | (simp [*]; done)), H', ⟨by have := HJ10.out; have := HK2.out; have := HJ40.out; have := HK4.out; omega⟩, ⟨by (try simp only [hl11_2]); (with_reducible repeat (first | apply Kd.R_alloc | apply Kd.R_drewN | apply Kd.R_drew)); exact HO_19.out⟩, ⟨by (try simp only [hl11_2]); (with_reducible repeat (first | apply Kd.R_alloc | apply Kd.R_drewN | apply Kd.R_drew)); exact HO_21.out⟩, ⟨GS.lB HB.out⟩⟩
                  ·rw [if_neg c66] at H
                   exact absurd H (by simp)
                 ·rw [if_neg c65] at H
                  exact absurd H (by simp)
                ·rw [if_neg c64] at H
                 exact absurd H (by simp)
               ·rw [if_neg c63] at H
                exact absurd H (by simp)
              ·rw [if_neg c62] at H
               have c62b0 : decide (x143_4 < (t616.length : Int)) = false := decide_eq_false c62
               clear c62
               obtain rfl := Option.some.inj H
               go_wp2
               go_ret
               exact ⟨by first | rfl | (simp [errW_none, errW_some] <;> rfl) | (simp [*, errW_none, errW_some] <;> rfl), GS.lB HB.out⟩
 ·replace c6 := Bool.eq_false_iff.mpr c6
  subst c6
  have H1 : (none) = some r := by rw [if_neg (show ¬ (false = true) by decide)] at H; exact H
  clear H
  have H := H1
  clear H1
  exact absurd H (by simp)

end Go.Proofs.Ytfhmjleimampeaa.K
