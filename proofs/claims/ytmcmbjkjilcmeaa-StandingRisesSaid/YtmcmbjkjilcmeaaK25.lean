-- PRINTED by print.py (a twelfth state) out of the translation. Not trusted: Lean checks it.
import Derived.Test.YtmcmbjkjilcmeaaK0
import Derived.Test.YtmcmbjkjilcmeaaGPu
import Derived.Test.YtmcmbjkjilcmeaaGShort
import Derived.Test.YtmcmbjkjilcmeaaGSym
import Derived.Test.YtmcmbjkjilcmeaaK14
import Derived.Test.YtmcmbjkjilcmeaaK15
import Derived.Test.YtmcmbjkjilcmeaaK17
import Derived.Test.YtmcmbjkjilcmeaaGClone
namespace Go.Proofs.Ytmcmbjkjilcmeaa.K
open Go.RowKit Go.Proofs.YtmcmbjkjilcmeaaW.PrintWords Go.Proofs.YtmcmbjkjilcmeaaW.PrintLast Go.Proofs.YtmcmbjkjilcmeaaW.PrintMore
attribute [local go_sem] max2_int min2_int max_two min_two max_three min_three max_four min_four   -- for this text's walks alone
set_option linter.unusedVariables false
set_option linter.unusedSimpArgs false

/-! ### spilelaw12_StandingRises: function 6 -/
mutual
def spilelaw12_StandingRises.l0 : Nat → List Int → List (S40) → Int → Int → ByteArray → Int → List (S33) → Int → Int → Int → Option (Bool)
 | 0, _, _, _, _, _, _, _, _, _, _ => none
 | k + 1, x1, x38, x39, x40, x544000, x544001, x544002, x544003, x560000, x560001 => if x40 < x39 then (if 0 ≤ x40 then (if x40 < (x38.length : Int) then (if ((rd_T40 x38 x40).f0) > ((rd_T40 x38 x40).f1) then (none) else (if ((rd_T40 x38 x40).f0) < x560000 then (none) else (spilelaw12_StandingRises.j1 k x1 x40 x38 x39 x40 (decide (((rd_T40 x38 x40).f1) < x560001)) x544000 x544001 x544002 x544003 ((rd_T40 x38 x40).f0) ((rd_T40 x38 x40).f1)))) else (none)) else (none)) else (some true)
def spilelaw12_StandingRises.j1 : Nat → List Int → Int → List (S40) → Int → Int → Bool → ByteArray → Int → List (S33) → Int → Int → Int → Option (Bool)
 | 0, _, _, _, _, _, _, _, _, _, _, _, _ => none
 | k + 1, x1, x8, x38, x39, x40, x63, x544000, x544001, x544002, x544003, x562000, x562001 => if x63 = true then (none) else (if (Int.tmod x8 8) = 0 then ((spilelaw12_own.f k x544000 x544001 x544002 x544003).bind fun bt562 => (if 0 ≤ (wrap64 (x8 + 2)) then (if (wrap64 (x8 + 2)) ≤ (x1.length : Int) then ((clone18.f (x1.take ((wrap64 (x8 + 2)) : Int).toNat)).bind fun t569 => ((standing_Between.f k bt562.1 bt562.2.1 bt562.2.2.1 bt562.2.2.2 t569).bind fun bt572 => (if bt572.2.2 = 0 then (if bt572.1 > bt572.2.1 then (none) else (if (wrap64 (318 * bt572.1)) > (wrap64 (333 * x562000)) then (none) else (spilelaw12_StandingRises.j2 k x1 x38 x39 x40 (decide ((wrap64 (339 * bt572.2.1)) < (wrap64 (355 * x562001)))) x544000 x544001 x544002 x544003 x562000 x562001))) else (none)))) else (none)) else (none))) else (spilelaw12_StandingRises.l0 k x1 x38 x39 (wrap64 (x40 + 1)) x544000 x544001 x544002 x544003 x562000 x562001))
def spilelaw12_StandingRises.j2 : Nat → List Int → List (S40) → Int → Int → Bool → ByteArray → Int → List (S33) → Int → Int → Int → Option (Bool)
 | 0, _, _, _, _, _, _, _, _, _, _, _ => none
 | k + 1, x1, x38, x39, x40, x104, x544000, x544001, x544002, x544003, x562000, x562001 => if x104 = true then (none) else (spilelaw12_StandingRises.l0 k x1 x38 x39 (wrap64 (x40 + 1)) x544000 x544001 x544002 x544003 x562000 x562001)
end
def spilelaw12_StandingRises.f (k : Nat) (a0_0 : ByteArray) (a0_1 : Int) (l0_2 : List (S33)) (a0_3 : Int) (l1 : List Int) : Option (Bool) := (spilelaw12_awake.f k).bind fun t544 => (if t544 = true then ((spilelaw12_few.f k a0_0 a0_1 l0_2 a0_3 l1).bind fun t545 => (if t545 = true then ((spilelaw12_own.f k a0_0 a0_1 l0_2 a0_3).bind fun bt546 => ((clone18.f l1).bind fun t552 => ((standing_Sums.f k bt546.1 bt546.2.1 bt546.2.2.1 bt546.2.2.2 t552).bind fun bt555 => (if bt555.2 = 0 then (if (bt555.1.length : Int) = (wrap64 ((l1.length : Int) - 1)) then (spilelaw12_StandingRises.l0 k l1 bt555.1 (bt555.1.length : Int) 0 a0_0 a0_1 l0_2 a0_3 0 0) else (none)) else (some ((bt555.1.length : Int) == 0)))))) else (some true))) else (none))
theorem spilelaw12_StandingRises.mono_l : ∀ k, (∀ y0 y1 y2 y3 y4 y5 y6 y7 y8 y9, LeO (spilelaw12_StandingRises.l0 k y0 y1 y2 y3 y4 y5 y6 y7 y8 y9) (spilelaw12_StandingRises.l0 (k + 1) y0 y1 y2 y3 y4 y5 y6 y7 y8 y9)) ∧ (∀ y0 y1 y2 y3 y4 y5 y6 y7 y8 y9 y10 y11, LeO (spilelaw12_StandingRises.j1 k y0 y1 y2 y3 y4 y5 y6 y7 y8 y9 y10 y11) (spilelaw12_StandingRises.j1 (k + 1) y0 y1 y2 y3 y4 y5 y6 y7 y8 y9 y10 y11)) ∧ (∀ y0 y1 y2 y3 y4 y5 y6 y7 y8 y9 y10, LeO (spilelaw12_StandingRises.j2 k y0 y1 y2 y3 y4 y5 y6 y7 y8 y9 y10) (spilelaw12_StandingRises.j2 (k + 1) y0 y1 y2 y3 y4 y5 y6 y7 y8 y9 y10))
 | 0 => ⟨fun _ _ _ _ _ _ _ _ _ _ r h => by simp [spilelaw12_StandingRises.l0] at h, fun _ _ _ _ _ _ _ _ _ _ _ _ r h => by simp [spilelaw12_StandingRises.j1] at h, fun _ _ _ _ _ _ _ _ _ _ _ r h => by simp [spilelaw12_StandingRises.j2] at h⟩
 | k + 1 => by
  obtain ⟨ih0, ih1, ih2⟩ := spilelaw12_StandingRises.mono_l k
  refine ⟨?_, ?_, ?_⟩
  ·intro y0 y1 y2 y3 y4 y5 y6 y7 y8 y9
   unfold spilelaw12_StandingRises.l0
   repeat' first
   | (with_reducible exact ih0 _ _ _ _ _ _ _ _ _ _)
   | (with_reducible exact ih1 _ _ _ _ _ _ _ _ _ _ _ _)
   | (with_reducible exact ih2 _ _ _ _ _ _ _ _ _ _ _)
   | (with_reducible exact spilelaw12_awake.mono _)
   | (with_reducible exact spilelaw12_few.mono _ _ _ _ _ _)
   | (with_reducible exact spilelaw12_own.mono _ _ _ _ _)
   | (with_reducible exact standing_Between.mono _ _ _ _ _ _)
   | (with_reducible exact standing_Sums.mono _ _ _ _ _ _)
   | (with_reducible exact LeO.refl _)
   | (with_reducible exact LeO.none _)
   | (with_reducible refine LeO.ite ?_ ?_)
   | (with_reducible refine LeO.bind ?_ (fun _ => ?_))
   | exact ih0 _ _ _ _ _ _ _ _ _ _
   | exact ih1 _ _ _ _ _ _ _ _ _ _ _ _
   | exact ih2 _ _ _ _ _ _ _ _ _ _ _
   | exact spilelaw12_awake.mono _
   | exact spilelaw12_few.mono _ _ _ _ _ _
   | exact spilelaw12_own.mono _ _ _ _ _
   | exact standing_Between.mono _ _ _ _ _ _
   | exact standing_Sums.mono _ _ _ _ _ _
   | exact LeO.none _
   | refine LeO.ite ?_ ?_
   | refine LeO.bind ?_ (fun _ => ?_)
  ·intro y0 y1 y2 y3 y4 y5 y6 y7 y8 y9 y10 y11
   unfold spilelaw12_StandingRises.j1
   repeat' first
   | (with_reducible exact ih0 _ _ _ _ _ _ _ _ _ _)
   | (with_reducible exact ih1 _ _ _ _ _ _ _ _ _ _ _ _)
   | (with_reducible exact ih2 _ _ _ _ _ _ _ _ _ _ _)
   | (with_reducible exact spilelaw12_awake.mono _)
   | (with_reducible exact spilelaw12_few.mono _ _ _ _ _ _)
   | (with_reducible exact spilelaw12_own.mono _ _ _ _ _)
   | (with_reducible exact standing_Between.mono _ _ _ _ _ _)
   | (with_reducible exact standing_Sums.mono _ _ _ _ _ _)
   | (with_reducible exact LeO.refl _)
   | (with_reducible exact LeO.none _)
   | (with_reducible refine LeO.ite ?_ ?_)
   | (with_reducible refine LeO.bind ?_ (fun _ => ?_))
   | exact ih0 _ _ _ _ _ _ _ _ _ _
   | exact ih1 _ _ _ _ _ _ _ _ _ _ _ _
   | exact ih2 _ _ _ _ _ _ _ _ _ _ _
   | exact spilelaw12_awake.mono _
   | exact spilelaw12_few.mono _ _ _ _ _ _
   | exact spilelaw12_own.mono _ _ _ _ _
   | exact standing_Between.mono _ _ _ _ _ _
   | exact standing_Sums.mono _ _ _ _ _ _
   | exact LeO.none _
   | refine LeO.ite ?_ ?_
   | refine LeO.bind ?_ (fun _ => ?_)
  ·intro y0 y1 y2 y3 y4 y5 y6 y7 y8 y9 y10
   unfold spilelaw12_StandingRises.j2
   repeat' first
   | (with_reducible exact ih0 _ _ _ _ _ _ _ _ _ _)
   | (with_reducible exact ih1 _ _ _ _ _ _ _ _ _ _ _ _)
   | (with_reducible exact ih2 _ _ _ _ _ _ _ _ _ _ _)
   | (with_reducible exact spilelaw12_awake.mono _)
   | (with_reducible exact spilelaw12_few.mono _ _ _ _ _ _)
   | (with_reducible exact spilelaw12_own.mono _ _ _ _ _)
   | (with_reducible exact standing_Between.mono _ _ _ _ _ _)
   | (with_reducible exact standing_Sums.mono _ _ _ _ _ _)
   | (with_reducible exact LeO.refl _)
   | (with_reducible exact LeO.none _)
   | (with_reducible refine LeO.ite ?_ ?_)
   | (with_reducible refine LeO.bind ?_ (fun _ => ?_))
   | exact ih0 _ _ _ _ _ _ _ _ _ _
   | exact ih1 _ _ _ _ _ _ _ _ _ _ _ _
   | exact ih2 _ _ _ _ _ _ _ _ _ _ _
   | exact spilelaw12_awake.mono _
   | exact spilelaw12_few.mono _ _ _ _ _ _
   | exact spilelaw12_own.mono _ _ _ _ _
   | exact standing_Between.mono _ _ _ _ _ _
   | exact standing_Sums.mono _ _ _ _ _ _
   | exact LeO.none _
   | refine LeO.ite ?_ ?_
   | refine LeO.bind ?_ (fun _ => ?_)
theorem spilelaw12_StandingRises.mono : ∀ a0 a1 a2 a3 a4 k, LeO (spilelaw12_StandingRises.f k a0 a1 a2 a3 a4) (spilelaw12_StandingRises.f (k + 1) a0 a1 a2 a3 a4) := by
 intro a0 a1 a2 a3 a4 k
 obtain ⟨ih0, ih1, ih2⟩ := spilelaw12_StandingRises.mono_l k
 unfold spilelaw12_StandingRises.f
 repeat' first
   | (with_reducible exact ih0 _ _ _ _ _ _ _ _ _ _)
   | (with_reducible exact ih1 _ _ _ _ _ _ _ _ _ _ _ _)
   | (with_reducible exact ih2 _ _ _ _ _ _ _ _ _ _ _)
   | (with_reducible exact spilelaw12_awake.mono _)
   | (with_reducible exact spilelaw12_few.mono _ _ _ _ _ _)
   | (with_reducible exact spilelaw12_own.mono _ _ _ _ _)
   | (with_reducible exact standing_Between.mono _ _ _ _ _ _)
   | (with_reducible exact standing_Sums.mono _ _ _ _ _ _)
   | (with_reducible exact LeO.refl _)
   | (with_reducible exact LeO.none _)
   | (with_reducible refine LeO.ite ?_ ?_)
   | (with_reducible refine LeO.bind ?_ (fun _ => ?_))
   | exact ih0 _ _ _ _ _ _ _ _ _ _
   | exact ih1 _ _ _ _ _ _ _ _ _ _ _ _
   | exact ih2 _ _ _ _ _ _ _ _ _ _ _
   | exact spilelaw12_awake.mono _
   | exact spilelaw12_few.mono _ _ _ _ _ _
   | exact spilelaw12_own.mono _ _ _ _ _
   | exact standing_Between.mono _ _ _ _ _ _
   | exact standing_Sums.mono _ _ _ _ _ _
   | exact LeO.none _
   | refine LeO.ite ?_ ?_
   | refine LeO.bind ?_ (fun _ => ?_)
def spilelaw12_StandingRises.T17 : Bool × List (List Nat × List Nat) := (true, [([], []), ([0], [0]), ([], []), ([], []), ([3], [3]), ([2, 4], [2, 4]), ([5, 1], [5]), ([1, 6, 6], [1, 6]), ([7], [7]), ([8], [8]), ([8], [8]), ([], []), ([11, 9, 7, 0, 1, 2, 3, 4, 5, 6, 7, 8, 9, 11], [9, 11]), ([10, 12, 0, 1, 2, 3, 4, 5, 6, 7, 8, 9, 10, 11, 12], [10])])
def spilelaw12_StandingRises.B17 : List Nat := [0, 1, 0, 0, 8, 28, 63, 127, 255, 511, 511, 0, 3071, 8191]
theorem spilelaw12_StandingRises.tab17 : rtab .any (opsOf Try.f6 17) = spilelaw12_StandingRises.T17 := by kernel_rfl
theorem spilelaw12_StandingRises.bits17 : waitsOk spilelaw12_StandingRises.T17.2 spilelaw12_StandingRises.B17 = true := by kernel_rfl
set_option maxHeartbeats 8000000 in
set_option maxRecDepth 100000 in
theorem spilelaw12_StandingRises.calls (k : Nat) (a0_0 : ByteArray) (a0_1 : Int) (A0_2 : Option Addr) (c0_2 : Nat) (l0_2 : List (S33)) (a0_3 : Int) (A1 : Option Addr) (c1 : Nat) (l1 : List Int) (r : Bool) (w : World) (hr0_2 : Kd.C k33 w A0_2 l0_2.length l0_2) (hc0_2 : l0_2.length ≤ c0_2) (hr1 : Kd.C (Kd.int .i64) w A1 l1.length l1) (hc1 : l1.length ≤ c1) (h : spilelaw12_StandingRises.f k a0_0 a0_1 l0_2 a0_3 l1 = some r) :
  Calls Try.prog 6 #[.agg #[.string a0_0, .int .i64 a0_1, .slice A0_2 l0_2.length c0_2, .int .i64 a0_3], .slice A1 l1.length c1] w fun e w' => e = .returned (.bool r) ∧ Below w.heap.size w w' := by
 have hu24 := Try.underlying24
 have hu40 := Try.underlying40
 have HR0_2 := Aside0.mk hr0_2
 have HC0_2 := Aside0.mk hc0_2
 clear hr0_2 hc0_2
 have HR1 := Aside0.mk hr1
 have HC1 := Aside0.mk hc1
 clear hr1 hc1
 have HB := Aside0.mk (Below.refl w.heap.size w)
 have H : ((spilelaw12_awake.f k).bind fun t544 => (if t544 = true then ((spilelaw12_few.f k a0_0 a0_1 l0_2 a0_3 l1).bind fun t545 => (if t545 = true then ((spilelaw12_own.f k a0_0 a0_1 l0_2 a0_3).bind fun bt546 => ((clone18.f l1).bind fun t552 => ((standing_Sums.f k bt546.1 bt546.2.1 bt546.2.2.1 bt546.2.2.2 t552).bind fun bt555 => (if bt555.2 = 0 then (if (bt555.1.length : Int) = (wrap64 ((l1.length : Int) - 1)) then (spilelaw12_StandingRises.l0 k l1 bt555.1 (bt555.1.length : Int) 0 a0_0 a0_1 l0_2 a0_3 0 0) else (none)) else (some ((bt555.1.length : Int) == 0)))))) else (some true))) else (none))) = some r := h
 clear h
 replace H := Option.bind_eq_some_iff.mp H
 obtain ⟨t544, A30, H⟩ := H
 replace H : (if t544 = true then ((spilelaw12_few.f k a0_0 a0_1 l0_2 a0_3 l1).bind fun t545 => (if t545 = true then ((spilelaw12_own.f k a0_0 a0_1 l0_2 a0_3).bind fun bt546 => ((clone18.f l1).bind fun t552 => ((standing_Sums.f k bt546.1 bt546.2.1 bt546.2.2.1 bt546.2.2.2 t552).bind fun bt555 => (if bt555.2 = 0 then (if (bt555.1.length : Int) = (wrap64 ((l1.length : Int) - 1)) then (spilelaw12_StandingRises.l0 k l1 bt555.1 (bt555.1.length : Int) 0 a0_0 a0_1 l0_2 a0_3 0 0) else (none)) else (some ((bt555.1.length : Int) == 0)))))) else (some true))) else (none)) = some r := H
 have A3 := Aside0.mk A30
 clear A30
 by_cases c4 : t544 = true
 ·subst c4
  have H1 : ((spilelaw12_few.f k a0_0 a0_1 l0_2 a0_3 l1).bind fun t545 => (if t545 = true then ((spilelaw12_own.f k a0_0 a0_1 l0_2 a0_3).bind fun bt546 => ((clone18.f l1).bind fun t552 => ((standing_Sums.f k bt546.1 bt546.2.1 bt546.2.2.1 bt546.2.2.2 t552).bind fun bt555 => (if bt555.2 = 0 then (if (bt555.1.length : Int) = (wrap64 ((l1.length : Int) - 1)) then (spilelaw12_StandingRises.l0 k l1 bt555.1 (bt555.1.length : Int) 0 a0_0 a0_1 l0_2 a0_3 0 0) else (none)) else (some ((bt555.1.length : Int) == 0)))))) else (some true))) = some r := by rw [if_pos rfl] at H; exact H
  clear H
  have H := H1
  clear H1
  replace H := Option.bind_eq_some_iff.mp H
  obtain ⟨t545, A50, H⟩ := H
  replace H : (if t545 = true then ((spilelaw12_own.f k a0_0 a0_1 l0_2 a0_3).bind fun bt546 => ((clone18.f l1).bind fun t552 => ((standing_Sums.f k bt546.1 bt546.2.1 bt546.2.2.1 bt546.2.2.2 t552).bind fun bt555 => (if bt555.2 = 0 then (if (bt555.1.length : Int) = (wrap64 ((l1.length : Int) - 1)) then (spilelaw12_StandingRises.l0 k l1 bt555.1 (bt555.1.length : Int) 0 a0_0 a0_1 l0_2 a0_3 0 0) else (none)) else (some ((bt555.1.length : Int) == 0)))))) else (some true)) = some r := H
  have A5 := Aside0.mk A50
  clear A50
  by_cases c6 : t545 = true
  ·subst c6
   have H1 : ((spilelaw12_own.f k a0_0 a0_1 l0_2 a0_3).bind fun bt546 => ((clone18.f l1).bind fun t552 => ((standing_Sums.f k bt546.1 bt546.2.1 bt546.2.2.1 bt546.2.2.2 t552).bind fun bt555 => (if bt555.2 = 0 then (if (bt555.1.length : Int) = (wrap64 ((l1.length : Int) - 1)) then (spilelaw12_StandingRises.l0 k l1 bt555.1 (bt555.1.length : Int) 0 a0_0 a0_1 l0_2 a0_3 0 0) else (none)) else (some ((bt555.1.length : Int) == 0)))))) = some r := by rw [if_pos rfl] at H; exact H
   clear H
   have H := H1
   clear H1
   replace H := Option.bind_eq_some_iff.mp H
   obtain ⟨⟨t546, t547, t548, t551⟩, A70, H⟩ := H
   replace H : ((clone18.f l1).bind fun t552 => ((standing_Sums.f k t546 t547 t548 t551 t552).bind fun bt555 => (if bt555.2 = 0 then (if (bt555.1.length : Int) = (wrap64 ((l1.length : Int) - 1)) then (spilelaw12_StandingRises.l0 k l1 bt555.1 (bt555.1.length : Int) 0 a0_0 a0_1 l0_2 a0_3 0 0) else (none)) else (some ((bt555.1.length : Int) == 0))))) = some r := H
   have A7 := Aside0.mk A70
   clear A70
   replace H := Option.bind_eq_some_iff.mp H
   obtain ⟨t552, A80, H⟩ := H
   replace H : ((standing_Sums.f k t546 t547 t548 t551 t552).bind fun bt555 => (if bt555.2 = 0 then (if (bt555.1.length : Int) = (wrap64 ((l1.length : Int) - 1)) then (spilelaw12_StandingRises.l0 k l1 bt555.1 (bt555.1.length : Int) 0 a0_0 a0_1 l0_2 a0_3 0 0) else (none)) else (some ((bt555.1.length : Int) == 0)))) = some r := H
   have A8 := Aside0.mk A80
   clear A80
   replace H := Option.bind_eq_some_iff.mp H
   obtain ⟨⟨t555, t558⟩, A90, H⟩ := H
   replace H : (if t558 = 0 then (if (t555.length : Int) = (wrap64 ((l1.length : Int) - 1)) then (spilelaw12_StandingRises.l0 k l1 t555 (t555.length : Int) 0 a0_0 a0_1 l0_2 a0_3 0 0) else (none)) else (some ((t555.length : Int) == 0))) = some r := H
   have A9 := Aside0.mk A90
   clear A90
   by_cases c10 : t558 = 0
   ·rw [if_pos c10] at H
    have c10b0 : (t558 == 0) = true := beq_iff_eq.mpr c10
    try simp only [beq_self_eq_true, Bool.not_true, Bool.false_or, Bool.true_and] at c10b0
    have c10b1 : (t558 != 0) = false := bne_eq_false_iff_eq.mpr c10
    clear c10
    by_cases c11 : (t555.length : Int) = (wrap64 ((l1.length : Int) - 1))
    ·rw [if_pos c11] at H
     have c11b0 : ((t555.length : Int) == (wrap64 ((l1.length : Int) - 1))) = true := beq_iff_eq.mpr c11
     try simp only [beq_self_eq_true, Bool.not_true, Bool.false_or, Bool.true_and] at c11b0
     have c11b1 : ((t555.length : Int) != (wrap64 ((l1.length : Int) - 1))) = false := bne_eq_false_iff_eq.mpr c11
     clear c11
     have H' := Aside0.mk H
     clear H
     go_enter Try.func6, Try.ntmps6
     go_wp2_with (first | ((with_reducible refine gqD (N := 2) rfl ?_); refine GS.bx (N := 2) (cs := #[.string a0_0, .int .i64 a0_1, .slice A0_2 l0_2.length c0_2, .int .i64 a0_3]) (t := 24) ?_; intro gb543 hg w12 hbox hb; have n0_ := Aside0.mk (lqT (GS.lB HB.out) hb); have n1_ := Aside0.mk (hbox); have n2_ := Aside0.mk ((by rw [hg]; exact (lqZ (GS.lB HB.out)) : w.heap.size ≤ gb543)); have n3_ := Aside0.mk ((by rw [hg]; exact (lqZ (GS.lB HB.out)) : w.heap.size ≤ gb543)); clear HB; have HB := n0_; have BK543 := n1_; have GW543 := n2_; have GE543 := n3_; clear n0_ n1_ n2_ n3_; clear hb hbox hg) | ((with_reducible refine gqC (f := 10) rfl ?_); refine GS.gL (some 12) Try.func10 #[] ?_; (with_reducible refine (spilelaw12_awake.calls k  true _ A3.out).mono ?_); rintro e w13 ⟨rfl, hb⟩; refine ⟨_, rfl, ?_⟩; have n0_ := Aside0.mk (bqB (GS.bqX BK543.out) hb); have n1_ := Aside0.mk (lqT (GS.lB HB.out) hb); clear BK543; clear HB; have BK543 := n0_; have HB := n1_; clear n0_ n1_; (try clear hb); (try clear hb2); (try clear hk); (try clear hi); obtain ⟨hcz14_0, hcz14_1, hcz14_2, hcz14_3, hfz14_0, hfz14_1, hfz14_2, hfz14_3⟩ := GS.c4 BK543.out) | ((with_reducible refine gqC (f := 11) rfl ?_); refine GS.gL (some 16) Try.func11 #[.agg #[.string a0_0, .int .i64 a0_1, .slice A0_2 l0_2.length c0_2, .int .i64 a0_3], .slice A1 l1.length c1] ?_; (with_reducible refine (spilelaw12_few.calls k a0_0 a0_1 (fun k_ => k_ < w.heap.size) _ _ l0_2 a0_3 _ _ l1 true _ ?side1 ?side2 ?side3 A5.out).mono ?_); (case side1 => exact Kd.V_mk HC0_2.out (Kd.F_below (Kd.C_F k33_heap HR0_2.out) (GS.lB HB.out))); (case side2 => exact GS.rC (Kd.C_below HR1.out HB.out)); (case side3 => exact HC1.out); rintro e w15 ⟨rfl, hb⟩; refine ⟨_, rfl, ?_⟩; have n0_ := Aside0.mk (bqB (GS.bqX BK543.out) hb); have n1_ := Aside0.mk (lqT (GS.lB HB.out) hb); clear BK543; clear HB; have BK543 := n0_; have HB := n1_; clear n0_ n1_; (try clear hb); (try clear hb2); (try clear hk); (try clear hi); obtain ⟨hcz16_0, hcz16_1, hcz16_2, hcz16_3, hfz16_0, hfz16_1, hfz16_2, hfz16_3⟩ := GS.c4 BK543.out) | ((with_reducible refine gqC (f := 17) rfl ?_); refine GS.gL (some 20) Try.func17 #[.agg #[.string a0_0, .int .i64 a0_1, .slice A0_2 l0_2.length c0_2, .int .i64 a0_3]] ?_; (with_reducible refine (spilelaw12_own.calls k a0_0 a0_1 (fun k_ => k_ < w.heap.size) _ _ l0_2 a0_3 t546 t547 t548 t551 _ ?side1 A7.out).mono ?_); (case side1 => exact Kd.V_mk HC0_2.out (Kd.F_below (Kd.C_F k33_heap HR0_2.out) (GS.lB HB.out))); rintro e w17 ⟨v549, rfl, ho0, hb⟩; refine ⟨_, rfl, ?_⟩; have n0_ := Aside0.mk (Kd.V_lower (Kd.V_mono (ok' := fun k_ => k_ ≠ gb543) ho0 (fun k_ hk_ => Or.elim hk_ (fun hs_ => fun e_ => Nat.not_le.2 hs_ (by rw [e_]; exact GW543.out)) (fun hn_ => (Kd.freshB (GS.bqX BK543.out) k_ hn_)))) (lqZ (GS.lB HB.out))); have n1_ := Aside0.mk (bqB (GS.bqX BK543.out) hb); have n2_ := Aside0.mk (lqT (GS.lB HB.out) hb); clear BK543; clear HB; have HO550 := n0_; have BK543 := n1_; have HB := n2_; clear n0_ n1_ n2_; (try clear hb); (try clear hb2); (try clear hk); (try clear hi); (try clear ho0)) | ((with_reducible refine gqC (f := 18) rfl ?_); refine GS.gL (some 22) Try.func18 #[.slice A1 l1.length c1] ?_; (with_reducible refine (clone18.calls _ _ l1 t552 _ ?side1 ?side2 A8.out).mono ?_); (case side1 => exact GS.rC (Kd.C_below HR1.out HB.out)); (case side2 => exact HC1.out); rintro e w18 ⟨v553, rfl, ho0, hb⟩; refine ⟨_, rfl, ?_⟩; have n0_ := Aside0.mk (Kd.V_elder' (by (with_reducible repeat (first | apply Kd.V_alloc | apply Kd.V_drewN | apply Kd.V_drew)); exact HO550.out) (Kd.R_base ho0) hb); have n1_ := Aside0.mk (Kd.R_lower ho0 (lqZ (GS.lB HB.out))); have n2_ := Aside0.mk (bqB (GS.bqX BK543.out) hb); have n3_ := Aside0.mk (lqT (GS.lB HB.out) hb); clear HO550; clear BK543; clear HB; have HO550 := n0_; have HO554 := n1_; have BK543 := n2_; have HB := n3_; clear n0_ n1_ n2_ n3_; (try clear hb); (try clear hb2); (try clear hk); (try clear hi); (try clear ho0); obtain ⟨Ao19, co19, eo19⟩ := Kd.V_slice HO550.out; subst eo19; obtain ⟨Ao20, co20, eo20⟩ := Kd.R_slice HO554.out; subst eo20) | ((with_reducible refine gqC (f := 22) rfl ?_); refine GS.gL (some 23) Try.func22 #[.agg #[.string t546, .int .i64 t547, .slice Ao19 t548.length co19, .int .i64 t551], .slice Ao20 t552.length co20] ?_; (with_reducible refine (standing_Sums.calls k t546 t547 _ _ t548 t551 _ _ t552 t555 t558 _ ?side1 ?side2 ?side3 ?side4 A9.out).mono ?_); (case side1 => repeat (first | exact (Kd.V_reads' HO550.out).2.2 | (with_reducible refine Kd.C_alloc ?_ _) | (with_reducible refine Kd.C_drewN ?_ _) | (with_reducible refine Kd.C_drew ?_))); (case side2 => exact (Kd.V_reads' HO550.out).2.1); (case side3 => repeat (first | exact (Kd.R_reads' HO554.out).2.2 | (with_reducible refine Kd.C_alloc ?_ _) | (with_reducible refine Kd.C_drewN ?_ _) | (with_reducible refine Kd.C_drew ?_))); (case side4 => exact (Kd.R_reads' HO554.out).2.1); rintro e w21 ⟨v556, rfl, ho0, hb⟩; refine ⟨_, rfl, ?_⟩; have n0_ := Aside0.mk (Kd.V_elder' (by (with_reducible repeat (first | apply Kd.V_alloc | apply Kd.V_drewN | apply Kd.V_drew)); exact HO550.out) (Kd.R_base ho0) hb); have n1_ := Aside0.mk (Kd.R_below (GS.rR HO554.out) hb); have n2_ := Aside0.mk (Kd.R_lower ho0 (lqZ (GS.lB HB.out))); have n3_ := Aside0.mk (bqB (GS.bqX BK543.out) hb); have n4_ := Aside0.mk (lqT (GS.lB HB.out) hb); clear HO550; clear HO554; clear BK543; clear HB; have HO550 := n0_; have HO554 := n1_; have HO557 := n2_; have BK543 := n3_; have HB := n4_; clear n0_ n1_ n2_ n3_ n4_; (try clear hb); (try clear hb2); (try clear hk); (try clear hi); (try clear ho0); obtain ⟨Ao22, co22, eo22⟩ := Kd.R_slice HO557.out; subst eo22) | ((with_reducible refine gqD (N := 7) rfl ?_); refine GS.bx (N := 7) (cs := #[.int .i64 0, .int .i64 0]) (t := 40) ?_; intro gb559 hg w23 hbox hb; have n0_ := Aside0.mk (Kd.V_below (Kd.V_elderB (by (with_reducible repeat (first | apply Kd.V_alloc | apply Kd.V_drewN | apply Kd.V_drew)); exact HO550.out) gb559 (Nat.le_of_eq hg.symm)) hb); have n1_ := Aside0.mk (Kd.R_below (GS.rR HO554.out) hb); have n2_ := Aside0.mk (Kd.R_below (Kd.R_elderB (GS.rR HO557.out) gb559 (Nat.le_of_eq hg.symm)) hb); have n3_ := Aside0.mk (bqB (GS.bqX BK543.out) hb); have n4_ := Aside0.mk (lqT (GS.lB HB.out) hb); have n5_ := Aside0.mk (hbox); have n6_ := Aside0.mk ((by rw [hg]; exact (lqZ (GS.lB HB.out)) : w.heap.size ≤ gb559)); have n7_ := Aside0.mk ((by rw [hg]; exact (lqZ (GS.lB HB.out)) : w.heap.size ≤ gb559)); have n8_ := Aside0.mk ((by rw [hg]; exact Nat.ne_of_lt (blk_lt (GS.bqX BK543.out)) : gb543 ≠ gb559)); have n9_ := Aside0.mk ((by rw [hg]; exact Nat.ne_of_gt (blk_lt (GS.bqX BK543.out)) : gb559 ≠ gb543)); clear HO550; clear HO554; clear HO557; clear BK543; clear HB; have HO550 := n0_; have HO554 := n1_; have HO557 := n2_; have BK543 := n3_; have HB := n4_; have BK559 := n5_; have GW559 := n6_; have GE559 := n7_; have NB543_559 := n8_; have NB559_543 := n9_; clear n0_ n1_ n2_ n3_ n4_ n5_ n6_ n7_ n8_ n9_; clear hb hbox hg; have hnb24 := NB559_543.out; have hnc24 := NB543_559.out; obtain ⟨hcz25_0, hcz25_1, hfz25_0, hfz25_1⟩ := GS.c2 BK559.out))
     go_loopg [40] k (fun kq v40 w' => ∃ (x40_1 : Int) (x560000_1 : Int) (x560001_1 : Int), v40 = .int .i64 x40_1 ∧ Aside0 (spilelaw12_StandingRises.l0 kq l1 t555 (t555.length : Int) x40_1 a0_0 a0_1 l0_2 a0_3 x560000_1 x560001_1 = some r) ∧ Aside0 (kq ≤ k) ∧ Aside0 (Kd.R k40 40 w' w.heap.size (fun k_ => k_ ≠ gb559) (.slice Ao22 t555.length co22) t555) ∧ Aside0 (w'.heap[gb543]? = some (.cells #[.string a0_0, .int .i64 a0_1, (.slice A0_2 l0_2.length c0_2), .int .i64 a0_3] 24 (0, 0))) ∧ Aside0 (w'.heap[gb559]? = some (.cells #[.int .i64 x560000_1, .int .i64 x560001_1] 40 (0, 0))) ∧ Aside0 (Below w.heap.size w w'))
     case atStart => exact ⟨(0), (0), (0), (by first | rfl | (simp; done) | (simp [*]; done)), H', ⟨Nat.le_refl _⟩, ⟨by (with_reducible repeat (first | apply Kd.R_alloc | apply Kd.R_drewN | apply Kd.R_drew)); exact Kd.R_mono (Kd.R_far (p := ⟨gb559, 1, none⟩) (Kd.R_far (p := ⟨gb559, 0, none⟩) (Kd.R_mono HO557.out (fun k_ hk => (⟨hk, GS.cj hk⟩ : _ ∧ k_ ≠ gb559))) (fun _ hk => hk.2) (.int .i64 0)) (fun _ hk => hk.2) (.int .i64 0)) (fun _ hk => GS.cj hk)⟩, ⟨GS.bqX BK543.out⟩, ⟨GS.bqZ BK559.out⟩, ⟨GS.lB HB.out⟩⟩
     case round =>
      clear H'
      try clear c1
      try clear c2
      try clear p2
      try clear c4
      try clear c6
      try clear p6
      try clear c10
      try clear c10b0
      try clear c10b1
      try clear c11
      try clear c11b0
      try clear c11b1
      try clear c17
      try clear c18
      try clear c22
      try clear c24
      try clear hcz14_0
      try clear hcz14_1
      try clear hcz14_2
      try clear hcz14_3
      try clear hcz16_0
      try clear hcz16_1
      try clear hcz16_2
      try clear hcz16_3
      try clear hcz25_0
      try clear hcz25_1
      try clear hfz14_0
      try clear hfz14_1
      try clear hfz14_2
      try clear hfz14_3
      try clear hfz16_0
      try clear hfz16_1
      try clear hfz16_2
      try clear hfz16_3
      try clear hfz25_0
      try clear hfz25_1
      obtain ⟨x40_1, x560000_1, x560001_1, rfl, HA, HK1, HO_38, BK543, BK559, HB⟩ := hrel
      cases gk with
      | zero => exact absurd HA.out (by simp [spilelaw12_StandingRises.l0])
      | succ k1 =>
       have H := HA.out
       clear HA
       simp only [spilelaw12_StandingRises.l0] at H
       by_cases c26 : x40_1 < (t555.length : Int)
       ·rw [if_pos c26] at H
        have c26b0 : decide (x40_1 < (t555.length : Int)) = true := decide_eq_true c26
        clear c26
        by_cases c27 : 0 ≤ x40_1
        ·rw [if_pos c27] at H
         have c27b0 : decide (0 ≤ x40_1) = true := decide_eq_true c27
         clear c27
         by_cases c28 : x40_1 < (t555.length : Int)
         ·rw [if_pos c28] at H
          have c28b0 : decide (x40_1 < (t555.length : Int)) = true := decide_eq_true c28
          clear c28
          have HC29 := Aside0.mk H
          clear H
          have p560 : 0 ≤ (x40_1 : Int) := of_decide_eq_true (by first | (with_reducible assumption) | assumption)
          have q560 : x40_1 < (t555.length : Int) := of_decide_eq_true (by first | (with_reducible assumption) | assumption)
          obtain ⟨ad560, e560, hx560_0, hx560_1⟩ := at_T40 (Kd.R_reads' HO_38.out).2.2 x40_1 p560 q560
          cases e560
          replace p560 := eq_true p560
          replace q560 := eq_true q560
          go_upto_region 14 with (first | ((with_reducible refine gqD (N := 9) rfl ?_); refine GS.bx (N := 9) (cs := #[.int .i64 0, .int .i64 0]) (t := 40) ?_; intro gb561 hg w30 hbox hb; have n0_ := Aside0.mk (Kd.R_below (Kd.R_elderB (GS.rR HO_38.out) gb561 (Nat.le_of_eq hg.symm)) hb); have n1_ := Aside0.mk (bqB (GS.bqX BK543.out) hb); have n2_ := Aside0.mk (bqB (GS.bqX BK559.out) hb); have n3_ := Aside0.mk (lqT (GS.lB HB.out) hb); have n4_ := Aside0.mk (hbox); have n5_ := Aside0.mk ((by rw [hg]; exact (lqZ (GS.lB HB.out)) : w.heap.size ≤ gb561)); have n6_ := Aside0.mk ((by rw [hg]; exact (lqZ (GS.lB HB.out)) : w.heap.size ≤ gb561)); have n7_ := Aside0.mk ((by rw [hg]; exact Nat.ne_of_lt (blk_lt (GS.bqX BK543.out)) : gb543 ≠ gb561)); have n8_ := Aside0.mk ((by rw [hg]; exact Nat.ne_of_gt (blk_lt (GS.bqX BK543.out)) : gb561 ≠ gb543)); have n9_ := Aside0.mk ((by rw [hg]; exact Nat.ne_of_lt (blk_lt (GS.bqX BK559.out)) : gb559 ≠ gb561)); have n10_ := Aside0.mk ((by rw [hg]; exact Nat.ne_of_gt (blk_lt (GS.bqX BK559.out)) : gb561 ≠ gb559)); clear HO_38; clear BK543; clear BK559; clear HB; have HO_38 := n0_; have BK543 := n1_; have BK559 := n2_; have HB := n3_; have BK561 := n4_; have GW561 := n5_; have GE561 := n6_; have NB543_561 := n7_; have NB561_543 := n8_; have NB559_561 := n9_; have NB561_559 := n10_; clear n0_ n1_ n2_ n3_ n4_ n5_ n6_ n7_ n8_ n9_ n10_; clear hb hbox hg; have hnb31 := NB561_543.out; have hnc31 := NB543_561.out; have hnb32 := NB561_559.out; have hnc32 := NB559_561.out; obtain ⟨hcz33_0, hcz33_1, hfz33_0, hfz33_1⟩ := GS.c2 BK561.out))
          (try simp only [Act.put, List.setIfInBounds_toArray, List.set_cons_zero, List.set_cons_succ])
          go_cut [63] (fun v63 wc => ∃ (kq : Nat) (x63_28 : Bool), v63 = .bool x63_28 ∧ Aside0 (spilelaw12_StandingRises.j1 kq l1 x40_1 t555 (t555.length : Int) x40_1 x63_28 a0_0 a0_1 l0_2 a0_3 ((rd_T40 t555 x40_1).f0) ((rd_T40 t555 x40_1).f1) = some r) ∧ Aside0 (kq ≤ k1) ∧ Aside0 (Kd.R k40 40 wc w.heap.size (fun k_ => k_ ≠ gb559 ∧ k_ ≠ gb561) (.slice (some ad560) t555.length co22) t555) ∧ Aside0 (wc.heap[gb543]? = some (.cells #[.string a0_0, .int .i64 a0_1, (.slice A0_2 l0_2.length c0_2), .int .i64 a0_3] 24 (0, 0))) ∧ Aside0 (wc.heap[gb559]? = some (.cells #[.int .i64 x560000_1, .int .i64 x560001_1] 40 (0, 0))) ∧ Aside0 (wc.heap[gb561]? = some (.cells #[.int .i64 ((rd_T40 t555 x40_1).f0), .int .i64 ((rd_T40 t555 x40_1).f1)] 40 (0, 0))) ∧ Aside0 (Below w.heap.size w wc))
          case first =>
           have H := HC29.out
           clear HC29
           by_cases c34 : ((rd_T40 t555 x40_1).f0) > ((rd_T40 t555 x40_1).f1)
           ·rw [if_pos c34] at H
            exact absurd H (by simp)
           ·rw [if_neg c34] at H
            have c34b0 : decide (((rd_T40 t555 x40_1).f1) < ((rd_T40 t555 x40_1).f0)) = false := decide_eq_false c34
            clear c34
            (first | rw [c34b0] | (simp only [i64_w, i32_w]; rw [c34b0]) | skip)
            by_cases c35 : ((rd_T40 t555 x40_1).f0) < x560000_1
            ·rw [if_pos c35] at H
             exact absurd H (by simp)
            ·rw [if_neg c35] at H
             have c35b0 : decide (((rd_T40 t555 x40_1).f0) < x560000_1) = false := decide_eq_false c35
             clear c35
             have H' := Aside0.mk H
             clear H
             have hnb36 := NB561_543.out
             have hnc36 := NB543_561.out
             have hnb37 := NB561_559.out
             have hnc37 := NB559_561.out
             obtain ⟨hcz38_0, hcz38_1, hfz38_0, hfz38_1⟩ := GS.c2 BK561.out
             have hnb39 := NB559_543.out
             have hnc39 := NB543_559.out
             obtain ⟨hcz40_0, hcz40_1, hfz40_0, hfz40_1⟩ := GS.c2 BK559.out
             go_wp2
             go_meet
             case rel => exact ⟨_, (decide (((rd_T40 t555 x40_1).f1) < x560001_1)), (by first | rfl | (simp; done) | (simp [*]; done)), H', ⟨by have := HK1.out; first | omega | exact Nat.le_refl _⟩, ⟨by (with_reducible repeat (first | apply Kd.R_alloc | apply Kd.R_drewN | apply Kd.R_drew)); exact Kd.R_mono (Kd.R_far (p := ⟨gb561, 1, none⟩) (Kd.R_far (p := ⟨gb561, 0, none⟩) (Kd.R_mono HO_38.out (fun k_ hk => (⟨hk, GS.cj hk⟩ : _ ∧ k_ ≠ gb561))) (fun _ hk => hk.2) (.int .i64 ((rd_T40 t555 x40_1).f0))) (fun _ hk => hk.2) (.int .i64 ((rd_T40 t555 x40_1).f1))) (fun _ hk => GS.cj hk)⟩, ⟨GS.bqX BK543.out⟩, ⟨GS.bqX BK559.out⟩, ⟨GS.bqZ BK561.out⟩, ⟨GS.lB HB.out⟩⟩
          case rest =>
           clear HC29
           try clear c1
           try clear c2
           try clear p2
           try clear c3
           try clear c4
           try clear p5
           try clear q5
           try clear hx5
           try clear c6
           try clear p6
           try clear c10
           try clear c10b0
           try clear c10b1
           try clear c11
           try clear c11b0
           try clear c11b1
           try clear c17
           try clear c18
           try clear c22
           try clear c24
           try clear c26
           try clear c26b0
           try clear c27
           try clear c27b0
           try clear c28
           try clear c28b0
           try clear c31
           try clear c32
           try clear c34
           try clear c34b0
           try clear c35
           try clear c35b0
           try clear c36
           try clear c37
           try clear c39
           try clear hcz14_0
           try clear hcz14_1
           try clear hcz14_2
           try clear hcz14_3
           try clear hcz16_0
           try clear hcz16_1
           try clear hcz16_2
           try clear hcz16_3
           try clear hcz25_0
           try clear hcz25_1
           try clear hcz33_0
           try clear hcz33_1
           try clear hcz38_0
           try clear hcz38_1
           try clear hcz40_0
           try clear hcz40_1
           try clear hfz14_0
           try clear hfz14_1
           try clear hfz14_2
           try clear hfz14_3
           try clear hfz16_0
           try clear hfz16_1
           try clear hfz16_2
           try clear hfz16_3
           try clear hfz25_0
           try clear hfz25_1
           try clear hfz33_0
           try clear hfz33_1
           try clear hfz38_0
           try clear hfz38_1
           try clear hfz40_0
           try clear hfz40_1
           try clear hx560_0
           try clear hx560_1
           try clear p2
           try clear p560
           try clear p6
           try clear q560
           obtain ⟨kq, x63_28, rfl, HA, HJ28, HO_38, BK543, BK559, BK561, HB⟩ := hcut
           cases kq with
           | zero => exact absurd HA.out (by simp [spilelaw12_StandingRises.j1])
           | succ kj28 =>
            have H := HA.out
            clear HA
            simp only [spilelaw12_StandingRises.j1] at H
            by_cases c41 : x63_28 = true
            ·subst c41
             have H1 : (none) = some r := by rw [if_pos rfl] at H; exact H
             clear H
             have H := H1
             clear H1
             exact absurd H (by simp)
            ·replace c41 := Bool.eq_false_iff.mpr c41
             subst c41
             have H1 : (if (Int.tmod x40_1 8) = 0 then ((spilelaw12_own.f kj28 a0_0 a0_1 l0_2 a0_3).bind fun bt562 => (if 0 ≤ (wrap64 (x40_1 + 2)) then (if (wrap64 (x40_1 + 2)) ≤ (l1.length : Int) then ((clone18.f (l1.take ((wrap64 (x40_1 + 2)) : Int).toNat)).bind fun t569 => ((standing_Between.f kj28 bt562.1 bt562.2.1 bt562.2.2.1 bt562.2.2.2 t569).bind fun bt572 => (if bt572.2.2 = 0 then (if bt572.1 > bt572.2.1 then (none) else (if (wrap64 (318 * bt572.1)) > (wrap64 (333 * ((rd_T40 t555 x40_1).f0))) then (none) else (spilelaw12_StandingRises.j2 kj28 l1 t555 (t555.length : Int) x40_1 (decide ((wrap64 (339 * bt572.2.1)) < (wrap64 (355 * ((rd_T40 t555 x40_1).f1))))) a0_0 a0_1 l0_2 a0_3 ((rd_T40 t555 x40_1).f0) ((rd_T40 t555 x40_1).f1)))) else (none)))) else (none)) else (none))) else (spilelaw12_StandingRises.l0 kj28 l1 t555 (t555.length : Int) (wrap64 (x40_1 + 1)) a0_0 a0_1 l0_2 a0_3 ((rd_T40 t555 x40_1).f0) ((rd_T40 t555 x40_1).f1))) = some r := by rw [if_neg (show ¬ (false = true) by decide)] at H; exact H
             clear H
             have H := H1
             clear H1
             by_cases c42 : (Int.tmod x40_1 8) = 0
             ·rw [if_pos c42] at H
              have c42b0 : ((Int.tmod x40_1 8) == 0) = true := beq_iff_eq.mpr c42
              try simp only [beq_self_eq_true, Bool.not_true, Bool.false_or, Bool.true_and] at c42b0
              have c42b1 : ((Int.tmod x40_1 8) != 0) = false := bne_eq_false_iff_eq.mpr c42
              clear c42
              replace H := Option.bind_eq_some_iff.mp H
              obtain ⟨⟨t562, t563, t564, t567⟩, A430, H⟩ := H
              replace H : (if 0 ≤ (wrap64 (x40_1 + 2)) then (if (wrap64 (x40_1 + 2)) ≤ (l1.length : Int) then ((clone18.f (l1.take ((wrap64 (x40_1 + 2)) : Int).toNat)).bind fun t569 => ((standing_Between.f kj28 t562 t563 t564 t567 t569).bind fun bt572 => (if bt572.2.2 = 0 then (if bt572.1 > bt572.2.1 then (none) else (if (wrap64 (318 * bt572.1)) > (wrap64 (333 * ((rd_T40 t555 x40_1).f0))) then (none) else (spilelaw12_StandingRises.j2 kj28 l1 t555 (t555.length : Int) x40_1 (decide ((wrap64 (339 * bt572.2.1)) < (wrap64 (355 * ((rd_T40 t555 x40_1).f1))))) a0_0 a0_1 l0_2 a0_3 ((rd_T40 t555 x40_1).f0) ((rd_T40 t555 x40_1).f1)))) else (none)))) else (none)) else (none)) = some r := H
              have A43 := Aside0.mk A430
              clear A430
              obtain ⟨ji44, hji44⟩ : ∃ j_ : Int, (wrap64 (x40_1 + 2)) = j_ := ⟨_, rfl⟩
              replace H : (if 0 ≤ (ji44) then (if (ji44) ≤ (l1.length : Int) then ((clone18.f (l1.take ((ji44) : Int).toNat)).bind fun t569 => ((standing_Between.f kj28 t562 t563 t564 t567 t569).bind fun bt572 => (if bt572.2.2 = 0 then (if bt572.1 > bt572.2.1 then (none) else (if (wrap64 (318 * bt572.1)) > (wrap64 (333 * ((rd_T40 t555 x40_1).f0))) then (none) else (spilelaw12_StandingRises.j2 kj28 l1 t555 (t555.length : Int) x40_1 (decide ((wrap64 (339 * bt572.2.1)) < (wrap64 (355 * ((rd_T40 t555 x40_1).f1))))) a0_0 a0_1 l0_2 a0_3 ((rd_T40 t555 x40_1).f0) ((rd_T40 t555 x40_1).f1)))) else (none)))) else (none)) else (none)) = some r := by first | (rw [hji44] at H; exact H) | (simp only [hji44] at H ⊢; exact H)
              (try rw [hji44] at A43)
              have hji44w : (IntKind.i64.wrap (x40_1 + 2)) = ji44 := (i64_w _).trans hji44
              by_cases c45 : 0 ≤ (ji44)
              ·rw [if_pos c45] at H
               have c45b0 := eq_true c45
               have c45b1 : decide (0 ≤ (ji44)) = true := decide_eq_true c45
               clear c45
               by_cases c46 : (ji44) ≤ (l1.length : Int)
               ·rw [if_pos c46] at H
                have c46b0 := eq_true c46
                have c46b1 : decide ((ji44) ≤ (l1.length : Int)) = true := decide_eq_true c46
                clear c46
                replace H := Option.bind_eq_some_iff.mp H
                obtain ⟨t569, A470, H⟩ := H
                replace H : ((standing_Between.f kj28 t562 t563 t564 t567 t569).bind fun bt572 => (if bt572.2.2 = 0 then (if bt572.1 > bt572.2.1 then (none) else (if (wrap64 (318 * bt572.1)) > (wrap64 (333 * ((rd_T40 t555 x40_1).f0))) then (none) else (spilelaw12_StandingRises.j2 kj28 l1 t555 (t555.length : Int) x40_1 (decide ((wrap64 (339 * bt572.2.1)) < (wrap64 (355 * ((rd_T40 t555 x40_1).f1))))) a0_0 a0_1 l0_2 a0_3 ((rd_T40 t555 x40_1).f0) ((rd_T40 t555 x40_1).f1)))) else (none))) = some r := H
                have A47 := Aside0.mk A470
                clear A470
                replace H := Option.bind_eq_some_iff.mp H
                obtain ⟨⟨t572, t573, t574⟩, A480, H⟩ := H
                replace H : (if t574 = 0 then (if t572 > t573 then (none) else (if (wrap64 (318 * t572)) > (wrap64 (333 * ((rd_T40 t555 x40_1).f0))) then (none) else (spilelaw12_StandingRises.j2 kj28 l1 t555 (t555.length : Int) x40_1 (decide ((wrap64 (339 * t573)) < (wrap64 (355 * ((rd_T40 t555 x40_1).f1))))) a0_0 a0_1 l0_2 a0_3 ((rd_T40 t555 x40_1).f0) ((rd_T40 t555 x40_1).f1)))) else (none)) = some r := H
                have A48 := Aside0.mk A480
                clear A480
                have HC49 := Aside0.mk H
                clear H
                try go_wp2
                have n0_ := Aside0.mk (Kd.R_drew HO_38.out)
                have n1_ := Aside0.mk (bqD BK543.out)
                have n2_ := Aside0.mk (bqD BK559.out)
                have n3_ := Aside0.mk (bqD BK561.out)
                have n4_ := Aside0.mk (lqD HB.out)
                clear HO_38
                clear BK543
                clear BK559
                clear BK561
                clear HB
                have HO_38 := n0_
                have BK543 := n1_
                have BK559 := n2_
                have BK561 := n3_
                have HB := n4_
                clear n0_ n1_ n2_ n3_ n4_
                obtain ⟨i051, hi051, _, hsz51, _⟩ := info_parts info3
                obtain ⟨hcut51, hA51, hC51⟩ := print_take_of (P := Try.prog) (Value.int .i64) 0 25 3 .i64 Try.underlying25 hi051 hsz51 A1 c1 l1 (ji44) (of_decide_eq_true (by first | (with_reducible assumption) | assumption)) (of_decide_eq_true (by first | (with_reducible assumption) | assumption)) HC1.out
                have HR568 := Aside0.mk (Kd.C_of_reads (h1 := fun _ => rfl) (hA51 _ (Kd.reads_of_C HR1.out)))
                have HC568 := Aside0.mk hC51
                clear hA51 hC51 hi051 hsz51
                refine start_ (n := 14) (S := fun w' => w'.cell? ⟨gb543, 0, none⟩ = some (.string a0_0) ∧ w'.cell? ⟨gb543, 1, none⟩ = some (.int .i64 a0_1) ∧ w'.cell? ⟨gb543, 2, none⟩ = some (.slice A0_2 l0_2.length c0_2) ∧ w'.cell? ⟨gb543, 3, none⟩ = some (.int .i64 a0_3)) (ds := []) #[false, false, false, false, false, false, false, false, false, false, false, false, false, false] (by kernel_rfl) rfl rfl ⟨(bqC BK543.out 0).trans rfl, (bqC BK543.out 1).trans rfl, (bqC BK543.out 2).trans rfl, (bqC BK543.out 3).trans rfl⟩ (fun hHeld => ?_); refine with_tabW spilelaw12_StandingRises.tab17 spilelaw12_StandingRises.bits17 (fun HT_ HW_ => ?_)
                generalize wc.drew = w50 at HO_38 BK543 BK559 BK561 HB HR568 hHeld ⊢
                refine GS.pu 2 (some 70) HT_.out ?_
                refine GS.pu 3 (some 71) HT_.out ?_
                refine GS.pu 4 (some 72) HT_.out ?_
                refine GS.pu 5 (some 73) HT_.out ?_
                refine GS.tk 0 (some 68) HT_.out HW_.out hHeld ?_
                refine join_ (σ := Value × Value × Nat) 2 #[true, true, true, true, true, true, true, true, true, true, true, true, false, false] (fun s_ => [(69, .agg #[.string t562, .int .i64 t563, s_.1, .int .i64 t567]), (74, s_.2.1), (75, .tuple #[.agg #[.int .i64 t572, .int .i64 t573], .int .i64 t574]), (10, .pointer (some ⟨s_.2.2, 0, none⟩)), (67, .tuple #[.agg #[.int .i64 t572, .int .i64 t573], .int .i64 t574]), (76, .agg #[.int .i64 t572, .int .i64 t573]), (77, .int .i64 t574)]) (fun s_ w' => (w'.cell? ⟨gb543, 0, none⟩ = some (.string a0_0) ∧ w'.cell? ⟨gb543, 1, none⟩ = some (.int .i64 a0_1) ∧ w'.cell? ⟨gb543, 2, none⟩ = some (.slice A0_2 l0_2.length c0_2) ∧ w'.cell? ⟨gb543, 3, none⟩ = some (.int .i64 a0_3)) ∧ (Kd.V k33 33 w' w.heap.size (fun k_ => some k_ ≠ (s_.2.1 : Value).ownBlock ∧ some k_ ≠ (.slice (some ad560) t555.length co22 : Value).ownBlock ∧ k_ ≠ gb543 ∧ k_ ≠ gb559 ∧ k_ ≠ gb561 ∧ k_ ≠ s_.2.2) s_.1 t564) ∧ (Kd.R (Kd.int .i64) 3 w' w.heap.size (fun _ => True) s_.2.1 t569) ∧ (Kd.R k40 40 w' w.heap.size (fun k_ => k_ ≠ gb559 ∧ k_ ≠ gb561 ∧ k_ ≠ s_.2.2) (.slice (some ad560) t555.length co22) t555) ∧ (w'.heap[gb543]? = some (.cells #[.string a0_0, .int .i64 a0_1, .slice A0_2 l0_2.length c0_2, .int .i64 a0_3] 24 (0, 0))) ∧ (w'.heap[gb559]? = some (.cells #[.int .i64 x560000_1, .int .i64 x560001_1] 40 (0, 0))) ∧ (w'.heap[gb561]? = some (.cells #[.int .i64 ((rd_T40 t555 x40_1).f0), .int .i64 ((rd_T40 t555 x40_1).f1)] 40 (0, 0))) ∧ (w'.heap[s_.2.2]? = some (.cells #[.int .i64 0, .int .i64 0] 40 (0, 0))) ∧ (w.heap.size ≤ s_.2.2) ∧ (w.heap.size ≤ s_.2.2) ∧ (gb543 ≠ s_.2.2) ∧ (s_.2.2 ≠ gb543) ∧ (gb559 ≠ s_.2.2) ∧ (s_.2.2 ≠ gb559) ∧ (gb561 ≠ s_.2.2) ∧ (s_.2.2 ≠ gb561) ∧ (Below w.heap.size w w')) ?_ ?_
                rotate_left
                ·intro hCont
                 refine two_ (i := 1) (j := 11) (Ni := some 69) (Nj := some 10) #[true, true, true, true, true, true, false, false, false, false, false, false, false, false] #[true, false, true, true, true, true, false, false, false, false, false, true, false, false] rfl rfl rfl rfl (two_of HT_.out (by kernel_rfl)) (by decide) (by decide) (fun K hK => ?_) (fun K hK => ?_)
                 ·skip
                  refine goes_ Try.func17 (by kernel_rfl) rfl #[.agg #[.string a0_0, .int .i64 a0_1, .slice A0_2 l0_2.length c0_2, .int .i64 a0_3]] (by rfl) rfl rfl (by (try simp only [List.map_toArray, List.map_cons, List.map_nil]); first | done | rfl | (simp only [List.length_drop, List.length_take]; rfl)) ?_
                  with_reducible refine (spilelaw12_own.calls kj28 a0_0 a0_1 (fun k_ => k_ < w.heap.size) _ _ l0_2 a0_3 t562 t563 t564 t567 _ ?side1 A43.out).mono ?_
                  (case side1 => exact Kd.V_mk HC0_2.out (Kd.F_below (Kd.C_F k33_heap HR0_2.out) (GS.lB HB.out)))
                  rintro e w52 ⟨v565, rfl, ho0, hb⟩
                  refine ⟨_, rfl, ?_⟩
                  have n0_ := Aside0.mk (Kd.R_below (GS.rR HO_38.out) hb)
                  have n1_ := Aside0.mk (Kd.V_lower (Kd.V_mono (ok' := fun k_ => some k_ ≠ (.slice (some ad560) t555.length co22 : Value).ownBlock ∧ k_ ≠ gb543 ∧ k_ ≠ gb559 ∧ k_ ≠ gb561) ho0 (fun k_ hk_ => ⟨Or.elim hk_ (fun hs_ => fun e_ => Nat.not_le.2 hs_ (Kd.R_base HO_38.out k_ e_.symm)) (fun hn_ => (Kd.fresh' (Kd.R_lt (GS.rR HO_38.out)) k_ hn_)), Or.elim hk_ (fun hs_ => fun e_ => Nat.not_le.2 hs_ (by rw [e_]; exact GW543.out)) (fun hn_ => (Kd.freshB (GS.bqX BK543.out) k_ hn_)), Or.elim hk_ (fun hs_ => fun e_ => Nat.not_le.2 hs_ (by rw [e_]; exact GW559.out)) (fun hn_ => (Kd.freshB (GS.bqX BK559.out) k_ hn_)), Or.elim hk_ (fun hs_ => fun e_ => Nat.not_le.2 hs_ (by rw [e_]; exact GW561.out)) (fun hn_ => (Kd.freshB (GS.bqX BK561.out) k_ hn_))⟩)) (lqZ (GS.lB HB.out)))
                  have n2_ := Aside0.mk (bqB (GS.bqX BK543.out) hb)
                  have n3_ := Aside0.mk (bqB (GS.bqX BK559.out) hb)
                  have n4_ := Aside0.mk (bqB (GS.bqX BK561.out) hb)
                  have n5_ := Aside0.mk (lqT (GS.lB HB.out) hb)
                  clear HO_38
                  clear BK543
                  clear BK559
                  clear BK561
                  clear HB
                  have HO_38 := n0_
                  have HO566 := n1_
                  have BK543 := n2_
                  have BK559 := n3_
                  have BK561 := n4_
                  have HB := n5_
                  clear n0_ n1_ n2_ n3_ n4_ n5_
                  (try clear hb)
                  (try clear hb2)
                  (try clear hk)
                  (try clear hi)
                  (try clear ho0)
                  refine hK.out _ _ ⟨(bqC BK543.out 0).trans rfl, (bqC BK543.out 1).trans rfl, (bqC BK543.out 2).trans rfl, (bqC BK543.out 3).trans rfl⟩ (fun hHeld => ?_)
                  clear hK K
                  refine norm_ (a' := ?_) ?_ ?_
                  rotate_left
                  ·show Act.put _ (some 69) _ = _
                   simp only [Act.put, List.setIfInBounds_toArray, List.set_cons_zero, List.set_cons_succ, i64_w, i32_w]
                   rfl
                  refine two_ (i := 6) (j := 11) (Ni := some 74) (Nj := some 10) #[true, true, true, true, true, true, true, false, false, false, false, false, false, false] #[true, true, true, true, true, true, false, false, false, false, false, true, false, false] rfl rfl rfl rfl (two_of HT_.out (by kernel_rfl)) (by decide) (by decide) (fun K hK => ?_) (fun K hK => ?_)
                  ·skip
                   refine goes_ Try.func18 (by kernel_rfl) rfl #[.slice A1 (l1.take ((ji44) : Int).toNat).length c1] (by rfl) rfl rfl (by (try simp only [List.map_toArray, List.map_cons, List.map_nil]); first | done | (rw [show (l1.take ((ji44) : Int).toNat).length = (ji44).toNat from (by rw [List.length_take]; have h_ : ((ji44) : Int) ≤ (l1.length : Int) := of_decide_eq_true (by first | (with_reducible assumption) | assumption); omega)] <;> rfl) | (simp only [hji44]; rfl) | rfl | (simp only [List.length_drop, List.length_take]; rfl)) ?_
                   with_reducible refine (clone18.calls _ _ (l1.take ((ji44) : Int).toNat) t569 _ ?side1 ?side2 A47.out).mono ?_
                   (case side1 => exact GS.rC (Kd.C_below HR568.out HB.out))
                   (case side2 => exact HC568.out)
                   rintro e w53 ⟨v570, rfl, ho0, hb⟩
                   refine ⟨_, rfl, ?_⟩
                   have n0_ := Aside0.mk (Kd.R_below (GS.rR HO_38.out) hb)
                   have n1_ := Aside0.mk (Kd.V_elder' (by (with_reducible repeat (first | apply Kd.V_alloc | apply Kd.V_drewN | apply Kd.V_drew)); exact HO566.out) (Kd.R_base ho0) hb)
                   have n2_ := Aside0.mk (Kd.R_lower ho0 (lqZ (GS.lB HB.out)))
                   have n3_ := Aside0.mk (bqB (GS.bqX BK543.out) hb)
                   have n4_ := Aside0.mk (bqB (GS.bqX BK559.out) hb)
                   have n5_ := Aside0.mk (bqB (GS.bqX BK561.out) hb)
                   have n6_ := Aside0.mk (lqT (GS.lB HB.out) hb)
                   clear HO_38
                   clear HO566
                   clear BK543
                   clear BK559
                   clear BK561
                   clear HB
                   have HO_38 := n0_
                   have HO566 := n1_
                   have HO571 := n2_
                   have BK543 := n3_
                   have BK559 := n4_
                   have BK561 := n5_
                   have HB := n6_
                   clear n0_ n1_ n2_ n3_ n4_ n5_ n6_
                   (try clear hb)
                   (try clear hb2)
                   (try clear hk)
                   (try clear hi)
                   (try clear ho0)
                   obtain ⟨Ao54, co54, eo54⟩ := Kd.V_slice HO566.out
                   (first | subst eo54 | (injection eo54 with f1_ f2_ f3_; have f4_ := f1_.symm; have f5_ := f3_.symm; clear f1_ f2_ f3_; subst f4_; subst f5_))
                   obtain ⟨Ao55, co55, eo55⟩ := Kd.R_slice HO571.out
                   (first | subst eo55 | (injection eo55 with f1_ f2_ f3_; have f4_ := f1_.symm; have f5_ := f3_.symm; clear f1_ f2_ f3_; subst f4_; subst f5_))
                   refine hK.out _ _ ⟨(bqC BK543.out 0).trans rfl, (bqC BK543.out 1).trans rfl, (bqC BK543.out 2).trans rfl, (bqC BK543.out 3).trans rfl⟩ (fun hHeld => ?_)
                   clear hK K
                   refine norm_ (a' := ?_) ?_ ?_
                   rotate_left
                   ·show Act.put _ (some 74) _ = _
                    simp only [Act.put, List.setIfInBounds_toArray, List.set_cons_zero, List.set_cons_succ, i64_w, i32_w]
                    rfl
                   refine two_ (i := 7) (j := 11) (Ni := some 75) (Nj := some 10) #[true, true, true, true, true, true, true, true, false, false, false, false, false, false] #[true, true, true, true, true, true, true, false, false, false, false, true, false, false] rfl rfl rfl rfl (two_of HT_.out (by kernel_rfl)) (by decide) (by decide) (fun K hK => ?_) (fun K hK => ?_)
                   ·skip
                    refine goes_ Try.func20 (by kernel_rfl) rfl #[.agg #[.string t562, .int .i64 t563, .slice Ao54 t564.length co54, .int .i64 t567], .slice Ao55 t569.length co55] (by rfl) rfl rfl (by (try simp only [List.map_toArray, List.map_cons, List.map_nil]); first | done | rfl | (simp only [List.length_drop, List.length_take]; rfl)) ?_
                    with_reducible refine (standing_Between.calls kj28 t562 t563 _ _ t564 t567 _ _ t569 t572 t573 t574 _ ?side1 ?side2 ?side3 ?side4 A48.out).mono ?_
                    (case side1 => repeat (first | exact (Kd.V_reads' HO566.out).2.2 | (with_reducible refine Kd.C_alloc ?_ _) | (with_reducible refine Kd.C_drewN ?_ _) | (with_reducible refine Kd.C_drew ?_)))
                    (case side2 => exact (Kd.V_reads' HO566.out).2.1)
                    (case side3 => repeat (first | exact (Kd.R_reads' HO571.out).2.2 | (with_reducible refine Kd.C_alloc ?_ _) | (with_reducible refine Kd.C_drewN ?_ _) | (with_reducible refine Kd.C_drew ?_)))
                    (case side4 => exact (Kd.R_reads' HO571.out).2.1)
                    rintro e w56 ⟨rfl, hb⟩
                    refine ⟨_, rfl, ?_⟩
                    have n0_ := Aside0.mk (Kd.R_below (GS.rR HO_38.out) hb)
                    have n1_ := Aside0.mk (Kd.V_below (by (with_reducible repeat (first | apply Kd.V_alloc | apply Kd.V_drewN | apply Kd.V_drew)); exact HO566.out) hb)
                    have n2_ := Aside0.mk (Kd.R_below (GS.rR HO571.out) hb)
                    have n3_ := Aside0.mk (bqB (GS.bqX BK543.out) hb)
                    have n4_ := Aside0.mk (bqB (GS.bqX BK559.out) hb)
                    have n5_ := Aside0.mk (bqB (GS.bqX BK561.out) hb)
                    have n6_ := Aside0.mk (lqT (GS.lB HB.out) hb)
                    clear HO_38
                    clear HO566
                    clear HO571
                    clear BK543
                    clear BK559
                    clear BK561
                    clear HB
                    have HO_38 := n0_
                    have HO566 := n1_
                    have HO571 := n2_
                    have BK543 := n3_
                    have BK559 := n4_
                    have BK561 := n5_
                    have HB := n6_
                    clear n0_ n1_ n2_ n3_ n4_ n5_ n6_
                    (try clear hb)
                    (try clear hb2)
                    (try clear hk)
                    (try clear hi)
                    refine hK.out _ _ ⟨(bqC BK543.out 0).trans rfl, (bqC BK543.out 1).trans rfl, (bqC BK543.out 2).trans rfl, (bqC BK543.out 3).trans rfl⟩ (fun hHeld => ?_)
                    clear hK K
                    refine norm_ (a' := ?_) ?_ ?_
                    rotate_left
                    ·show Act.put _ (some 75) _ = _
                     simp only [Act.put, List.setIfInBounds_toArray, List.set_cons_zero, List.set_cons_succ, i64_w, i32_w]
                     rfl
                    refine GS.pu 8 (some 67) HT_.out ?_
                    refine GS.pu 9 (some 76) HT_.out ?_
                    refine GS.pu 10 (some 77) HT_.out ?_
                    refine one_ (i := 11) (N := some 10) #[true, true, true, true, true, true, true, true, true, true, true, true, false, false] rfl rfl (one_of HT_.out (by kernel_rfl)) (by decide) (fun K hK => ?_)
                    refine box_step ?hg (N := 10) ?hd (cs := #[.int .i64 0, .int .i64 0]) (t := 40) ?hr ?_; (case hd => rfl); (case hg => rfl); (case hr => first | (go_simp; done) | (go_simp; rfl))
                    intro gb575 hg w57 hbox hb
                    have n0_ := Aside0.mk (Kd.R_below (Kd.R_elderB (GS.rR HO_38.out) gb575 (Nat.le_of_eq hg.symm)) hb)
                    have n1_ := Aside0.mk (Kd.V_below (Kd.V_elderB (by (with_reducible repeat (first | apply Kd.V_alloc | apply Kd.V_drewN | apply Kd.V_drew)); exact HO566.out) gb575 (Nat.le_of_eq hg.symm)) hb)
                    have n2_ := Aside0.mk (Kd.R_below (GS.rR HO571.out) hb)
                    have n3_ := Aside0.mk (bqB (GS.bqX BK543.out) hb)
                    have n4_ := Aside0.mk (bqB (GS.bqX BK559.out) hb)
                    have n5_ := Aside0.mk (bqB (GS.bqX BK561.out) hb)
                    have n6_ := Aside0.mk (lqT (GS.lB HB.out) hb)
                    have n7_ := Aside0.mk (hbox)
                    have n8_ := Aside0.mk ((by rw [hg]; exact (lqZ (GS.lB HB.out)) : w.heap.size ≤ gb575))
                    have n9_ := Aside0.mk ((by rw [hg]; exact (lqZ (GS.lB HB.out)) : w.heap.size ≤ gb575))
                    have n10_ := Aside0.mk ((by rw [hg]; exact Nat.ne_of_lt (blk_lt (GS.bqX BK543.out)) : gb543 ≠ gb575))
                    have n11_ := Aside0.mk ((by rw [hg]; exact Nat.ne_of_gt (blk_lt (GS.bqX BK543.out)) : gb575 ≠ gb543))
                    have n12_ := Aside0.mk ((by rw [hg]; exact Nat.ne_of_lt (blk_lt (GS.bqX BK559.out)) : gb559 ≠ gb575))
                    have n13_ := Aside0.mk ((by rw [hg]; exact Nat.ne_of_gt (blk_lt (GS.bqX BK559.out)) : gb575 ≠ gb559))
                    have n14_ := Aside0.mk ((by rw [hg]; exact Nat.ne_of_lt (blk_lt (GS.bqX BK561.out)) : gb561 ≠ gb575))
                    have n15_ := Aside0.mk ((by rw [hg]; exact Nat.ne_of_gt (blk_lt (GS.bqX BK561.out)) : gb575 ≠ gb561))
                    clear HO_38
                    clear HO566
                    clear HO571
                    clear BK543
                    clear BK559
                    clear BK561
                    clear HB
                    have HO_38 := n0_
                    have HO566 := n1_
                    have HO571 := n2_
                    have BK543 := n3_
                    have BK559 := n4_
                    have BK561 := n5_
                    have HB := n6_
                    have BK575 := n7_
                    have GW575 := n8_
                    have GE575 := n9_
                    have NB543_575 := n10_
                    have NB575_543 := n11_
                    have NB559_575 := n12_
                    have NB575_559 := n13_
                    have NB561_575 := n14_
                    have NB575_561 := n15_
                    clear n0_ n1_ n2_ n3_ n4_ n5_ n6_ n7_ n8_ n9_ n10_ n11_ n12_ n13_ n14_ n15_
                    clear hb hbox hg
                    refine hK.out _ _ ⟨(bqC BK543.out 0).trans rfl, (bqC BK543.out 1).trans rfl, (bqC BK543.out 2).trans rfl, (bqC BK543.out 3).trans rfl⟩ (fun hHeld => ?_)
                    clear hK K
                    refine norm_ (a' := ?_) ?_ ?_
                    rotate_left
                    ·show Act.put _ (some 10) _ = _
                     simp only [Act.put, List.setIfInBounds_toArray, List.set_cons_zero, List.set_cons_succ, i64_w, i32_w]
                     rfl
                    exact norm_ (by simp only [putAll, Act.put, List.setIfInBounds_toArray, List.set_cons_zero, List.set_cons_succ]) (hCont (.slice Ao54 t564.length co54, .slice Ao55 t569.length co55, gb575) _ ⟨hHeld, (by (with_reducible repeat (first | apply Kd.V_alloc | apply Kd.V_drewN | apply Kd.V_drew)); exact Kd.V_mono HO566.out (fun _ hk => by (repeat (cases ‹_ ∧ _›)); (repeat' apply And.intro) <;> assumption)), (GS.rR HO571.out), (GS.rR (Kd.R_mono HO_38.out (fun _ hk => by first | exact GS.cj hk | exact ⟨hk.1.1, hk.1.2, hk.2⟩ | exact ⟨hk.1.1, hk.1.2⟩ | exact ⟨⟨hk.1, hk.2.1⟩, hk.2.2⟩))), (GS.bqX BK543.out), (GS.bqX BK559.out), (GS.bqX BK561.out), (GS.bqX BK575.out), GW575.out, GE575.out, NB543_575.out, NB575_543.out, NB559_575.out, NB575_559.out, NB561_575.out, NB575_561.out, (GS.lB HB.out)⟩)
                   ·skip
                    refine box_step ?hg (N := 10) ?hd (cs := #[.int .i64 0, .int .i64 0]) (t := 40) ?hr ?_; (case hd => rfl); (case hg => rfl); (case hr => first | (go_simp; done) | (go_simp; rfl))
                    intro gb575 hg w54 hbox hb
                    have n0_ := Aside0.mk (Kd.R_below (Kd.R_elderB (GS.rR HO_38.out) gb575 (Nat.le_of_eq hg.symm)) hb)
                    have n1_ := Aside0.mk (Kd.V_below (Kd.V_elderB (by (with_reducible repeat (first | apply Kd.V_alloc | apply Kd.V_drewN | apply Kd.V_drew)); exact HO566.out) gb575 (Nat.le_of_eq hg.symm)) hb)
                    have n2_ := Aside0.mk (Kd.R_below (GS.rR HO571.out) hb)
                    have n3_ := Aside0.mk (bqB (GS.bqX BK543.out) hb)
                    have n4_ := Aside0.mk (bqB (GS.bqX BK559.out) hb)
                    have n5_ := Aside0.mk (bqB (GS.bqX BK561.out) hb)
                    have n6_ := Aside0.mk (lqT (GS.lB HB.out) hb)
                    have n7_ := Aside0.mk (hbox)
                    have n8_ := Aside0.mk ((by rw [hg]; exact (lqZ (GS.lB HB.out)) : w.heap.size ≤ gb575))
                    have n9_ := Aside0.mk ((by rw [hg]; exact (lqZ (GS.lB HB.out)) : w.heap.size ≤ gb575))
                    have n10_ := Aside0.mk ((by rw [hg]; exact Nat.ne_of_lt (blk_lt (GS.bqX BK543.out)) : gb543 ≠ gb575))
                    have n11_ := Aside0.mk ((by rw [hg]; exact Nat.ne_of_gt (blk_lt (GS.bqX BK543.out)) : gb575 ≠ gb543))
                    have n12_ := Aside0.mk ((by rw [hg]; exact Nat.ne_of_lt (blk_lt (GS.bqX BK559.out)) : gb559 ≠ gb575))
                    have n13_ := Aside0.mk ((by rw [hg]; exact Nat.ne_of_gt (blk_lt (GS.bqX BK559.out)) : gb575 ≠ gb559))
                    have n14_ := Aside0.mk ((by rw [hg]; exact Nat.ne_of_lt (blk_lt (GS.bqX BK561.out)) : gb561 ≠ gb575))
                    have n15_ := Aside0.mk ((by rw [hg]; exact Nat.ne_of_gt (blk_lt (GS.bqX BK561.out)) : gb575 ≠ gb561))
                    clear HO_38
                    clear HO566
                    clear HO571
                    clear BK543
                    clear BK559
                    clear BK561
                    clear HB
                    have HO_38 := n0_
                    have HO566 := n1_
                    have HO571 := n2_
                    have BK543 := n3_
                    have BK559 := n4_
                    have BK561 := n5_
                    have HB := n6_
                    have BK575 := n7_
                    have GW575 := n8_
                    have GE575 := n9_
                    have NB543_575 := n10_
                    have NB575_543 := n11_
                    have NB559_575 := n12_
                    have NB575_559 := n13_
                    have NB561_575 := n14_
                    have NB575_561 := n15_
                    clear n0_ n1_ n2_ n3_ n4_ n5_ n6_ n7_ n8_ n9_ n10_ n11_ n12_ n13_ n14_ n15_
                    clear hb hbox hg
                    obtain ⟨Ao55, co55, eo55⟩ := Kd.V_slice HO566.out
                    (first | subst eo55 | (injection eo55 with f1_ f2_ f3_; have f4_ := f1_.symm; have f5_ := f3_.symm; clear f1_ f2_ f3_; subst f4_; subst f5_))
                    obtain ⟨Ao56, co56, eo56⟩ := Kd.R_slice HO571.out
                    (first | subst eo56 | (injection eo56 with f1_ f2_ f3_; have f4_ := f1_.symm; have f5_ := f3_.symm; clear f1_ f2_ f3_; subst f4_; subst f5_))
                    refine hK.out _ _ ⟨(bqC BK543.out 0).trans rfl, (bqC BK543.out 1).trans rfl, (bqC BK543.out 2).trans rfl, (bqC BK543.out 3).trans rfl⟩ (fun hHeld => ?_)
                    clear hK K
                    refine norm_ (a' := ?_) ?_ ?_
                    rotate_left
                    ·show Act.put _ (some 10) _ = _
                     simp only [Act.put, List.setIfInBounds_toArray, List.set_cons_zero, List.set_cons_succ, i64_w, i32_w]
                     rfl
                    refine one_ (i := 7) (N := some 75) #[true, true, true, true, true, true, true, true, false, false, false, true, false, false] rfl rfl (one_of HT_.out (by kernel_rfl)) (by decide) (fun K hK => ?_)
                    refine goes_ Try.func20 (by kernel_rfl) rfl #[.agg #[.string t562, .int .i64 t563, .slice Ao55 t564.length co55, .int .i64 t567], .slice Ao56 t569.length co56] (by rfl) rfl rfl (by (try simp only [List.map_toArray, List.map_cons, List.map_nil]); first | done | rfl | (simp only [List.length_drop, List.length_take]; rfl)) ?_
                    with_reducible refine (standing_Between.calls kj28 t562 t563 _ _ t564 t567 _ _ t569 t572 t573 t574 _ ?side1 ?side2 ?side3 ?side4 A48.out).mono ?_
                    (case side1 => repeat (first | exact (Kd.V_reads' HO566.out).2.2 | (with_reducible refine Kd.C_alloc ?_ _) | (with_reducible refine Kd.C_drewN ?_ _) | (with_reducible refine Kd.C_drew ?_)))
                    (case side2 => exact (Kd.V_reads' HO566.out).2.1)
                    (case side3 => repeat (first | exact (Kd.R_reads' HO571.out).2.2 | (with_reducible refine Kd.C_alloc ?_ _) | (with_reducible refine Kd.C_drewN ?_ _) | (with_reducible refine Kd.C_drew ?_)))
                    (case side4 => exact (Kd.R_reads' HO571.out).2.1)
                    rintro e w57 ⟨rfl, hb⟩
                    refine ⟨_, rfl, ?_⟩
                    have n0_ := Aside0.mk (Kd.R_below (GS.rR HO_38.out) hb)
                    have n1_ := Aside0.mk (Kd.V_below (by (with_reducible repeat (first | apply Kd.V_alloc | apply Kd.V_drewN | apply Kd.V_drew)); exact HO566.out) hb)
                    have n2_ := Aside0.mk (Kd.R_below (GS.rR HO571.out) hb)
                    have n3_ := Aside0.mk (bqB (GS.bqX BK543.out) hb)
                    have n4_ := Aside0.mk (bqB (GS.bqX BK559.out) hb)
                    have n5_ := Aside0.mk (bqB (GS.bqX BK561.out) hb)
                    have n6_ := Aside0.mk (bqB (GS.bqX BK575.out) hb)
                    have n7_ := Aside0.mk (lqT (GS.lB HB.out) hb)
                    clear HO_38
                    clear HO566
                    clear HO571
                    clear BK543
                    clear BK559
                    clear BK561
                    clear BK575
                    clear HB
                    have HO_38 := n0_
                    have HO566 := n1_
                    have HO571 := n2_
                    have BK543 := n3_
                    have BK559 := n4_
                    have BK561 := n5_
                    have BK575 := n6_
                    have HB := n7_
                    clear n0_ n1_ n2_ n3_ n4_ n5_ n6_ n7_
                    (try clear hb)
                    (try clear hb2)
                    (try clear hk)
                    (try clear hi)
                    refine hK.out _ _ ⟨(bqC BK543.out 0).trans rfl, (bqC BK543.out 1).trans rfl, (bqC BK543.out 2).trans rfl, (bqC BK543.out 3).trans rfl⟩ (fun hHeld => ?_)
                    clear hK K
                    refine norm_ (a' := ?_) ?_ ?_
                    rotate_left
                    ·show Act.put _ (some 75) _ = _
                     simp only [Act.put, List.setIfInBounds_toArray, List.set_cons_zero, List.set_cons_succ, i64_w, i32_w]
                     rfl
                    refine GS.pu 8 (some 67) HT_.out ?_
                    refine GS.pu 9 (some 76) HT_.out ?_
                    refine GS.pu 10 (some 77) HT_.out ?_
                    exact norm_ (by simp only [putAll, Act.put, List.setIfInBounds_toArray, List.set_cons_zero, List.set_cons_succ]) (hCont (.slice Ao55 t564.length co55, .slice Ao56 t569.length co56, gb575) _ ⟨hHeld, (by (with_reducible repeat (first | apply Kd.V_alloc | apply Kd.V_drewN | apply Kd.V_drew)); exact Kd.V_mono HO566.out (fun _ hk => by (repeat (cases ‹_ ∧ _›)); (repeat' apply And.intro) <;> assumption)), (GS.rR HO571.out), (GS.rR (Kd.R_mono HO_38.out (fun _ hk => by first | exact GS.cj hk | exact ⟨hk.1.1, hk.1.2, hk.2⟩ | exact ⟨hk.1.1, hk.1.2⟩ | exact ⟨⟨hk.1, hk.2.1⟩, hk.2.2⟩))), (GS.bqX BK543.out), (GS.bqX BK559.out), (GS.bqX BK561.out), (GS.bqX BK575.out), GW575.out, GE575.out, NB543_575.out, NB575_543.out, NB559_575.out, NB575_559.out, NB561_575.out, NB575_561.out, (GS.lB HB.out)⟩)
                  ·skip
                   refine box_step ?hg (N := 10) ?hd (cs := #[.int .i64 0, .int .i64 0]) (t := 40) ?hr ?_; (case hd => rfl); (case hg => rfl); (case hr => first | (go_simp; done) | (go_simp; rfl))
                   intro gb575 hg w53 hbox hb
                   have n0_ := Aside0.mk (Kd.R_below (Kd.R_elderB (GS.rR HO_38.out) gb575 (Nat.le_of_eq hg.symm)) hb)
                   have n1_ := Aside0.mk (Kd.V_below (Kd.V_elderB (by (with_reducible repeat (first | apply Kd.V_alloc | apply Kd.V_drewN | apply Kd.V_drew)); exact HO566.out) gb575 (Nat.le_of_eq hg.symm)) hb)
                   have n2_ := Aside0.mk (bqB (GS.bqX BK543.out) hb)
                   have n3_ := Aside0.mk (bqB (GS.bqX BK559.out) hb)
                   have n4_ := Aside0.mk (bqB (GS.bqX BK561.out) hb)
                   have n5_ := Aside0.mk (lqT (GS.lB HB.out) hb)
                   have n6_ := Aside0.mk (hbox)
                   have n7_ := Aside0.mk ((by rw [hg]; exact (lqZ (GS.lB HB.out)) : w.heap.size ≤ gb575))
                   have n8_ := Aside0.mk ((by rw [hg]; exact (lqZ (GS.lB HB.out)) : w.heap.size ≤ gb575))
                   have n9_ := Aside0.mk ((by rw [hg]; exact Nat.ne_of_lt (blk_lt (GS.bqX BK543.out)) : gb543 ≠ gb575))
                   have n10_ := Aside0.mk ((by rw [hg]; exact Nat.ne_of_gt (blk_lt (GS.bqX BK543.out)) : gb575 ≠ gb543))
                   have n11_ := Aside0.mk ((by rw [hg]; exact Nat.ne_of_lt (blk_lt (GS.bqX BK559.out)) : gb559 ≠ gb575))
                   have n12_ := Aside0.mk ((by rw [hg]; exact Nat.ne_of_gt (blk_lt (GS.bqX BK559.out)) : gb575 ≠ gb559))
                   have n13_ := Aside0.mk ((by rw [hg]; exact Nat.ne_of_lt (blk_lt (GS.bqX BK561.out)) : gb561 ≠ gb575))
                   have n14_ := Aside0.mk ((by rw [hg]; exact Nat.ne_of_gt (blk_lt (GS.bqX BK561.out)) : gb575 ≠ gb561))
                   clear HO_38
                   clear HO566
                   clear BK543
                   clear BK559
                   clear BK561
                   clear HB
                   have HO_38 := n0_
                   have HO566 := n1_
                   have BK543 := n2_
                   have BK559 := n3_
                   have BK561 := n4_
                   have HB := n5_
                   have BK575 := n6_
                   have GW575 := n7_
                   have GE575 := n8_
                   have NB543_575 := n9_
                   have NB575_543 := n10_
                   have NB559_575 := n11_
                   have NB575_559 := n12_
                   have NB561_575 := n13_
                   have NB575_561 := n14_
                   clear n0_ n1_ n2_ n3_ n4_ n5_ n6_ n7_ n8_ n9_ n10_ n11_ n12_ n13_ n14_
                   clear hb hbox hg
                   refine hK.out _ _ ⟨(bqC BK543.out 0).trans rfl, (bqC BK543.out 1).trans rfl, (bqC BK543.out 2).trans rfl, (bqC BK543.out 3).trans rfl⟩ (fun hHeld => ?_)
                   clear hK K
                   refine norm_ (a' := ?_) ?_ ?_
                   rotate_left
                   ·show Act.put _ (some 10) _ = _
                    simp only [Act.put, List.setIfInBounds_toArray, List.set_cons_zero, List.set_cons_succ, i64_w, i32_w]
                    rfl
                   refine one_ (i := 6) (N := some 74) #[true, true, true, true, true, true, true, false, false, false, false, true, false, false] rfl rfl (one_of HT_.out (by kernel_rfl)) (by decide) (fun K hK => ?_)
                   refine goes_ Try.func18 (by kernel_rfl) rfl #[.slice A1 (l1.take ((ji44) : Int).toNat).length c1] (by rfl) rfl rfl (by (try simp only [List.map_toArray, List.map_cons, List.map_nil]); first | done | (rw [show (l1.take ((ji44) : Int).toNat).length = (ji44).toNat from (by rw [List.length_take]; have h_ : ((ji44) : Int) ≤ (l1.length : Int) := of_decide_eq_true (by first | (with_reducible assumption) | assumption); omega)] <;> rfl) | (simp only [hji44]; rfl) | rfl | (simp only [List.length_drop, List.length_take]; rfl)) ?_
                   with_reducible refine (clone18.calls _ _ (l1.take ((ji44) : Int).toNat) t569 _ ?side1 ?side2 A47.out).mono ?_
                   (case side1 => exact GS.rC (Kd.C_below HR568.out HB.out))
                   (case side2 => exact HC568.out)
                   rintro e w54 ⟨v570, rfl, ho0, hb⟩
                   refine ⟨_, rfl, ?_⟩
                   have n0_ := Aside0.mk (Kd.R_below (GS.rR HO_38.out) hb)
                   have n1_ := Aside0.mk (Kd.V_elder' (by (with_reducible repeat (first | apply Kd.V_alloc | apply Kd.V_drewN | apply Kd.V_drew)); exact HO566.out) (Kd.R_base ho0) hb)
                   have n2_ := Aside0.mk (Kd.R_lower ho0 (lqZ (GS.lB HB.out)))
                   have n3_ := Aside0.mk (bqB (GS.bqX BK543.out) hb)
                   have n4_ := Aside0.mk (bqB (GS.bqX BK559.out) hb)
                   have n5_ := Aside0.mk (bqB (GS.bqX BK561.out) hb)
                   have n6_ := Aside0.mk (bqB (GS.bqX BK575.out) hb)
                   have n7_ := Aside0.mk (lqT (GS.lB HB.out) hb)
                   clear HO_38
                   clear HO566
                   clear BK543
                   clear BK559
                   clear BK561
                   clear BK575
                   clear HB
                   have HO_38 := n0_
                   have HO566 := n1_
                   have HO571 := n2_
                   have BK543 := n3_
                   have BK559 := n4_
                   have BK561 := n5_
                   have BK575 := n6_
                   have HB := n7_
                   clear n0_ n1_ n2_ n3_ n4_ n5_ n6_ n7_
                   (try clear hb)
                   (try clear hb2)
                   (try clear hk)
                   (try clear hi)
                   (try clear ho0)
                   obtain ⟨Ao55, co55, eo55⟩ := Kd.V_slice HO566.out
                   (first | subst eo55 | (injection eo55 with f1_ f2_ f3_; have f4_ := f1_.symm; have f5_ := f3_.symm; clear f1_ f2_ f3_; subst f4_; subst f5_))
                   obtain ⟨Ao56, co56, eo56⟩ := Kd.R_slice HO571.out
                   (first | subst eo56 | (injection eo56 with f1_ f2_ f3_; have f4_ := f1_.symm; have f5_ := f3_.symm; clear f1_ f2_ f3_; subst f4_; subst f5_))
                   refine hK.out _ _ ⟨(bqC BK543.out 0).trans rfl, (bqC BK543.out 1).trans rfl, (bqC BK543.out 2).trans rfl, (bqC BK543.out 3).trans rfl⟩ (fun hHeld => ?_)
                   clear hK K
                   refine norm_ (a' := ?_) ?_ ?_
                   rotate_left
                   ·show Act.put _ (some 74) _ = _
                    simp only [Act.put, List.setIfInBounds_toArray, List.set_cons_zero, List.set_cons_succ, i64_w, i32_w]
                    rfl
                   refine one_ (i := 7) (N := some 75) #[true, true, true, true, true, true, true, true, false, false, false, true, false, false] rfl rfl (one_of HT_.out (by kernel_rfl)) (by decide) (fun K hK => ?_)
                   refine goes_ Try.func20 (by kernel_rfl) rfl #[.agg #[.string t562, .int .i64 t563, .slice Ao55 t564.length co55, .int .i64 t567], .slice Ao56 t569.length co56] (by rfl) rfl rfl (by (try simp only [List.map_toArray, List.map_cons, List.map_nil]); first | done | rfl | (simp only [List.length_drop, List.length_take]; rfl)) ?_
                   with_reducible refine (standing_Between.calls kj28 t562 t563 _ _ t564 t567 _ _ t569 t572 t573 t574 _ ?side1 ?side2 ?side3 ?side4 A48.out).mono ?_
                   (case side1 => repeat (first | exact (Kd.V_reads' HO566.out).2.2 | (with_reducible refine Kd.C_alloc ?_ _) | (with_reducible refine Kd.C_drewN ?_ _) | (with_reducible refine Kd.C_drew ?_)))
                   (case side2 => exact (Kd.V_reads' HO566.out).2.1)
                   (case side3 => repeat (first | exact (Kd.R_reads' HO571.out).2.2 | (with_reducible refine Kd.C_alloc ?_ _) | (with_reducible refine Kd.C_drewN ?_ _) | (with_reducible refine Kd.C_drew ?_)))
                   (case side4 => exact (Kd.R_reads' HO571.out).2.1)
                   rintro e w57 ⟨rfl, hb⟩
                   refine ⟨_, rfl, ?_⟩
                   have n0_ := Aside0.mk (Kd.R_below (GS.rR HO_38.out) hb)
                   have n1_ := Aside0.mk (Kd.V_below (by (with_reducible repeat (first | apply Kd.V_alloc | apply Kd.V_drewN | apply Kd.V_drew)); exact HO566.out) hb)
                   have n2_ := Aside0.mk (Kd.R_below (GS.rR HO571.out) hb)
                   have n3_ := Aside0.mk (bqB (GS.bqX BK543.out) hb)
                   have n4_ := Aside0.mk (bqB (GS.bqX BK559.out) hb)
                   have n5_ := Aside0.mk (bqB (GS.bqX BK561.out) hb)
                   have n6_ := Aside0.mk (bqB (GS.bqX BK575.out) hb)
                   have n7_ := Aside0.mk (lqT (GS.lB HB.out) hb)
                   clear HO_38
                   clear HO566
                   clear HO571
                   clear BK543
                   clear BK559
                   clear BK561
                   clear BK575
                   clear HB
                   have HO_38 := n0_
                   have HO566 := n1_
                   have HO571 := n2_
                   have BK543 := n3_
                   have BK559 := n4_
                   have BK561 := n5_
                   have BK575 := n6_
                   have HB := n7_
                   clear n0_ n1_ n2_ n3_ n4_ n5_ n6_ n7_
                   (try clear hb)
                   (try clear hb2)
                   (try clear hk)
                   (try clear hi)
                   refine hK.out _ _ ⟨(bqC BK543.out 0).trans rfl, (bqC BK543.out 1).trans rfl, (bqC BK543.out 2).trans rfl, (bqC BK543.out 3).trans rfl⟩ (fun hHeld => ?_)
                   clear hK K
                   refine norm_ (a' := ?_) ?_ ?_
                   rotate_left
                   ·show Act.put _ (some 75) _ = _
                    simp only [Act.put, List.setIfInBounds_toArray, List.set_cons_zero, List.set_cons_succ, i64_w, i32_w]
                    rfl
                   refine GS.pu 8 (some 67) HT_.out ?_
                   refine GS.pu 9 (some 76) HT_.out ?_
                   refine GS.pu 10 (some 77) HT_.out ?_
                   exact norm_ (by simp only [putAll, Act.put, List.setIfInBounds_toArray, List.set_cons_zero, List.set_cons_succ]) (hCont (.slice Ao55 t564.length co55, .slice Ao56 t569.length co56, gb575) _ ⟨hHeld, (by (with_reducible repeat (first | apply Kd.V_alloc | apply Kd.V_drewN | apply Kd.V_drew)); exact Kd.V_mono HO566.out (fun _ hk => by (repeat (cases ‹_ ∧ _›)); (repeat' apply And.intro) <;> assumption)), (GS.rR HO571.out), (GS.rR (Kd.R_mono HO_38.out (fun _ hk => by first | exact GS.cj hk | exact ⟨hk.1.1, hk.1.2, hk.2⟩ | exact ⟨hk.1.1, hk.1.2⟩ | exact ⟨⟨hk.1, hk.2.1⟩, hk.2.2⟩))), (GS.bqX BK543.out), (GS.bqX BK559.out), (GS.bqX BK561.out), (GS.bqX BK575.out), GW575.out, GE575.out, NB543_575.out, NB575_543.out, NB559_575.out, NB575_559.out, NB561_575.out, NB575_561.out, (GS.lB HB.out)⟩)
                 ·skip
                  refine box_step ?hg (N := 10) ?hd (cs := #[.int .i64 0, .int .i64 0]) (t := 40) ?hr ?_; (case hd => rfl); (case hg => rfl); (case hr => first | (go_simp; done) | (go_simp; rfl))
                  intro gb575 hg w52 hbox hb
                  have n0_ := Aside0.mk (Kd.R_below (Kd.R_elderB (GS.rR HO_38.out) gb575 (Nat.le_of_eq hg.symm)) hb)
                  have n1_ := Aside0.mk (bqB (GS.bqX BK543.out) hb)
                  have n2_ := Aside0.mk (bqB (GS.bqX BK559.out) hb)
                  have n3_ := Aside0.mk (bqB (GS.bqX BK561.out) hb)
                  have n4_ := Aside0.mk (lqT (GS.lB HB.out) hb)
                  have n5_ := Aside0.mk (hbox)
                  have n6_ := Aside0.mk ((by rw [hg]; exact (lqZ (GS.lB HB.out)) : w.heap.size ≤ gb575))
                  have n7_ := Aside0.mk ((by rw [hg]; exact (lqZ (GS.lB HB.out)) : w.heap.size ≤ gb575))
                  have n8_ := Aside0.mk ((by rw [hg]; exact Nat.ne_of_lt (blk_lt (GS.bqX BK543.out)) : gb543 ≠ gb575))
                  have n9_ := Aside0.mk ((by rw [hg]; exact Nat.ne_of_gt (blk_lt (GS.bqX BK543.out)) : gb575 ≠ gb543))
                  have n10_ := Aside0.mk ((by rw [hg]; exact Nat.ne_of_lt (blk_lt (GS.bqX BK559.out)) : gb559 ≠ gb575))
                  have n11_ := Aside0.mk ((by rw [hg]; exact Nat.ne_of_gt (blk_lt (GS.bqX BK559.out)) : gb575 ≠ gb559))
                  have n12_ := Aside0.mk ((by rw [hg]; exact Nat.ne_of_lt (blk_lt (GS.bqX BK561.out)) : gb561 ≠ gb575))
                  have n13_ := Aside0.mk ((by rw [hg]; exact Nat.ne_of_gt (blk_lt (GS.bqX BK561.out)) : gb575 ≠ gb561))
                  clear HO_38
                  clear BK543
                  clear BK559
                  clear BK561
                  clear HB
                  have HO_38 := n0_
                  have BK543 := n1_
                  have BK559 := n2_
                  have BK561 := n3_
                  have HB := n4_
                  have BK575 := n5_
                  have GW575 := n6_
                  have GE575 := n7_
                  have NB543_575 := n8_
                  have NB575_543 := n9_
                  have NB559_575 := n10_
                  have NB575_559 := n11_
                  have NB561_575 := n12_
                  have NB575_561 := n13_
                  clear n0_ n1_ n2_ n3_ n4_ n5_ n6_ n7_ n8_ n9_ n10_ n11_ n12_ n13_
                  clear hb hbox hg
                  refine hK.out _ _ ⟨(bqC BK543.out 0).trans rfl, (bqC BK543.out 1).trans rfl, (bqC BK543.out 2).trans rfl, (bqC BK543.out 3).trans rfl⟩ (fun hHeld => ?_)
                  clear hK K
                  refine norm_ (a' := ?_) ?_ ?_
                  rotate_left
                  ·show Act.put _ (some 10) _ = _
                   simp only [Act.put, List.setIfInBounds_toArray, List.set_cons_zero, List.set_cons_succ, i64_w, i32_w]
                   rfl
                  refine one_ (i := 1) (N := some 69) #[true, true, true, true, true, true, false, false, false, false, false, true, false, false] rfl rfl (one_of HT_.out (by kernel_rfl)) (by decide) (fun K hK => ?_)
                  refine goes_ Try.func17 (by kernel_rfl) rfl #[.agg #[.string a0_0, .int .i64 a0_1, .slice A0_2 l0_2.length c0_2, .int .i64 a0_3]] (by rfl) rfl rfl (by (try simp only [List.map_toArray, List.map_cons, List.map_nil]); first | done | rfl | (simp only [List.length_drop, List.length_take]; rfl)) ?_
                  with_reducible refine (spilelaw12_own.calls kj28 a0_0 a0_1 (fun k_ => k_ < w.heap.size) _ _ l0_2 a0_3 t562 t563 t564 t567 _ ?side1 A43.out).mono ?_
                  (case side1 => exact Kd.V_mk HC0_2.out (Kd.F_below (Kd.C_F k33_heap HR0_2.out) (GS.lB HB.out)))
                  rintro e w53 ⟨v565, rfl, ho0, hb⟩
                  refine ⟨_, rfl, ?_⟩
                  have n0_ := Aside0.mk (Kd.R_below (GS.rR HO_38.out) hb)
                  have n1_ := Aside0.mk (Kd.V_lower (Kd.V_mono (ok' := fun k_ => some k_ ≠ (.slice (some ad560) t555.length co22 : Value).ownBlock ∧ k_ ≠ gb543 ∧ k_ ≠ gb559 ∧ k_ ≠ gb561 ∧ k_ ≠ gb575) ho0 (fun k_ hk_ => ⟨Or.elim hk_ (fun hs_ => fun e_ => Nat.not_le.2 hs_ (Kd.R_base HO_38.out k_ e_.symm)) (fun hn_ => (Kd.fresh' (Kd.R_lt (GS.rR HO_38.out)) k_ hn_)), Or.elim hk_ (fun hs_ => fun e_ => Nat.not_le.2 hs_ (by rw [e_]; exact GW543.out)) (fun hn_ => (Kd.freshB (GS.bqX BK543.out) k_ hn_)), Or.elim hk_ (fun hs_ => fun e_ => Nat.not_le.2 hs_ (by rw [e_]; exact GW559.out)) (fun hn_ => (Kd.freshB (GS.bqX BK559.out) k_ hn_)), Or.elim hk_ (fun hs_ => fun e_ => Nat.not_le.2 hs_ (by rw [e_]; exact GW561.out)) (fun hn_ => (Kd.freshB (GS.bqX BK561.out) k_ hn_)), Or.elim hk_ (fun hs_ => fun e_ => Nat.not_le.2 hs_ (by rw [e_]; exact GW575.out)) (fun hn_ => (Kd.freshB (GS.bqX BK575.out) k_ hn_))⟩)) (lqZ (GS.lB HB.out)))
                  have n2_ := Aside0.mk (bqB (GS.bqX BK543.out) hb)
                  have n3_ := Aside0.mk (bqB (GS.bqX BK559.out) hb)
                  have n4_ := Aside0.mk (bqB (GS.bqX BK561.out) hb)
                  have n5_ := Aside0.mk (bqB (GS.bqX BK575.out) hb)
                  have n6_ := Aside0.mk (lqT (GS.lB HB.out) hb)
                  clear HO_38
                  clear BK543
                  clear BK559
                  clear BK561
                  clear BK575
                  clear HB
                  have HO_38 := n0_
                  have HO566 := n1_
                  have BK543 := n2_
                  have BK559 := n3_
                  have BK561 := n4_
                  have BK575 := n5_
                  have HB := n6_
                  clear n0_ n1_ n2_ n3_ n4_ n5_ n6_
                  (try clear hb)
                  (try clear hb2)
                  (try clear hk)
                  (try clear hi)
                  (try clear ho0)
                  refine hK.out _ _ ⟨(bqC BK543.out 0).trans rfl, (bqC BK543.out 1).trans rfl, (bqC BK543.out 2).trans rfl, (bqC BK543.out 3).trans rfl⟩ (fun hHeld => ?_)
                  clear hK K
                  refine norm_ (a' := ?_) ?_ ?_
                  rotate_left
                  ·show Act.put _ (some 69) _ = _
                   simp only [Act.put, List.setIfInBounds_toArray, List.set_cons_zero, List.set_cons_succ, i64_w, i32_w]
                   rfl
                  refine one_ (i := 6) (N := some 74) #[true, true, true, true, true, true, true, false, false, false, false, true, false, false] rfl rfl (one_of HT_.out (by kernel_rfl)) (by decide) (fun K hK => ?_)
                  refine goes_ Try.func18 (by kernel_rfl) rfl #[.slice A1 (l1.take ((ji44) : Int).toNat).length c1] (by rfl) rfl rfl (by (try simp only [List.map_toArray, List.map_cons, List.map_nil]); first | done | (rw [show (l1.take ((ji44) : Int).toNat).length = (ji44).toNat from (by rw [List.length_take]; have h_ : ((ji44) : Int) ≤ (l1.length : Int) := of_decide_eq_true (by first | (with_reducible assumption) | assumption); omega)] <;> rfl) | (simp only [hji44]; rfl) | rfl | (simp only [List.length_drop, List.length_take]; rfl)) ?_
                  with_reducible refine (clone18.calls _ _ (l1.take ((ji44) : Int).toNat) t569 _ ?side1 ?side2 A47.out).mono ?_
                  (case side1 => exact GS.rC (Kd.C_below HR568.out HB.out))
                  (case side2 => exact HC568.out)
                  rintro e w54 ⟨v570, rfl, ho0, hb⟩
                  refine ⟨_, rfl, ?_⟩
                  have n0_ := Aside0.mk (Kd.R_below (GS.rR HO_38.out) hb)
                  have n1_ := Aside0.mk (Kd.V_elder' (by (with_reducible repeat (first | apply Kd.V_alloc | apply Kd.V_drewN | apply Kd.V_drew)); exact HO566.out) (Kd.R_base ho0) hb)
                  have n2_ := Aside0.mk (Kd.R_lower ho0 (lqZ (GS.lB HB.out)))
                  have n3_ := Aside0.mk (bqB (GS.bqX BK543.out) hb)
                  have n4_ := Aside0.mk (bqB (GS.bqX BK559.out) hb)
                  have n5_ := Aside0.mk (bqB (GS.bqX BK561.out) hb)
                  have n6_ := Aside0.mk (bqB (GS.bqX BK575.out) hb)
                  have n7_ := Aside0.mk (lqT (GS.lB HB.out) hb)
                  clear HO_38
                  clear HO566
                  clear BK543
                  clear BK559
                  clear BK561
                  clear BK575
                  clear HB
                  have HO_38 := n0_
                  have HO566 := n1_
                  have HO571 := n2_
                  have BK543 := n3_
                  have BK559 := n4_
                  have BK561 := n5_
                  have BK575 := n6_
                  have HB := n7_
                  clear n0_ n1_ n2_ n3_ n4_ n5_ n6_ n7_
                  (try clear hb)
                  (try clear hb2)
                  (try clear hk)
                  (try clear hi)
                  (try clear ho0)
                  obtain ⟨Ao55, co55, eo55⟩ := Kd.V_slice HO566.out
                  (first | subst eo55 | (injection eo55 with f1_ f2_ f3_; have f4_ := f1_.symm; have f5_ := f3_.symm; clear f1_ f2_ f3_; subst f4_; subst f5_))
                  obtain ⟨Ao56, co56, eo56⟩ := Kd.R_slice HO571.out
                  (first | subst eo56 | (injection eo56 with f1_ f2_ f3_; have f4_ := f1_.symm; have f5_ := f3_.symm; clear f1_ f2_ f3_; subst f4_; subst f5_))
                  refine hK.out _ _ ⟨(bqC BK543.out 0).trans rfl, (bqC BK543.out 1).trans rfl, (bqC BK543.out 2).trans rfl, (bqC BK543.out 3).trans rfl⟩ (fun hHeld => ?_)
                  clear hK K
                  refine norm_ (a' := ?_) ?_ ?_
                  rotate_left
                  ·show Act.put _ (some 74) _ = _
                   simp only [Act.put, List.setIfInBounds_toArray, List.set_cons_zero, List.set_cons_succ, i64_w, i32_w]
                   rfl
                  refine one_ (i := 7) (N := some 75) #[true, true, true, true, true, true, true, true, false, false, false, true, false, false] rfl rfl (one_of HT_.out (by kernel_rfl)) (by decide) (fun K hK => ?_)
                  refine goes_ Try.func20 (by kernel_rfl) rfl #[.agg #[.string t562, .int .i64 t563, .slice Ao55 t564.length co55, .int .i64 t567], .slice Ao56 t569.length co56] (by rfl) rfl rfl (by (try simp only [List.map_toArray, List.map_cons, List.map_nil]); first | done | rfl | (simp only [List.length_drop, List.length_take]; rfl)) ?_
                  with_reducible refine (standing_Between.calls kj28 t562 t563 _ _ t564 t567 _ _ t569 t572 t573 t574 _ ?side1 ?side2 ?side3 ?side4 A48.out).mono ?_
                  (case side1 => repeat (first | exact (Kd.V_reads' HO566.out).2.2 | (with_reducible refine Kd.C_alloc ?_ _) | (with_reducible refine Kd.C_drewN ?_ _) | (with_reducible refine Kd.C_drew ?_)))
                  (case side2 => exact (Kd.V_reads' HO566.out).2.1)
                  (case side3 => repeat (first | exact (Kd.R_reads' HO571.out).2.2 | (with_reducible refine Kd.C_alloc ?_ _) | (with_reducible refine Kd.C_drewN ?_ _) | (with_reducible refine Kd.C_drew ?_)))
                  (case side4 => exact (Kd.R_reads' HO571.out).2.1)
                  rintro e w57 ⟨rfl, hb⟩
                  refine ⟨_, rfl, ?_⟩
                  have n0_ := Aside0.mk (Kd.R_below (GS.rR HO_38.out) hb)
                  have n1_ := Aside0.mk (Kd.V_below (by (with_reducible repeat (first | apply Kd.V_alloc | apply Kd.V_drewN | apply Kd.V_drew)); exact HO566.out) hb)
                  have n2_ := Aside0.mk (Kd.R_below (GS.rR HO571.out) hb)
                  have n3_ := Aside0.mk (bqB (GS.bqX BK543.out) hb)
                  have n4_ := Aside0.mk (bqB (GS.bqX BK559.out) hb)
                  have n5_ := Aside0.mk (bqB (GS.bqX BK561.out) hb)
                  have n6_ := Aside0.mk (bqB (GS.bqX BK575.out) hb)
                  have n7_ := Aside0.mk (lqT (GS.lB HB.out) hb)
                  clear HO_38
                  clear HO566
                  clear HO571
                  clear BK543
                  clear BK559
                  clear BK561
                  clear BK575
                  clear HB
                  have HO_38 := n0_
                  have HO566 := n1_
                  have HO571 := n2_
                  have BK543 := n3_
                  have BK559 := n4_
                  have BK561 := n5_
                  have BK575 := n6_
                  have HB := n7_
                  clear n0_ n1_ n2_ n3_ n4_ n5_ n6_ n7_
                  (try clear hb)
                  (try clear hb2)
                  (try clear hk)
                  (try clear hi)
                  refine hK.out _ _ ⟨(bqC BK543.out 0).trans rfl, (bqC BK543.out 1).trans rfl, (bqC BK543.out 2).trans rfl, (bqC BK543.out 3).trans rfl⟩ (fun hHeld => ?_)
                  clear hK K
                  refine norm_ (a' := ?_) ?_ ?_
                  rotate_left
                  ·show Act.put _ (some 75) _ = _
                   simp only [Act.put, List.setIfInBounds_toArray, List.set_cons_zero, List.set_cons_succ, i64_w, i32_w]
                   rfl
                  refine GS.pu 8 (some 67) HT_.out ?_
                  refine GS.pu 9 (some 76) HT_.out ?_
                  refine GS.pu 10 (some 77) HT_.out ?_
                  exact norm_ (by simp only [putAll, Act.put, List.setIfInBounds_toArray, List.set_cons_zero, List.set_cons_succ]) (hCont (.slice Ao55 t564.length co55, .slice Ao56 t569.length co56, gb575) _ ⟨hHeld, (by (with_reducible repeat (first | apply Kd.V_alloc | apply Kd.V_drewN | apply Kd.V_drew)); exact Kd.V_mono HO566.out (fun _ hk => by (repeat (cases ‹_ ∧ _›)); (repeat' apply And.intro) <;> assumption)), (GS.rR HO571.out), (GS.rR (Kd.R_mono HO_38.out (fun _ hk => by first | exact GS.cj hk | exact ⟨hk.1.1, hk.1.2, hk.2⟩ | exact ⟨hk.1.1, hk.1.2⟩ | exact ⟨⟨hk.1, hk.2.1⟩, hk.2.2⟩))), (GS.bqX BK543.out), (GS.bqX BK559.out), (GS.bqX BK561.out), (GS.bqX BK575.out), GW575.out, GE575.out, NB543_575.out, NB575_543.out, NB559_575.out, NB575_559.out, NB561_575.out, NB575_561.out, (GS.lB HB.out)⟩)
                rintro ⟨v565, v570, gb575⟩ w58 ⟨hS_, h0_, h1_, h2_, h3_, h4_, h5_, h6_, h7_, h8_, h9_, h10_, h11_, h12_, h13_, h14_, h15_⟩
                have n0_ : Aside0 (Kd.V k33 33 w58 w.heap.size (fun k_ => some k_ ≠ (v570 : Value).ownBlock ∧ some k_ ≠ (.slice (some ad560) t555.length co22 : Value).ownBlock ∧ k_ ≠ gb543 ∧ k_ ≠ gb559 ∧ k_ ≠ gb561 ∧ k_ ≠ gb575) v565 t564) := ⟨h0_⟩
                have n1_ : Aside0 (Kd.R (Kd.int .i64) 3 w58 w.heap.size (fun _ => True) v570 t569) := ⟨h1_⟩
                have n2_ : Aside0 (Kd.R k40 40 w58 w.heap.size (fun k_ => k_ ≠ gb559 ∧ k_ ≠ gb561 ∧ k_ ≠ gb575) (.slice (some ad560) t555.length co22) t555) := ⟨h2_⟩
                have n3_ : Aside0 (w58.heap[gb543]? = some (.cells #[.string a0_0, .int .i64 a0_1, .slice A0_2 l0_2.length c0_2, .int .i64 a0_3] 24 (0, 0))) := ⟨h3_⟩
                have n4_ : Aside0 (w58.heap[gb559]? = some (.cells #[.int .i64 x560000_1, .int .i64 x560001_1] 40 (0, 0))) := ⟨h4_⟩
                have n5_ : Aside0 (w58.heap[gb561]? = some (.cells #[.int .i64 ((rd_T40 t555 x40_1).f0), .int .i64 ((rd_T40 t555 x40_1).f1)] 40 (0, 0))) := ⟨h5_⟩
                have n6_ : Aside0 (w58.heap[gb575]? = some (.cells #[.int .i64 0, .int .i64 0] 40 (0, 0))) := ⟨h6_⟩
                have n7_ : Aside0 (w.heap.size ≤ gb575) := ⟨h7_⟩
                have n8_ : Aside0 (w.heap.size ≤ gb575) := ⟨h8_⟩
                have n9_ : Aside0 (gb543 ≠ gb575) := ⟨h9_⟩
                have n10_ : Aside0 (gb575 ≠ gb543) := ⟨h10_⟩
                have n11_ : Aside0 (gb559 ≠ gb575) := ⟨h11_⟩
                have n12_ : Aside0 (gb575 ≠ gb559) := ⟨h12_⟩
                have n13_ : Aside0 (gb561 ≠ gb575) := ⟨h13_⟩
                have n14_ : Aside0 (gb575 ≠ gb561) := ⟨h14_⟩
                have n15_ : Aside0 (Below w.heap.size w w58) := ⟨h15_⟩
                clear HO_38
                clear BK543
                clear BK559
                clear BK561
                clear HB
                clear h0_ h1_ h2_ h3_ h4_ h5_ h6_ h7_ h8_ h9_ h10_ h11_ h12_ h13_ h14_ h15_
                have HO566 := n0_
                have HO571 := n1_
                have HO_38 := n2_
                have BK543 := n3_
                have BK559 := n4_
                have BK561 := n5_
                have BK575 := n6_
                have GW575 := n7_
                have GE575 := n8_
                have NB543_575 := n9_
                have NB575_543 := n10_
                have NB559_575 := n11_
                have NB575_559 := n12_
                have NB561_575 := n13_
                have NB575_561 := n14_
                have HB := n15_
                clear n0_ n1_ n2_ n3_ n4_ n5_ n6_ n7_ n8_ n9_ n10_ n11_ n12_ n13_ n14_ n15_
                have hHeld : w58.cell? ⟨gb543, 0, none⟩ = some (.string a0_0) ∧ w58.cell? ⟨gb543, 1, none⟩ = some (.int .i64 a0_1) ∧ w58.cell? ⟨gb543, 2, none⟩ = some (.slice A0_2 l0_2.length c0_2) ∧ w58.cell? ⟨gb543, 3, none⟩ = some (.int .i64 a0_3) := hS_
                refine norm_ (a' := ?_) ?_ ?_
                rotate_left
                ·simp only [putAll, Act.put, List.setIfInBounds_toArray, List.set_cons_zero, List.set_cons_succ]
                 rfl
                refine one_ (i := 12) (N := none) #[true, true, true, true, true, true, true, true, true, true, true, true, true, false] rfl rfl (one_of HT_.out (by kernel_rfl)) (by decide) (fun K hK => ?_)
                have hs59 : w58.cell? ⟨gb575, 0, none⟩ = some (.int .i64 0) := (bqC BK575.out 0).trans rfl
                have hfs59 := bqF BK575.out 0
                have hns59_0 := NB543_575.out
                have hns59_1 := NB559_575.out
                have hns59_2 := NB561_575.out
                have hms59_0 := NB575_543.out
                have hms59_1 := NB575_559.out
                have hms59_2 := NB575_561.out
                have hs60 : w58.cell? ⟨gb575, 1, none⟩ = some (.int .i64 0) := (bqC BK575.out 1).trans rfl
                have hfs60 := bqF BK575.out 1
                have hns60_0 := NB543_575.out
                have hns60_1 := NB559_575.out
                have hns60_2 := NB561_575.out
                have hms60_0 := NB575_543.out
                have hms60_1 := NB575_559.out
                have hms60_2 := NB575_561.out
                refine skip_ (w1 := ?_) (by rfl) rfl ?_ ?_
                rotate_left
                ·go_simp
                 rfl
                refine hK.out _ _ ⟨(GS.cf hHeld.1), (GS.cf hHeld.2.1), (GS.cf hHeld.2.2.1), (GS.cf hHeld.2.2.2)⟩ (fun hHeld => ?_)
                clear hK K
                refine GS.pu 13 (some 11) HT_.out ?_
                refine done_ (done_of HT_.out (by kernel_rfl)) ?_
                go_upto_region 18 with (fail)
                go_cut [104] (fun v104 wc => ∃ (kq : Nat) (x104_48 : Bool), v104 = .bool x104_48 ∧ Aside0 (spilelaw12_StandingRises.j2 kq l1 t555 (t555.length : Int) x40_1 x104_48 a0_0 a0_1 l0_2 a0_3 ((rd_T40 t555 x40_1).f0) ((rd_T40 t555 x40_1).f1) = some r) ∧ Aside0 (kq ≤ kj28) ∧ Aside0 (Kd.R k40 40 wc w.heap.size (fun k_ => k_ ≠ gb559 ∧ k_ ≠ gb561 ∧ k_ ≠ gb575) (.slice (some ad560) t555.length co22) t555) ∧ Aside0 (wc.heap[gb543]? = some (.cells #[.string a0_0, .int .i64 a0_1, (.slice A0_2 l0_2.length c0_2), .int .i64 a0_3] 24 (0, 0))) ∧ Aside0 (wc.heap[gb559]? = some (.cells #[.int .i64 x560000_1, .int .i64 x560001_1] 40 (0, 0))) ∧ Aside0 (wc.heap[gb561]? = some (.cells #[.int .i64 ((rd_T40 t555 x40_1).f0), .int .i64 ((rd_T40 t555 x40_1).f1)] 40 (0, 0))) ∧ Aside0 (wc.heap[gb575]? = some (.cells #[.int .i64 t572, .int .i64 t573] 40 (0, 0))) ∧ Aside0 (Below w.heap.size w wc))
                case first =>
                 have H := HC49.out
                 clear HC49
                 by_cases c61 : t574 = 0
                 ·rw [if_pos c61] at H
                  have c61b0 : (t574 == 0) = true := beq_iff_eq.mpr c61
                  try simp only [beq_self_eq_true, Bool.not_true, Bool.false_or, Bool.true_and] at c61b0
                  have c61b1 : (t574 != 0) = false := bne_eq_false_iff_eq.mpr c61
                  clear c61
                  (first | rw [c61b0] | (simp only [i64_w, i32_w]; rw [c61b0]) | skip)
                  by_cases c62 : t572 > t573
                  ·rw [if_pos c62] at H
                   exact absurd H (by simp)
                  ·rw [if_neg c62] at H
                   have c62b0 : decide (t573 < t572) = false := decide_eq_false c62
                   clear c62
                   by_cases c63 : (wrap64 (318 * t572)) > (wrap64 (333 * ((rd_T40 t555 x40_1).f0)))
                   ·rw [if_pos c63] at H
                    exact absurd H (by simp)
                   ·rw [if_neg c63] at H
                    have c63b0 : decide ((wrap64 (333 * ((rd_T40 t555 x40_1).f0))) < (wrap64 (318 * t572))) = false := decide_eq_false c63
                    clear c63
                    have H' := Aside0.mk H
                    clear H
                    have hnb64 := NB575_543.out
                    have hnc64 := NB543_575.out
                    have hnb65 := NB575_559.out
                    have hnc65 := NB559_575.out
                    have hnb66 := NB575_561.out
                    have hnc66 := NB561_575.out
                    obtain ⟨hcz67_0, hcz67_1, hfz67_0, hfz67_1⟩ := GS.c2 BK575.out
                    have hnb68 := NB561_543.out
                    have hnc68 := NB543_561.out
                    have hnb69 := NB561_559.out
                    have hnc69 := NB559_561.out
                    obtain ⟨hcz70_0, hcz70_1, hfz70_0, hfz70_1⟩ := GS.c2 BK561.out
                    go_wp2
                    go_meet
                    case rel => exact ⟨_, (decide ((wrap64 (339 * t573)) < (wrap64 (355 * ((rd_T40 t555 x40_1).f1))))), (by first | rfl | (simp; done) | (simp [*]; done)), H', ⟨by have := HK1.out; have := HJ28.out; first | omega | exact Nat.le_refl _⟩, ⟨by (with_reducible repeat (first | apply Kd.R_alloc | apply Kd.R_drewN | apply Kd.R_drew)); exact Kd.R_mono (Kd.R_far (p := ⟨gb575, 1, none⟩) (Kd.R_far (p := ⟨gb575, 0, none⟩) (Kd.R_mono HO_38.out (fun k_ hk => (⟨hk, GS.cj hk⟩ : _ ∧ k_ ≠ gb575))) (fun _ hk => hk.2) (.int .i64 t572)) (fun _ hk => hk.2) (.int .i64 t573)) (fun _ hk => GS.cj hk)⟩, ⟨GS.bqX BK543.out⟩, ⟨GS.bqX BK559.out⟩, ⟨GS.bqX BK561.out⟩, ⟨GS.bqZ BK575.out⟩, ⟨GS.lB HB.out⟩⟩
                 ·rw [if_neg c61] at H
                  exact absurd H (by simp)
                case rest =>
                 clear HC49
                 try clear c1
                 try clear c2
                 try clear p2
                 try clear c6
                 try clear p6
                 try clear c17
                 try clear c18
                 try clear c20
                 try clear c61
                 try clear c61b0
                 try clear c61b1
                 try clear c62
                 try clear c62b0
                 try clear c63
                 try clear c63b0
                 try clear c64
                 try clear p64
                 try clear c65
                 try clear c66
                 try clear c68
                 try clear c69
                 try clear hcz67_0
                 try clear hcz67_1
                 try clear hcz70_0
                 try clear hcz70_1
                 try clear hfz67_0
                 try clear hfz67_1
                 try clear hfz70_0
                 try clear hfz70_1
                 obtain ⟨kq, x104_48, rfl, HA, HJ48, HO_38, BK543, BK559, BK561, BK575, HB⟩ := hcut
                 cases kq with
                 | zero => exact absurd HA.out (by simp [spilelaw12_StandingRises.j2])
                 | succ kj48 =>
                  have H := HA.out
                  clear HA
                  simp only [spilelaw12_StandingRises.j2] at H
                  by_cases c71 : x104_48 = true
                  ·subst c71
                   have H1 : (none) = some r := by rw [if_pos rfl] at H; exact H
                   clear H
                   have H := H1
                   clear H1
                   exact absurd H (by simp)
                  ·replace c71 := Bool.eq_false_iff.mpr c71
                   subst c71
                   have H1 : (spilelaw12_StandingRises.l0 kj48 l1 t555 (t555.length : Int) (wrap64 (x40_1 + 1)) a0_0 a0_1 l0_2 a0_3 ((rd_T40 t555 x40_1).f0) ((rd_T40 t555 x40_1).f1)) = some r := by rw [if_neg (show ¬ (false = true) by decide)] at H; exact H
                   clear H
                   have H := H1
                   clear H1
                   have H' := Aside0.mk H
                   clear H
                   have hnb72 := NB561_543.out
                   have hnc72 := NB543_561.out
                   have hnb73 := NB561_559.out
                   have hnc73 := NB559_561.out
                   have hnb74 := NB561_575.out
                   have hnc74 := NB575_561.out
                   obtain ⟨hcz75_0, hcz75_1, hfz75_0, hfz75_1⟩ := GS.c2 BK561.out
                   have hnb76 := NB559_543.out
                   have hnc76 := NB543_559.out
                   have hnb77 := NB559_575.out
                   have hnc77 := NB575_559.out
                   obtain ⟨hcz78_0, hcz78_1, hfz78_0, hfz78_1⟩ := GS.c2 BK559.out
                   go_wp2
                   go_roundg kj48
                   case measure => have := HK1.out; have := HJ28.out; have := HJ48.out; omega
                   case rel => exact ⟨(wrap64 (x40_1 + 1)), (((rd_T40 t555 x40_1).f0)), (((rd_T40 t555 x40_1).f1)), (by first | rfl | (simp; done) | (simp [*]; done)), H', ⟨by have := HK1.out; have := HJ28.out; have := HJ48.out; omega⟩, ⟨by (with_reducible repeat (first | apply Kd.R_alloc | apply Kd.R_drewN | apply Kd.R_drew)); exact Kd.R_mono (Kd.R_far (p := ⟨gb559, 1, none⟩) (Kd.R_far (p := ⟨gb559, 0, none⟩) (Kd.R_mono HO_38.out (fun k_ hk => (⟨hk, GS.cj hk⟩ : _ ∧ k_ ≠ gb559))) (fun _ hk => hk.2) (.int .i64 ((rd_T40 t555 x40_1).f0))) (fun _ hk => hk.2) (.int .i64 ((rd_T40 t555 x40_1).f1))) (fun _ hk => GS.cj hk)⟩, ⟨GS.bqX BK543.out⟩, ⟨GS.bqZ BK559.out⟩, ⟨GS.lB HB.out⟩⟩
               ·rw [if_neg c46] at H
                exact absurd H (by simp)
              ·rw [if_neg c45] at H
               exact absurd H (by simp)
             ·rw [if_neg c42] at H
              have c42b0 : ((Int.tmod x40_1 8) == 0) = false := beq_eq_false_iff_ne.mpr c42
              try simp only [beq_self_eq_true, Bool.not_true, Bool.false_or, Bool.true_and] at c42b0
              have c42b1 : ((Int.tmod x40_1 8) != 0) = true := bne_iff_ne.mpr c42
              have H' := Aside0.mk H
              clear H
              have hnb79 := NB561_543.out
              have hnc79 := NB543_561.out
              have hnb80 := NB561_559.out
              have hnc80 := NB559_561.out
              obtain ⟨hcz81_0, hcz81_1, hfz81_0, hfz81_1⟩ := GS.c2 BK561.out
              have hnb82 := NB559_543.out
              have hnc82 := NB543_559.out
              obtain ⟨hcz83_0, hcz83_1, hfz83_0, hfz83_1⟩ := GS.c2 BK559.out
              go_wp2
              go_roundg kj28
              case measure => have := HK1.out; have := HJ28.out; omega
              case rel => exact ⟨(wrap64 (x40_1 + 1)), (((rd_T40 t555 x40_1).f0)), (((rd_T40 t555 x40_1).f1)), (by first | rfl | (simp; done) | (simp [*]; done)), H', ⟨by have := HK1.out; have := HJ28.out; omega⟩, ⟨by (with_reducible repeat (first | apply Kd.R_alloc | apply Kd.R_drewN | apply Kd.R_drew)); exact Kd.R_mono (Kd.R_far (p := ⟨gb559, 1, none⟩) (Kd.R_far (p := ⟨gb559, 0, none⟩) (Kd.R_mono HO_38.out (fun k_ hk => (⟨hk, GS.cj hk⟩ : _ ∧ k_ ≠ gb559))) (fun _ hk => hk.2) (.int .i64 ((rd_T40 t555 x40_1).f0))) (fun _ hk => hk.2) (.int .i64 ((rd_T40 t555 x40_1).f1))) (fun _ hk => GS.cj hk)⟩, ⟨GS.bqX BK543.out⟩, ⟨GS.bqZ BK559.out⟩, ⟨GS.lB HB.out⟩⟩
         ·rw [if_neg c28] at H
          exact absurd H (by simp)
        ·rw [if_neg c27] at H
         exact absurd H (by simp)
       ·rw [if_neg c26] at H
        have c26b0 : decide (x40_1 < (t555.length : Int)) = false := decide_eq_false c26
        clear c26
        obtain rfl := Option.some.inj H
        go_wp2
        go_ret
        exact ⟨by first | rfl | (simp [errW_none, errW_some] <;> rfl) | (simp [*, errW_none, errW_some] <;> rfl), GS.lB HB.out⟩
    ·rw [if_neg c11] at H
     exact absurd H (by simp)
   ·rw [if_neg c10] at H
    have c10b0 : (t558 == 0) = false := beq_eq_false_iff_ne.mpr c10
    try simp only [beq_self_eq_true, Bool.not_true, Bool.false_or, Bool.true_and] at c10b0
    have c10b1 : (t558 != 0) = true := bne_iff_ne.mpr c10
    obtain rfl := Option.some.inj H
    go_enter Try.func6, Try.ntmps6
    go_wp2_with (first | ((with_reducible refine gqD (N := 2) rfl ?_); refine GS.bx (N := 2) (cs := #[.string a0_0, .int .i64 a0_1, .slice A0_2 l0_2.length c0_2, .int .i64 a0_3]) (t := 24) ?_; intro gb543 hg w84 hbox hb; have n0_ := Aside0.mk (lqT (GS.lB HB.out) hb); have n1_ := Aside0.mk (hbox); have n2_ := Aside0.mk ((by rw [hg]; exact (lqZ (GS.lB HB.out)) : w.heap.size ≤ gb543)); have n3_ := Aside0.mk ((by rw [hg]; exact (lqZ (GS.lB HB.out)) : w.heap.size ≤ gb543)); clear HB; have HB := n0_; have BK543 := n1_; have GW543 := n2_; have GE543 := n3_; clear n0_ n1_ n2_ n3_; clear hb hbox hg) | ((with_reducible refine gqC (f := 10) rfl ?_); refine GS.gL (some 12) Try.func10 #[] ?_; (with_reducible refine (spilelaw12_awake.calls k  true _ A3.out).mono ?_); rintro e w85 ⟨rfl, hb⟩; refine ⟨_, rfl, ?_⟩; have n0_ := Aside0.mk (bqB (GS.bqX BK543.out) hb); have n1_ := Aside0.mk (lqT (GS.lB HB.out) hb); clear BK543; clear HB; have BK543 := n0_; have HB := n1_; clear n0_ n1_; (try clear hb); (try clear hb2); (try clear hk); (try clear hi); obtain ⟨hcz86_0, hcz86_1, hcz86_2, hcz86_3, hfz86_0, hfz86_1, hfz86_2, hfz86_3⟩ := GS.c4 BK543.out) | ((with_reducible refine gqC (f := 11) rfl ?_); refine GS.gL (some 16) Try.func11 #[.agg #[.string a0_0, .int .i64 a0_1, .slice A0_2 l0_2.length c0_2, .int .i64 a0_3], .slice A1 l1.length c1] ?_; (with_reducible refine (spilelaw12_few.calls k a0_0 a0_1 (fun k_ => k_ < w.heap.size) _ _ l0_2 a0_3 _ _ l1 true _ ?side1 ?side2 ?side3 A5.out).mono ?_); (case side1 => exact Kd.V_mk HC0_2.out (Kd.F_below (Kd.C_F k33_heap HR0_2.out) (GS.lB HB.out))); (case side2 => exact GS.rC (Kd.C_below HR1.out HB.out)); (case side3 => exact HC1.out); rintro e w87 ⟨rfl, hb⟩; refine ⟨_, rfl, ?_⟩; have n0_ := Aside0.mk (bqB (GS.bqX BK543.out) hb); have n1_ := Aside0.mk (lqT (GS.lB HB.out) hb); clear BK543; clear HB; have BK543 := n0_; have HB := n1_; clear n0_ n1_; (try clear hb); (try clear hb2); (try clear hk); (try clear hi); obtain ⟨hcz88_0, hcz88_1, hcz88_2, hcz88_3, hfz88_0, hfz88_1, hfz88_2, hfz88_3⟩ := GS.c4 BK543.out) | ((with_reducible refine gqC (f := 17) rfl ?_); refine GS.gL (some 20) Try.func17 #[.agg #[.string a0_0, .int .i64 a0_1, .slice A0_2 l0_2.length c0_2, .int .i64 a0_3]] ?_; (with_reducible refine (spilelaw12_own.calls k a0_0 a0_1 (fun k_ => k_ < w.heap.size) _ _ l0_2 a0_3 t546 t547 t548 t551 _ ?side1 A7.out).mono ?_); (case side1 => exact Kd.V_mk HC0_2.out (Kd.F_below (Kd.C_F k33_heap HR0_2.out) (GS.lB HB.out))); rintro e w89 ⟨v549, rfl, ho0, hb⟩; refine ⟨_, rfl, ?_⟩; have n0_ := Aside0.mk (Kd.V_lower (Kd.V_mono (ok' := fun k_ => k_ ≠ gb543) ho0 (fun k_ hk_ => Or.elim hk_ (fun hs_ => fun e_ => Nat.not_le.2 hs_ (by rw [e_]; exact GW543.out)) (fun hn_ => (Kd.freshB (GS.bqX BK543.out) k_ hn_)))) (lqZ (GS.lB HB.out))); have n1_ := Aside0.mk (bqB (GS.bqX BK543.out) hb); have n2_ := Aside0.mk (lqT (GS.lB HB.out) hb); clear BK543; clear HB; have HO550 := n0_; have BK543 := n1_; have HB := n2_; clear n0_ n1_ n2_; (try clear hb); (try clear hb2); (try clear hk); (try clear hi); (try clear ho0)) | ((with_reducible refine gqC (f := 18) rfl ?_); refine GS.gL (some 22) Try.func18 #[.slice A1 l1.length c1] ?_; (with_reducible refine (clone18.calls _ _ l1 t552 _ ?side1 ?side2 A8.out).mono ?_); (case side1 => exact GS.rC (Kd.C_below HR1.out HB.out)); (case side2 => exact HC1.out); rintro e w90 ⟨v553, rfl, ho0, hb⟩; refine ⟨_, rfl, ?_⟩; have n0_ := Aside0.mk (Kd.V_elder' (by (with_reducible repeat (first | apply Kd.V_alloc | apply Kd.V_drewN | apply Kd.V_drew)); exact HO550.out) (Kd.R_base ho0) hb); have n1_ := Aside0.mk (Kd.R_lower ho0 (lqZ (GS.lB HB.out))); have n2_ := Aside0.mk (bqB (GS.bqX BK543.out) hb); have n3_ := Aside0.mk (lqT (GS.lB HB.out) hb); clear HO550; clear BK543; clear HB; have HO550 := n0_; have HO554 := n1_; have BK543 := n2_; have HB := n3_; clear n0_ n1_ n2_ n3_; (try clear hb); (try clear hb2); (try clear hk); (try clear hi); (try clear ho0); obtain ⟨Ao91, co91, eo91⟩ := Kd.V_slice HO550.out; subst eo91; obtain ⟨Ao92, co92, eo92⟩ := Kd.R_slice HO554.out; subst eo92) | ((with_reducible refine gqC (f := 22) rfl ?_); refine GS.gL (some 23) Try.func22 #[.agg #[.string t546, .int .i64 t547, .slice Ao91 t548.length co91, .int .i64 t551], .slice Ao92 t552.length co92] ?_; (with_reducible refine (standing_Sums.calls k t546 t547 _ _ t548 t551 _ _ t552 t555 t558 _ ?side1 ?side2 ?side3 ?side4 A9.out).mono ?_); (case side1 => repeat (first | exact (Kd.V_reads' HO550.out).2.2 | (with_reducible refine Kd.C_alloc ?_ _) | (with_reducible refine Kd.C_drewN ?_ _) | (with_reducible refine Kd.C_drew ?_))); (case side2 => exact (Kd.V_reads' HO550.out).2.1); (case side3 => repeat (first | exact (Kd.R_reads' HO554.out).2.2 | (with_reducible refine Kd.C_alloc ?_ _) | (with_reducible refine Kd.C_drewN ?_ _) | (with_reducible refine Kd.C_drew ?_))); (case side4 => exact (Kd.R_reads' HO554.out).2.1); rintro e w93 ⟨v556, rfl, ho0, hb⟩; refine ⟨_, rfl, ?_⟩; have n0_ := Aside0.mk (Kd.V_elder' (by (with_reducible repeat (first | apply Kd.V_alloc | apply Kd.V_drewN | apply Kd.V_drew)); exact HO550.out) (Kd.R_base ho0) hb); have n1_ := Aside0.mk (Kd.R_below (GS.rR HO554.out) hb); have n2_ := Aside0.mk (Kd.R_lower ho0 (lqZ (GS.lB HB.out))); have n3_ := Aside0.mk (bqB (GS.bqX BK543.out) hb); have n4_ := Aside0.mk (lqT (GS.lB HB.out) hb); clear HO550; clear HO554; clear BK543; clear HB; have HO550 := n0_; have HO554 := n1_; have HO557 := n2_; have BK543 := n3_; have HB := n4_; clear n0_ n1_ n2_ n3_ n4_; (try clear hb); (try clear hb2); (try clear hk); (try clear hi); (try clear ho0); obtain ⟨Ao94, co94, eo94⟩ := Kd.R_slice HO557.out; subst eo94))
    go_ret
    exact ⟨by first | rfl | (simp [errW_none, errW_some] <;> rfl) | (simp [*, errW_none, errW_some] <;> rfl), GS.lB HB.out⟩
  ·replace c6 := Bool.eq_false_iff.mpr c6
   subst c6
   have H1 : (some true) = some r := by rw [if_neg (show ¬ (false = true) by decide)] at H; exact H
   clear H
   have H := H1
   clear H1
   obtain rfl := Option.some.inj H
   go_enter Try.func6, Try.ntmps6
   go_wp2_with (first | ((with_reducible refine gqD (N := 2) rfl ?_); refine GS.bx (N := 2) (cs := #[.string a0_0, .int .i64 a0_1, .slice A0_2 l0_2.length c0_2, .int .i64 a0_3]) (t := 24) ?_; intro gb543 hg w95 hbox hb; have n0_ := Aside0.mk (lqT (GS.lB HB.out) hb); have n1_ := Aside0.mk (hbox); have n2_ := Aside0.mk ((by rw [hg]; exact (lqZ (GS.lB HB.out)) : w.heap.size ≤ gb543)); have n3_ := Aside0.mk ((by rw [hg]; exact (lqZ (GS.lB HB.out)) : w.heap.size ≤ gb543)); clear HB; have HB := n0_; have BK543 := n1_; have GW543 := n2_; have GE543 := n3_; clear n0_ n1_ n2_ n3_; clear hb hbox hg) | ((with_reducible refine gqC (f := 10) rfl ?_); refine GS.gL (some 12) Try.func10 #[] ?_; (with_reducible refine (spilelaw12_awake.calls k  true _ A3.out).mono ?_); rintro e w96 ⟨rfl, hb⟩; refine ⟨_, rfl, ?_⟩; have n0_ := Aside0.mk (bqB (GS.bqX BK543.out) hb); have n1_ := Aside0.mk (lqT (GS.lB HB.out) hb); clear BK543; clear HB; have BK543 := n0_; have HB := n1_; clear n0_ n1_; (try clear hb); (try clear hb2); (try clear hk); (try clear hi); obtain ⟨hcz97_0, hcz97_1, hcz97_2, hcz97_3, hfz97_0, hfz97_1, hfz97_2, hfz97_3⟩ := GS.c4 BK543.out) | ((with_reducible refine gqC (f := 11) rfl ?_); refine GS.gL (some 16) Try.func11 #[.agg #[.string a0_0, .int .i64 a0_1, .slice A0_2 l0_2.length c0_2, .int .i64 a0_3], .slice A1 l1.length c1] ?_; (with_reducible refine (spilelaw12_few.calls k a0_0 a0_1 (fun k_ => k_ < w.heap.size) _ _ l0_2 a0_3 _ _ l1 false _ ?side1 ?side2 ?side3 A5.out).mono ?_); (case side1 => exact Kd.V_mk HC0_2.out (Kd.F_below (Kd.C_F k33_heap HR0_2.out) (GS.lB HB.out))); (case side2 => exact GS.rC (Kd.C_below HR1.out HB.out)); (case side3 => exact HC1.out); rintro e w98 ⟨rfl, hb⟩; refine ⟨_, rfl, ?_⟩; have n0_ := Aside0.mk (bqB (GS.bqX BK543.out) hb); have n1_ := Aside0.mk (lqT (GS.lB HB.out) hb); clear BK543; clear HB; have BK543 := n0_; have HB := n1_; clear n0_ n1_; (try clear hb); (try clear hb2); (try clear hk); (try clear hi)))
   go_ret
   exact ⟨by first | rfl | (simp [errW_none, errW_some] <;> rfl) | (simp [*, errW_none, errW_some] <;> rfl), GS.lB HB.out⟩
 ·replace c4 := Bool.eq_false_iff.mpr c4
  subst c4
  have H1 : (none) = some r := by rw [if_neg (show ¬ (false = true) by decide)] at H; exact H
  clear H
  have H := H1
  clear H1
  exact absurd H (by simp)

end Go.Proofs.Ytmcmbjkjilcmeaa.K
