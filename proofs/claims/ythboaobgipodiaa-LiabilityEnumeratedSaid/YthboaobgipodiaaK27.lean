-- PRINTED by print.py (a twelfth state) out of the translation. Not trusted: Lean checks it.
import Derived.Test.YthboaobgipodiaaK0
import Derived.Test.YthboaobgipodiaaGShort
import Derived.Test.YthboaobgipodiaaGSym
import Derived.Test.YthboaobgipodiaaK7
import Derived.Test.YthboaobgipodiaaK16
import Derived.Test.YthboaobgipodiaaK17
import Derived.Test.YthboaobgipodiaaK18
namespace Go.Proofs.Ythboaobgipodiaa.K
open Go.RowKit Go.Proofs.YthboaobgipodiaaW.PrintWords Go.Proofs.YthboaobgipodiaaW.PrintLast Go.Proofs.YthboaobgipodiaaW.PrintMore
attribute [local go_sem] max2_int min2_int max_two min_two max_three min_three max_four min_four   -- for this text's walks alone
set_option linter.unusedVariables false
set_option linter.unusedSimpArgs false

/-! ### spilelaw51_LiabilityEnumerated: function 7 -/
mutual
def spilelaw51_LiabilityEnumerated.j0 : Nat → Int → Bool → Int → List (S60) → Int → Int → Int → Int → Int → Option (Bool)
 | 0, _, _, _, _, _, _, _, _, _ => none
 | k + 1, x2, x23, x720000, x720001, x721000, x721001, x721002, x721003, x721004 => if x23 = true then ((spilelaw51_awake.f k).bind fun t723 => (some t723)) else ((spilelaw51_ct.f x720000 x720001).bind fun bt724 => ((liability_Greatest.f k bt724.1 bt724.2 (([(⟨x721000, x721001, x721002, x721003, x721004⟩ : S35)] : List (S35))) (wrap64 (x721003 + (Int.tmod (wrap64 (x2)) 60)))).bind fun bt731 => (if bt731.2.2 = 0 then (spilelaw51_LiabilityEnumerated.j1 k (wrap64 (x721003 + (Int.tmod (wrap64 (x2)) 60))) bt731.1 ((bt731.1.length : Int) != 1) x720000 x720001 x721000 x721001 x721002 x721003 x721004) else (spilelaw51_LiabilityEnumerated.j1 k (wrap64 (x721003 + (Int.tmod (wrap64 (x2)) 60))) bt731.1 true x720000 x720001 x721000 x721001 x721002 x721003 x721004))))
def spilelaw51_LiabilityEnumerated.j1 : Nat → Int → List Int → Bool → Int → List (S60) → Int → Int → Int → Int → Int → Option (Bool)
 | 0, _, _, _, _, _, _, _, _, _, _ => none
 | k + 1, x7, x8, x47, x720000, x720001, x721000, x721001, x721002, x721003, x721004 => if x47 = true then (some ((x8.length : Int) == 0)) else (spilelaw51_LiabilityEnumerated.l0 k x7 x8 0 x721003 x720000 x720001 x721000 x721001 x721002 x721003 x721004)
def spilelaw51_LiabilityEnumerated.l0 : Nat → Int → List Int → Int → Int → Int → List (S60) → Int → Int → Int → Int → Int → Option (Bool)
 | 0, _, _, _, _, _, _, _, _, _, _, _ => none
 | k + 1, x7, x8, x11, x12, x720000, x720001, x721000, x721001, x721002, x721003, x721004 => if x12 ≤ x7 then ((some (([(⟨0, 1, 0, 0⟩ : S51), (⟨0, 2, 1, 0⟩ : S51), (⟨0, 2, wrap64 (x721004 - 1), 0⟩ : S51), (⟨0, 3, x721004, 0⟩ : S51)] : List (S51)) : List (S51))).bind fun y737 => (spilelaw51_LiabilityEnumerated.l1 k x7 x8 x11 x12 y737 (y737.length : Int) 0 x720000 x720001 x721000 x721001 x721002 x721003 x721004)) else (if 0 < (x8.length : Int) then (some (x11 == (rd x8 0))) else (none))
def spilelaw51_LiabilityEnumerated.l1 : Nat → Int → List Int → Int → Int → List (S51) → Int → Int → Int → List (S60) → Int → Int → Int → Int → Int → Option (Bool)
 | 0, _, _, _, _, _, _, _, _, _, _, _, _, _, _ => none
 | k + 1, x7, x8, x11, x12, x67, x68, x69, x720000, x720001, x721000, x721001, x721002, x721003, x721004 => if x69 < x68 then (if 0 ≤ x69 then (if x69 < (x67.length : Int) then ((spilelaw51_ct.f x720000 x720001).bind fun bt742 => ((liability_Causes.f k bt742.1 bt742.2 x721000 x721001 x721002 x721003 x721004 x721000 ((rd_T51 x67 x69).f1) ((rd_T51 x67 x69).f2) x12 x7).bind fun bt746 => (if bt746.2 = 0 then (spilelaw51_LiabilityEnumerated.j4 k x7 x8 x11 x12 bt746.1 x67 x68 x69 false x720000 x720001 x721000 x721001 x721002 x721003 x721004) else (if ((rd_T51 x67 x69).f1) = 2 then (spilelaw51_LiabilityEnumerated.j4 k x7 x8 x11 x12 bt746.1 x67 x68 x69 (decide (x721004 > 1)) x720000 x720001 x721000 x721001 x721002 x721003 x721004) else (none))))) else (none)) else (none)) else (spilelaw51_LiabilityEnumerated.l0 k x7 x8 x11 (wrap64 (x12 + 1)) x720000 x720001 x721000 x721001 x721002 x721003 x721004)
def spilelaw51_LiabilityEnumerated.j4 : Nat → Int → List Int → Int → Int → Int → List (S51) → Int → Int → Bool → Int → List (S60) → Int → Int → Int → Int → Int → Option (Bool)
 | 0, _, _, _, _, _, _, _, _, _, _, _, _, _, _, _, _ => none
 | k + 1, x7, x8, x11, x12, x15, x67, x68, x69, x98, x720000, x720001, x721000, x721001, x721002, x721003, x721004 => if x98 = true then (none) else (spilelaw51_LiabilityEnumerated.l1 k x7 x8 (mx x11 x15) x12 x67 x68 (wrap64 (x69 + 1)) x720000 x720001 x721000 x721001 x721002 x721003 x721004)
end
def spilelaw51_LiabilityEnumerated.f (k : Nat) (a0_0 : Int) (l0_1 : List (S60)) (a1_0 : Int) (a1_1 : Int) (a1_2 : Int) (a1_3 : Int) (a1_4 : Int) (a2 : Int) : Option (Bool) := (spilelaw51_awake.f k).bind fun t721 => (if t721 = true then ((spileref46_Few.f a0_0 l0_1).bind fun t722 => (spilelaw51_LiabilityEnumerated.j0 k a2 (!t722) a0_0 l0_1 a1_0 a1_1 a1_2 a1_3 a1_4)) else (spilelaw51_LiabilityEnumerated.j0 k a2 true a0_0 l0_1 a1_0 a1_1 a1_2 a1_3 a1_4))
theorem spilelaw51_LiabilityEnumerated.mono_l : ∀ k, (∀ y0 y1 y2 y3 y4 y5 y6 y7 y8, LeO (spilelaw51_LiabilityEnumerated.j0 k y0 y1 y2 y3 y4 y5 y6 y7 y8) (spilelaw51_LiabilityEnumerated.j0 (k + 1) y0 y1 y2 y3 y4 y5 y6 y7 y8)) ∧ (∀ y0 y1 y2 y3 y4 y5 y6 y7 y8 y9, LeO (spilelaw51_LiabilityEnumerated.j1 k y0 y1 y2 y3 y4 y5 y6 y7 y8 y9) (spilelaw51_LiabilityEnumerated.j1 (k + 1) y0 y1 y2 y3 y4 y5 y6 y7 y8 y9)) ∧ (∀ y0 y1 y2 y3 y4 y5 y6 y7 y8 y9 y10, LeO (spilelaw51_LiabilityEnumerated.l0 k y0 y1 y2 y3 y4 y5 y6 y7 y8 y9 y10) (spilelaw51_LiabilityEnumerated.l0 (k + 1) y0 y1 y2 y3 y4 y5 y6 y7 y8 y9 y10)) ∧ (∀ y0 y1 y2 y3 y4 y5 y6 y7 y8 y9 y10 y11 y12 y13, LeO (spilelaw51_LiabilityEnumerated.l1 k y0 y1 y2 y3 y4 y5 y6 y7 y8 y9 y10 y11 y12 y13) (spilelaw51_LiabilityEnumerated.l1 (k + 1) y0 y1 y2 y3 y4 y5 y6 y7 y8 y9 y10 y11 y12 y13)) ∧ (∀ y0 y1 y2 y3 y4 y5 y6 y7 y8 y9 y10 y11 y12 y13 y14 y15, LeO (spilelaw51_LiabilityEnumerated.j4 k y0 y1 y2 y3 y4 y5 y6 y7 y8 y9 y10 y11 y12 y13 y14 y15) (spilelaw51_LiabilityEnumerated.j4 (k + 1) y0 y1 y2 y3 y4 y5 y6 y7 y8 y9 y10 y11 y12 y13 y14 y15))
 | 0 => ⟨fun _ _ _ _ _ _ _ _ _ r h => by simp [spilelaw51_LiabilityEnumerated.j0] at h, fun _ _ _ _ _ _ _ _ _ _ r h => by simp [spilelaw51_LiabilityEnumerated.j1] at h, fun _ _ _ _ _ _ _ _ _ _ _ r h => by simp [spilelaw51_LiabilityEnumerated.l0] at h, fun _ _ _ _ _ _ _ _ _ _ _ _ _ _ r h => by simp [spilelaw51_LiabilityEnumerated.l1] at h, fun _ _ _ _ _ _ _ _ _ _ _ _ _ _ _ _ r h => by simp [spilelaw51_LiabilityEnumerated.j4] at h⟩
 | k + 1 => by
  obtain ⟨ih0, ih1, ih2, ih3, ih4⟩ := spilelaw51_LiabilityEnumerated.mono_l k
  refine ⟨?_, ?_, ?_, ?_, ?_⟩
  ·intro y0 y1 y2 y3 y4 y5 y6 y7 y8
   unfold spilelaw51_LiabilityEnumerated.j0
   repeat' first
   | (with_reducible exact ih0 _ _ _ _ _ _ _ _ _)
   | (with_reducible exact ih1 _ _ _ _ _ _ _ _ _ _)
   | (with_reducible exact ih2 _ _ _ _ _ _ _ _ _ _ _)
   | (with_reducible exact ih3 _ _ _ _ _ _ _ _ _ _ _ _ _ _)
   | (with_reducible exact ih4 _ _ _ _ _ _ _ _ _ _ _ _ _ _ _ _)
   | (with_reducible exact liability_Causes.mono _ _ _ _ _ _ _ _ _ _ _ _ _)
   | (with_reducible exact liability_Greatest.mono _ _ _ _ _)
   | (with_reducible exact spilelaw51_awake.mono _)
   | (with_reducible exact LeO.refl _)
   | (with_reducible exact LeO.none _)
   | (with_reducible refine LeO.ite ?_ ?_)
   | (with_reducible refine LeO.bind ?_ (fun _ => ?_))
   | exact ih0 _ _ _ _ _ _ _ _ _
   | exact ih1 _ _ _ _ _ _ _ _ _ _
   | exact ih2 _ _ _ _ _ _ _ _ _ _ _
   | exact ih3 _ _ _ _ _ _ _ _ _ _ _ _ _ _
   | exact ih4 _ _ _ _ _ _ _ _ _ _ _ _ _ _ _ _
   | exact liability_Causes.mono _ _ _ _ _ _ _ _ _ _ _ _ _
   | exact liability_Greatest.mono _ _ _ _ _
   | exact spilelaw51_awake.mono _
   | exact LeO.none _
   | refine LeO.ite ?_ ?_
   | refine LeO.bind ?_ (fun _ => ?_)
  ·intro y0 y1 y2 y3 y4 y5 y6 y7 y8 y9
   unfold spilelaw51_LiabilityEnumerated.j1
   repeat' first
   | (with_reducible exact ih0 _ _ _ _ _ _ _ _ _)
   | (with_reducible exact ih1 _ _ _ _ _ _ _ _ _ _)
   | (with_reducible exact ih2 _ _ _ _ _ _ _ _ _ _ _)
   | (with_reducible exact ih3 _ _ _ _ _ _ _ _ _ _ _ _ _ _)
   | (with_reducible exact ih4 _ _ _ _ _ _ _ _ _ _ _ _ _ _ _ _)
   | (with_reducible exact liability_Causes.mono _ _ _ _ _ _ _ _ _ _ _ _ _)
   | (with_reducible exact liability_Greatest.mono _ _ _ _ _)
   | (with_reducible exact spilelaw51_awake.mono _)
   | (with_reducible exact LeO.refl _)
   | (with_reducible exact LeO.none _)
   | (with_reducible refine LeO.ite ?_ ?_)
   | (with_reducible refine LeO.bind ?_ (fun _ => ?_))
   | exact ih0 _ _ _ _ _ _ _ _ _
   | exact ih1 _ _ _ _ _ _ _ _ _ _
   | exact ih2 _ _ _ _ _ _ _ _ _ _ _
   | exact ih3 _ _ _ _ _ _ _ _ _ _ _ _ _ _
   | exact ih4 _ _ _ _ _ _ _ _ _ _ _ _ _ _ _ _
   | exact liability_Causes.mono _ _ _ _ _ _ _ _ _ _ _ _ _
   | exact liability_Greatest.mono _ _ _ _ _
   | exact spilelaw51_awake.mono _
   | exact LeO.none _
   | refine LeO.ite ?_ ?_
   | refine LeO.bind ?_ (fun _ => ?_)
  ·intro y0 y1 y2 y3 y4 y5 y6 y7 y8 y9 y10
   unfold spilelaw51_LiabilityEnumerated.l0
   repeat' first
   | (with_reducible exact ih0 _ _ _ _ _ _ _ _ _)
   | (with_reducible exact ih1 _ _ _ _ _ _ _ _ _ _)
   | (with_reducible exact ih2 _ _ _ _ _ _ _ _ _ _ _)
   | (with_reducible exact ih3 _ _ _ _ _ _ _ _ _ _ _ _ _ _)
   | (with_reducible exact ih4 _ _ _ _ _ _ _ _ _ _ _ _ _ _ _ _)
   | (with_reducible exact liability_Causes.mono _ _ _ _ _ _ _ _ _ _ _ _ _)
   | (with_reducible exact liability_Greatest.mono _ _ _ _ _)
   | (with_reducible exact spilelaw51_awake.mono _)
   | (with_reducible exact LeO.refl _)
   | (with_reducible exact LeO.none _)
   | (with_reducible refine LeO.ite ?_ ?_)
   | (with_reducible refine LeO.bind ?_ (fun _ => ?_))
   | exact ih0 _ _ _ _ _ _ _ _ _
   | exact ih1 _ _ _ _ _ _ _ _ _ _
   | exact ih2 _ _ _ _ _ _ _ _ _ _ _
   | exact ih3 _ _ _ _ _ _ _ _ _ _ _ _ _ _
   | exact ih4 _ _ _ _ _ _ _ _ _ _ _ _ _ _ _ _
   | exact liability_Causes.mono _ _ _ _ _ _ _ _ _ _ _ _ _
   | exact liability_Greatest.mono _ _ _ _ _
   | exact spilelaw51_awake.mono _
   | exact LeO.none _
   | refine LeO.ite ?_ ?_
   | refine LeO.bind ?_ (fun _ => ?_)
  ·intro y0 y1 y2 y3 y4 y5 y6 y7 y8 y9 y10 y11 y12 y13
   unfold spilelaw51_LiabilityEnumerated.l1
   repeat' first
   | (with_reducible exact ih0 _ _ _ _ _ _ _ _ _)
   | (with_reducible exact ih1 _ _ _ _ _ _ _ _ _ _)
   | (with_reducible exact ih2 _ _ _ _ _ _ _ _ _ _ _)
   | (with_reducible exact ih3 _ _ _ _ _ _ _ _ _ _ _ _ _ _)
   | (with_reducible exact ih4 _ _ _ _ _ _ _ _ _ _ _ _ _ _ _ _)
   | (with_reducible exact liability_Causes.mono _ _ _ _ _ _ _ _ _ _ _ _ _)
   | (with_reducible exact liability_Greatest.mono _ _ _ _ _)
   | (with_reducible exact spilelaw51_awake.mono _)
   | (with_reducible exact LeO.refl _)
   | (with_reducible exact LeO.none _)
   | (with_reducible refine LeO.ite ?_ ?_)
   | (with_reducible refine LeO.bind ?_ (fun _ => ?_))
   | exact ih0 _ _ _ _ _ _ _ _ _
   | exact ih1 _ _ _ _ _ _ _ _ _ _
   | exact ih2 _ _ _ _ _ _ _ _ _ _ _
   | exact ih3 _ _ _ _ _ _ _ _ _ _ _ _ _ _
   | exact ih4 _ _ _ _ _ _ _ _ _ _ _ _ _ _ _ _
   | exact liability_Causes.mono _ _ _ _ _ _ _ _ _ _ _ _ _
   | exact liability_Greatest.mono _ _ _ _ _
   | exact spilelaw51_awake.mono _
   | exact LeO.none _
   | refine LeO.ite ?_ ?_
   | refine LeO.bind ?_ (fun _ => ?_)
  ·intro y0 y1 y2 y3 y4 y5 y6 y7 y8 y9 y10 y11 y12 y13 y14 y15
   unfold spilelaw51_LiabilityEnumerated.j4
   repeat' first
   | (with_reducible exact ih0 _ _ _ _ _ _ _ _ _)
   | (with_reducible exact ih1 _ _ _ _ _ _ _ _ _ _)
   | (with_reducible exact ih2 _ _ _ _ _ _ _ _ _ _ _)
   | (with_reducible exact ih3 _ _ _ _ _ _ _ _ _ _ _ _ _ _)
   | (with_reducible exact ih4 _ _ _ _ _ _ _ _ _ _ _ _ _ _ _ _)
   | (with_reducible exact liability_Causes.mono _ _ _ _ _ _ _ _ _ _ _ _ _)
   | (with_reducible exact liability_Greatest.mono _ _ _ _ _)
   | (with_reducible exact spilelaw51_awake.mono _)
   | (with_reducible exact LeO.refl _)
   | (with_reducible exact LeO.none _)
   | (with_reducible refine LeO.ite ?_ ?_)
   | (with_reducible refine LeO.bind ?_ (fun _ => ?_))
   | exact ih0 _ _ _ _ _ _ _ _ _
   | exact ih1 _ _ _ _ _ _ _ _ _ _
   | exact ih2 _ _ _ _ _ _ _ _ _ _ _
   | exact ih3 _ _ _ _ _ _ _ _ _ _ _ _ _ _
   | exact ih4 _ _ _ _ _ _ _ _ _ _ _ _ _ _ _ _
   | exact liability_Causes.mono _ _ _ _ _ _ _ _ _ _ _ _ _
   | exact liability_Greatest.mono _ _ _ _ _
   | exact spilelaw51_awake.mono _
   | exact LeO.none _
   | refine LeO.ite ?_ ?_
   | refine LeO.bind ?_ (fun _ => ?_)
theorem spilelaw51_LiabilityEnumerated.mono : ∀ a0 a1 a2 a3 a4 a5 a6 a7 k, LeO (spilelaw51_LiabilityEnumerated.f k a0 a1 a2 a3 a4 a5 a6 a7) (spilelaw51_LiabilityEnumerated.f (k + 1) a0 a1 a2 a3 a4 a5 a6 a7) := by
 intro a0 a1 a2 a3 a4 a5 a6 a7 k
 obtain ⟨ih0, ih1, ih2, ih3, ih4⟩ := spilelaw51_LiabilityEnumerated.mono_l k
 unfold spilelaw51_LiabilityEnumerated.f
 repeat' first
   | (with_reducible exact ih0 _ _ _ _ _ _ _ _ _)
   | (with_reducible exact ih1 _ _ _ _ _ _ _ _ _ _)
   | (with_reducible exact ih2 _ _ _ _ _ _ _ _ _ _ _)
   | (with_reducible exact ih3 _ _ _ _ _ _ _ _ _ _ _ _ _ _)
   | (with_reducible exact ih4 _ _ _ _ _ _ _ _ _ _ _ _ _ _ _ _)
   | (with_reducible exact liability_Causes.mono _ _ _ _ _ _ _ _ _ _ _ _ _)
   | (with_reducible exact liability_Greatest.mono _ _ _ _ _)
   | (with_reducible exact spilelaw51_awake.mono _)
   | (with_reducible exact LeO.refl _)
   | (with_reducible exact LeO.none _)
   | (with_reducible refine LeO.ite ?_ ?_)
   | (with_reducible refine LeO.bind ?_ (fun _ => ?_))
   | exact ih0 _ _ _ _ _ _ _ _ _
   | exact ih1 _ _ _ _ _ _ _ _ _ _
   | exact ih2 _ _ _ _ _ _ _ _ _ _ _
   | exact ih3 _ _ _ _ _ _ _ _ _ _ _ _ _ _
   | exact ih4 _ _ _ _ _ _ _ _ _ _ _ _ _ _ _ _
   | exact liability_Causes.mono _ _ _ _ _ _ _ _ _ _ _ _ _
   | exact liability_Greatest.mono _ _ _ _ _
   | exact spilelaw51_awake.mono _
   | exact LeO.none _
   | refine LeO.ite ?_ ?_
   | refine LeO.bind ?_ (fun _ => ?_)
def spilelaw51_LiabilityEnumerated.T4 : Bool × List (List Nat × List Nat) := (true, [([], []), ([0], [0]), ([], []), ([2], [2]), ([], []), ([1, 3, 4, 1], [1, 3, 4]), ([5], [5]), ([6], [6]), ([6], [6]), ([6], [6]), ([7, 5, 0, 1, 2, 3, 4, 5, 6, 7], [7]), ([8, 10, 0, 1, 2, 3, 4, 5, 6, 7, 8, 10], [8]), ([9, 11, 0, 1, 2, 3, 4, 5, 6, 7, 8, 9, 10, 11], [9])])
def spilelaw51_LiabilityEnumerated.B4 : List Nat := [0, 1, 0, 4, 0, 31, 63, 127, 127, 127, 255, 1535, 4095]
theorem spilelaw51_LiabilityEnumerated.tab4 : rtab .any (opsOf Try.f7 4) = spilelaw51_LiabilityEnumerated.T4 := by kernel_rfl
theorem spilelaw51_LiabilityEnumerated.bits4 : waitsOk spilelaw51_LiabilityEnumerated.T4.2 spilelaw51_LiabilityEnumerated.B4 = true := by kernel_rfl
def spilelaw51_LiabilityEnumerated.T15 : Bool × List (List Nat × List Nat) := (true, [([], []), ([0], [0]), ([], []), ([], []), ([], []), ([1, 2, 3, 4, 1], [1, 2, 3, 4]), ([5], [5]), ([6], [6]), ([6], [6]), ([7, 5, 0, 1, 2, 3, 4, 5, 6, 7], [7]), ([8, 9, 0, 1, 2, 3, 4, 5, 6, 7, 8, 9], [8])])
def spilelaw51_LiabilityEnumerated.B15 : List Nat := [0, 1, 0, 0, 0, 31, 63, 127, 127, 255, 1023]
theorem spilelaw51_LiabilityEnumerated.tab15 : rtab .any (opsOf Try.f7 15) = spilelaw51_LiabilityEnumerated.T15 := by kernel_rfl
theorem spilelaw51_LiabilityEnumerated.bits15 : waitsOk spilelaw51_LiabilityEnumerated.T15.2 spilelaw51_LiabilityEnumerated.B15 = true := by kernel_rfl
set_option maxHeartbeats 8000000 in
set_option maxRecDepth 100000 in
theorem spilelaw51_LiabilityEnumerated.calls (k : Nat) (a0_0 : Int) (A0_1 : Option Addr) (c0_1 : Nat) (l0_1 : List (S60)) (a1_0 : Int) (a1_1 : Int) (a1_2 : Int) (a1_3 : Int) (a1_4 : Int) (a2 : Int) (r : Bool) (w : World) (hr0_1 : Kd.C k60 w A0_1 l0_1.length l0_1) (hc0_1 : l0_1.length ≤ c0_1) (h : spilelaw51_LiabilityEnumerated.f k a0_0 l0_1 a1_0 a1_1 a1_2 a1_3 a1_4 a2 = some r) :
  Calls Try.prog 7 #[.agg #[.int .i64 a0_0, .slice A0_1 l0_1.length c0_1], .agg #[.int .i64 a1_0, .int .i64 a1_1, .int .i64 a1_2, .int .i64 a1_3, .int .i64 a1_4], .int .u8 a2] w fun e w' => e = .returned (.bool r) ∧ Below w.heap.size w w' := by
 have hu24 := Try.underlying24
 have hu35 := Try.underlying35
 have hu51 := Try.underlying51
 have HR0_1 := Aside0.mk hr0_1
 have HC0_1 := Aside0.mk hc0_1
 clear hr0_1 hc0_1
 have HB := Aside0.mk (Below.refl w.heap.size w)
 have H : ((spilelaw51_awake.f k).bind fun t721 => (if t721 = true then ((spileref46_Few.f a0_0 l0_1).bind fun t722 => (spilelaw51_LiabilityEnumerated.j0 k a2 (!t722) a0_0 l0_1 a1_0 a1_1 a1_2 a1_3 a1_4)) else (spilelaw51_LiabilityEnumerated.j0 k a2 true a0_0 l0_1 a1_0 a1_1 a1_2 a1_3 a1_4))) = some r := h
 clear h
 have HC4 := Aside0.mk H
 clear H
 go_enter Try.func7, Try.ntmps7
 go_upto_region 1 with (first | ((with_reducible refine gqD (N := 3) rfl ?_); (try (refine gate_guard (by rfl) ?_; dsimp only)); refine GS.bx (N := 3) (cs := #[.int .i64 a0_0, .slice A0_1 l0_1.length c0_1]) (t := 24) ?_; intro gb719 hg w5 hbox hb; have n0_ := Aside0.mk (lqT (GS.lB HB.out) hb); have n1_ := Aside0.mk (hbox); have n2_ := Aside0.mk ((by rw [hg]; exact (lqZ (GS.lB HB.out)) : w.heap.size ≤ gb719)); have n3_ := Aside0.mk ((by rw [hg]; exact (lqZ (GS.lB HB.out)) : w.heap.size ≤ gb719)); clear HB; have HB := n0_; have BK719 := n1_; have GW719 := n2_; have GE719 := n3_; clear n0_ n1_ n2_ n3_; clear hb hbox hg) | ((with_reducible refine gqD (N := 4) rfl ?_); (try (refine gate_guard (by rfl) ?_; dsimp only)); refine GS.bx (N := 4) (cs := #[.int .i64 a1_0, .int .i64 a1_1, .int .i64 a1_2, .int .i64 a1_3, .int .i64 a1_4]) (t := 35) ?_; intro gb720 hg w6 hbox hb; have n0_ := Aside0.mk (bqB (GS.bqX BK719.out) hb); have n1_ := Aside0.mk (lqT (GS.lB HB.out) hb); have n2_ := Aside0.mk (hbox); have n3_ := Aside0.mk ((by rw [hg]; exact (lqZ (GS.lB HB.out)) : w.heap.size ≤ gb720)); have n4_ := Aside0.mk ((by rw [hg]; exact (lqZ (GS.lB HB.out)) : w.heap.size ≤ gb720)); have n5_ := Aside0.mk ((by rw [hg]; exact Nat.ne_of_lt (blk_lt (GS.bqX BK719.out)) : gb719 ≠ gb720)); have n6_ := Aside0.mk ((by rw [hg]; exact Nat.ne_of_gt (blk_lt (GS.bqX BK719.out)) : gb720 ≠ gb719)); clear BK719; clear HB; have BK719 := n0_; have HB := n1_; have BK720 := n2_; have GW720 := n3_; have GE720 := n4_; have NB719_720 := n5_; have NB720_719 := n6_; clear n0_ n1_ n2_ n3_ n4_ n5_ n6_; clear hb hbox hg))
 (try simp only [Act.put, List.setIfInBounds_toArray, List.set_cons_zero, List.set_cons_succ])
 go_cut [23] (fun v23 wc => ∃ (kq : Nat) (x23_3 : Bool), v23 = .bool x23_3 ∧ Aside0 (spilelaw51_LiabilityEnumerated.j0 kq a2 x23_3 a0_0 l0_1 a1_0 a1_1 a1_2 a1_3 a1_4 = some r) ∧ Aside0 (kq ≤ k) ∧ Aside0 (wc.heap[gb719]? = some (.cells #[.int .i64 a0_0, (.slice A0_1 l0_1.length c0_1)] 24 (0, 0))) ∧ Aside0 (wc.heap[gb720]? = some (.cells #[.int .i64 a1_0, .int .i64 a1_1, .int .i64 a1_2, .int .i64 a1_3, .int .i64 a1_4] 35 (0, 0))) ∧ Aside0 (Below w.heap.size w wc))
 case first =>
  have H := HC4.out
  clear HC4
  replace H := Option.bind_eq_some_iff.mp H
  obtain ⟨t721, A70, H⟩ := H
  replace H : (if t721 = true then ((spileref46_Few.f a0_0 l0_1).bind fun t722 => (spilelaw51_LiabilityEnumerated.j0 k a2 (!t722) a0_0 l0_1 a1_0 a1_1 a1_2 a1_3 a1_4)) else (spilelaw51_LiabilityEnumerated.j0 k a2 true a0_0 l0_1 a1_0 a1_1 a1_2 a1_3 a1_4)) = some r := H
  have A7 := Aside0.mk A70
  clear A70
  by_cases c8 : t721 = true
  ·subst c8
   have H1 : ((spileref46_Few.f a0_0 l0_1).bind fun t722 => (spilelaw51_LiabilityEnumerated.j0 k a2 (!t722) a0_0 l0_1 a1_0 a1_1 a1_2 a1_3 a1_4)) = some r := by rw [if_pos rfl] at H; exact H
   clear H
   have H := H1
   clear H1
   replace H := Option.bind_eq_some_iff.mp H
   obtain ⟨t722, A90, H⟩ := H
   replace H : (spilelaw51_LiabilityEnumerated.j0 k a2 (!t722) a0_0 l0_1 a1_0 a1_1 a1_2 a1_3 a1_4) = some r := H
   have A9 := Aside0.mk A90
   clear A90
   have H' := Aside0.mk H
   clear H
   go_wp2_with (first | ((with_reducible refine gqC (f := 9) rfl ?_); refine GS.gL (some 17) Try.func9 #[] ?_; (with_reducible refine (spilelaw51_awake.calls k  true _ A7.out).mono ?_); rintro e w10 ⟨rfl, hb⟩; refine ⟨_, rfl, ?_⟩; have n0_ := Aside0.mk (bqB (GS.bqX BK719.out) hb); have n1_ := Aside0.mk (bqB (GS.bqX BK720.out) hb); have n2_ := Aside0.mk (lqT (GS.lB HB.out) hb); clear BK719; clear BK720; clear HB; have BK719 := n0_; have BK720 := n1_; have HB := n2_; clear n0_ n1_ n2_; (try clear hb); (try clear hb2); (try clear hk); (try clear hi); have hnb11 := NB719_720.out; have hnc11 := NB720_719.out; obtain ⟨hcz12_0, hcz12_1, hfz12_0, hfz12_1⟩ := GS.c2 BK719.out) | (go_at_call 27; (with_reducible refine (spileref46_Few.calls a0_0 _ _ l0_1 t722 _ ?side1 ?side2 A9.out).mono ?_); (case side1 => exact GS.rC (Kd.C_below HR0_1.out HB.out)); (case side2 => exact HC0_1.out); rintro e w13 ⟨rfl, hb⟩; have n0_ := Aside0.mk (bqB (GS.bqX BK719.out) hb); have n1_ := Aside0.mk (bqB (GS.bqX BK720.out) hb); have n2_ := Aside0.mk (lqT (GS.lB HB.out) hb); clear BK719; clear BK720; clear HB; have BK719 := n0_; have BK720 := n1_; have HB := n2_; clear n0_ n1_ n2_; (try clear hb); (try clear hb2); (try clear hk); (try clear hi)))
   go_meet
   case rel => exact ⟨_, (!t722), (by first | rfl | (simp; done) | (simp [*]; done)), H', ⟨by first | omega | exact Nat.le_refl _⟩, ⟨GS.bqX BK719.out⟩, ⟨GS.bqX BK720.out⟩, ⟨GS.lB HB.out⟩⟩
  ·replace c8 := Bool.eq_false_iff.mpr c8
   subst c8
   have H1 : (spilelaw51_LiabilityEnumerated.j0 k a2 true a0_0 l0_1 a1_0 a1_1 a1_2 a1_3 a1_4) = some r := by rw [if_neg (show ¬ (false = true) by decide)] at H; exact H
   clear H
   have H := H1
   clear H1
   have H' := Aside0.mk H
   clear H
   go_wp2_with (first | ((with_reducible refine gqC (f := 9) rfl ?_); refine GS.gL (some 17) Try.func9 #[] ?_; (with_reducible refine (spilelaw51_awake.calls k  false _ A7.out).mono ?_); rintro e w14 ⟨rfl, hb⟩; refine ⟨_, rfl, ?_⟩; have n0_ := Aside0.mk (bqB (GS.bqX BK719.out) hb); have n1_ := Aside0.mk (bqB (GS.bqX BK720.out) hb); have n2_ := Aside0.mk (lqT (GS.lB HB.out) hb); clear BK719; clear BK720; clear HB; have BK719 := n0_; have BK720 := n1_; have HB := n2_; clear n0_ n1_ n2_; (try clear hb); (try clear hb2); (try clear hk); (try clear hi)))
   go_meet
   case rel => exact ⟨_, (true), (by first | rfl | (simp; done) | (simp [*]; done)), H', ⟨by first | omega | exact Nat.le_refl _⟩, ⟨GS.bqX BK719.out⟩, ⟨GS.bqX BK720.out⟩, ⟨GS.lB HB.out⟩⟩
 case rest =>
  clear HC4
  try clear c1
  try clear p2
  try clear c7
  try clear c8
  try clear c9
  try clear c11
  try clear hcz12_0
  try clear hcz12_1
  try clear hfz12_0
  try clear hfz12_1
  obtain ⟨kq, x23_3, rfl, HA, HJ3, BK719, BK720, HB⟩ := hcut
  cases kq with
  | zero => exact absurd HA.out (by simp [spilelaw51_LiabilityEnumerated.j0])
  | succ kj3 =>
   have H := HA.out
   clear HA
   simp only [spilelaw51_LiabilityEnumerated.j0] at H
   by_cases c15 : x23_3 = true
   ·subst c15
    have H1 : ((spilelaw51_awake.f kj3).bind fun t723 => (some t723)) = some r := by rw [if_pos rfl] at H; exact H
    clear H
    have H := H1
    clear H1
    replace H := Option.bind_eq_some_iff.mp H
    obtain ⟨t723, A160, H⟩ := H
    replace H : (some t723) = some r := H
    have A16 := Aside0.mk A160
    clear A160
    obtain rfl := Option.some.inj H
    go_wp2_with (first | ((with_reducible refine gqC (f := 9) rfl ?_); refine GS.gL (some 24) Try.func9 #[] ?_; (with_reducible refine (spilelaw51_awake.calls kj3  t723 _ A16.out).mono ?_); rintro e w17 ⟨rfl, hb⟩; refine ⟨_, rfl, ?_⟩; have n0_ := Aside0.mk (bqB (GS.bqX BK719.out) hb); have n1_ := Aside0.mk (bqB (GS.bqX BK720.out) hb); have n2_ := Aside0.mk (lqT (GS.lB HB.out) hb); clear BK719; clear BK720; clear HB; have BK719 := n0_; have BK720 := n1_; have HB := n2_; clear n0_ n1_ n2_; (try clear hb); (try clear hb2); (try clear hk); (try clear hi)))
    go_ret
    exact ⟨by first | rfl | (simp [errW_none, errW_some] <;> rfl) | (simp [*, errW_none, errW_some] <;> rfl), GS.lB HB.out⟩
   ·replace c15 := Bool.eq_false_iff.mpr c15
    subst c15
    have H1 : ((spilelaw51_ct.f a0_0 l0_1).bind fun bt724 => ((liability_Greatest.f kj3 bt724.1 bt724.2 (([(⟨a1_0, a1_1, a1_2, a1_3, a1_4⟩ : S35)] : List (S35))) (wrap64 (a1_3 + (Int.tmod (wrap64 (a2)) 60)))).bind fun bt731 => (if bt731.2.2 = 0 then (spilelaw51_LiabilityEnumerated.j1 kj3 (wrap64 (a1_3 + (Int.tmod (wrap64 (a2)) 60))) bt731.1 ((bt731.1.length : Int) != 1) a0_0 l0_1 a1_0 a1_1 a1_2 a1_3 a1_4) else (spilelaw51_LiabilityEnumerated.j1 kj3 (wrap64 (a1_3 + (Int.tmod (wrap64 (a2)) 60))) bt731.1 true a0_0 l0_1 a1_0 a1_1 a1_2 a1_3 a1_4)))) = some r := by rw [if_neg (show ¬ (false = true) by decide)] at H; exact H
    clear H
    have H := H1
    clear H1
    replace H := Option.bind_eq_some_iff.mp H
    obtain ⟨⟨t724, t725⟩, A180, H⟩ := H
    replace H : ((liability_Greatest.f kj3 t724 t725 (([(⟨a1_0, a1_1, a1_2, a1_3, a1_4⟩ : S35)] : List (S35))) (wrap64 (a1_3 + (Int.tmod (wrap64 (a2)) 60)))).bind fun bt731 => (if bt731.2.2 = 0 then (spilelaw51_LiabilityEnumerated.j1 kj3 (wrap64 (a1_3 + (Int.tmod (wrap64 (a2)) 60))) bt731.1 ((bt731.1.length : Int) != 1) a0_0 l0_1 a1_0 a1_1 a1_2 a1_3 a1_4) else (spilelaw51_LiabilityEnumerated.j1 kj3 (wrap64 (a1_3 + (Int.tmod (wrap64 (a2)) 60))) bt731.1 true a0_0 l0_1 a1_0 a1_1 a1_2 a1_3 a1_4))) = some r := H
    have A18 := Aside0.mk A180
    clear A180
    obtain ⟨y728, hy728⟩ : ∃ y_ : List (S35), y_ = (([(⟨a1_0, a1_1, a1_2, a1_3, a1_4⟩ : S35)] : List (S35))) := ⟨_, rfl⟩
    replace H : ((liability_Greatest.f kj3 t724 t725 y728 (wrap64 (a1_3 + (Int.tmod (wrap64 (a2)) 60)))).bind fun bt731 => (if bt731.2.2 = 0 then (spilelaw51_LiabilityEnumerated.j1 kj3 (wrap64 (a1_3 + (Int.tmod (wrap64 (a2)) 60))) bt731.1 ((bt731.1.length : Int) != 1) a0_0 l0_1 a1_0 a1_1 a1_2 a1_3 a1_4) else (spilelaw51_LiabilityEnumerated.j1 kj3 (wrap64 (a1_3 + (Int.tmod (wrap64 (a2)) 60))) bt731.1 true a0_0 l0_1 a1_0 a1_1 a1_2 a1_3 a1_4))) = some r := by first | (rw [hy728]; with_reducible exact H) | (have H2_ := (Option.bind_some _ _).symm.trans H; rw [hy728]; with_reducible exact H2_) | (have H2_ := (Option.bind_some _ _).symm.trans H; with_reducible exact H2_) | with_reducible exact H | (rw [hy728]; exact H) | exact H
    have Ny728 := Aside0.mk hy728
    clear hy728
    replace H := Option.bind_eq_some_iff.mp H
    obtain ⟨⟨t731, t734, t735⟩, A190, H⟩ := H
    replace H : (if t735 = 0 then (spilelaw51_LiabilityEnumerated.j1 kj3 (wrap64 (a1_3 + (Int.tmod (wrap64 (a2)) 60))) t731 ((t731.length : Int) != 1) a0_0 l0_1 a1_0 a1_1 a1_2 a1_3 a1_4) else (spilelaw51_LiabilityEnumerated.j1 kj3 (wrap64 (a1_3 + (Int.tmod (wrap64 (a2)) 60))) t731 true a0_0 l0_1 a1_0 a1_1 a1_2 a1_3 a1_4)) = some r := H
    have A19 := Aside0.mk A190
    clear A190
    have HC20 := Aside0.mk H
    clear H
    have hnb21 := NB720_719.out
    have hnc21 := NB719_720.out
    obtain ⟨hcz22_0, hcz22_1, hcz22_2, hcz22_3, hcz22_4, hfz22_0, hfz22_1, hfz22_2, hfz22_3, hfz22_4⟩ := GS.c5 BK720.out
    try go_wp2
    have n0_ := Aside0.mk (bqD BK719.out)
    have n1_ := Aside0.mk (bqD BK720.out)
    have n2_ := Aside0.mk (lqD HB.out)
    clear BK719
    clear BK720
    clear HB
    have BK719 := n0_
    have BK720 := n1_
    have HB := n2_
    clear n0_ n1_ n2_
    refine start_ (n := 13) (S := fun w' => True) (ds := []) #[false, false, false, false, false, false, false, false, false, false, false, false, false] (by kernel_rfl) rfl rfl trivial (fun hHeld => ?_); refine with_tabW spilelaw51_LiabilityEnumerated.tab4 spilelaw51_LiabilityEnumerated.bits4 (fun HT_ HW_ => ?_)
    generalize wc.drew = w23 at BK719 BK720 HB hHeld ⊢
    refine pure_ (i := 4) (N := some 36) (v := ?_) (a' := ?_) #[false, false, false, false, true, false, false, false, false, false, false, false, false] rfl rfl (any_of HT_.out (by kernel_rfl)) (fun _ _ _ h => h) (Or.inl ⟨by rfl, ?_⟩) ?_ ?_
    rotate_left
    ·intro w'
     go_simp
     with_reducible rfl
    rotate_left
    ·simp only [Act.put, List.setIfInBounds_toArray, List.set_cons_zero, List.set_cons_succ, i64_w, i32_w]
     rfl
    refine inv_at [0, 1, 2, 3, 5, 6, 7, 8, 9, 10, 11, 12] (fun a0_ b a w' => ∃ (v726 : Value) (v729 : Value) (v732 : Value) (m1_ : Value) (m5_ : Value) (m6_ : Value) (m7_ : Value) (m10_ : Value), a = putSel a0_ b [(0, 32, .agg #[.int .i64 a0_0, .slice A0_1 l0_1.length c0_1]), (1, 33, m1_), (2, 34, .agg #[.int .i64 a1_0, .int .i64 a1_1, .int .i64 a1_2, .int .i64 a1_3, .int .i64 a1_4]), (3, 35, v729), (5, 37, m5_), (6, 31, m6_), (7, 38, m7_), (8, 39, .int .i64 t734), (9, 40, .int .i64 t735), (10, 8, m10_), (11, 9, .int .i64 t734), (12, 10, .int .i64 t735)] ∧ (w'.heap[gb719]? = some (.cells #[.int .i64 a0_0, .slice A0_1 l0_1.length c0_1] 24 (0, 0))) ∧ (w'.heap[gb720]? = some (.cells #[.int .i64 a1_0, .int .i64 a1_1, .int .i64 a1_2, .int .i64 a1_3, .int .i64 a1_4] 35 (0, 0))) ∧ (Below w.heap.size w w') ∧ (b 1 = true → Kd.R k60 60 w' w.heap.size (fun _ => True) v726 t725) ∧ (b 5 = true → Kd.R (Kd.int .i64) 3 w' w.heap.size (fun _ => True) v732 t731) ∧ (b 3 = true → Kd.R k35 35 w' w.heap.size (fun k_ => k_ ≠ gb720) v729 y728) ∧ (b 1 = true → (m1_ : Value) = .agg #[.int .i64 t724, v726]) ∧ (b 5 = true → (m5_ : Value) = .tuple #[v732, .int .i64 t734, .int .i64 t735]) ∧ (b 6 = true → (m6_ : Value) = .tuple #[v732, .int .i64 t734, .int .i64 t735]) ∧ (b 7 = true → (m7_ : Value) = v732) ∧ (b 10 = true → (m10_ : Value) = v732)) HT_.out HW_.out (by kernel_rfl) (by kernel_rfl) ?_ ?_ ?_
    ·exact ⟨.bool false, .bool false, .bool false, .bool false, .bool false, .bool false, .bool false, .bool false, by simp only [putSel, Bool.false_eq_true, if_false], BK719.out, BK720.out, HB.out, fun h_ => absurd h_ (by decide), fun h_ => absurd h_ (by decide), fun h_ => absurd h_ (by decide), fun h_ => absurd h_ (by decide), fun h_ => absurd h_ (by decide), fun h_ => absurd h_ (by decide), fun h_ => absurd h_ (by decide), fun h_ => absurd h_ (by decide)⟩
    ·skip
     clear BK719 BK720 HB
     refine steps_cons ?_ ?_
     ·rintro b a w' ⟨v726, v729, v732, m1_, m5_, m6_, m7_, m10_, ha, Q_BK719, Q_BK720, Q_HB, Q_HO727, Q_HO733, Q_HO730, Q_X1_, Q_X5_, Q_X6_, Q_X7_, Q_X10_⟩ hb_ hon hoff
      refine ⟨_, rfl, fun K hK => ?_⟩
      have e3 : a.tmps[3]? = some (.pointer (some ⟨gb719, 0, none⟩)) := by rw [ha]; exact (putSel_off rfl).trans rfl
      replace ha := Aside0.mk ha
      have BK719 := Aside0.mk Q_BK719
      have BK720 := Aside0.mk Q_BK720
      have HB := Aside0.mk Q_HB
      have hc0_ : w'.cell? ⟨gb719, 0, none⟩ = some (.int .i64 a0_0) := (bqC BK719.out 0).trans rfl
      have hc1_ : w'.cell? ⟨gb719, 1, none⟩ = some (.slice A0_1 l0_1.length c0_1) := (bqC BK719.out 1).trans rfl
      refine value_ (w1 := w') (v := .agg #[.int .i64 a0_0, .slice A0_1 l0_1.length c0_1]) (by rfl) rfl ?_ ?_
      ·go_simp
       (try simp only [i64_w])
       try rfl
      refine hK.out _ _ ⟨v726, v729, v732, m1_, m5_, m6_, m7_, m10_, (by rw [ha.out]; exact putSel_upk 0 hb_ rfl rfl rfl), Q_BK719, Q_BK720, Q_HB, fun h0_ => absurd ((hoff 1 (by kernel_rfl)).symm.trans h0_) (by decide), fun h0_ => absurd ((hoff 5 (by kernel_rfl)).symm.trans h0_) (by decide), Q_HO730, fun h0_ => absurd ((hoff 1 (by kernel_rfl)).symm.trans h0_) (by decide), fun h0_ => absurd ((hoff 5 (by kernel_rfl)).symm.trans h0_) (by decide), fun h0_ => absurd ((hoff 6 (by kernel_rfl)).symm.trans h0_) (by decide), fun h0_ => absurd ((hoff 7 (by kernel_rfl)).symm.trans h0_) (by decide), fun h0_ => absurd ((hoff 10 (by kernel_rfl)).symm.trans h0_) (by decide)⟩
     refine steps_cons ?_ ?_
     ·rintro b a w' ⟨v726, v729, v732, m1_, m5_, m6_, m7_, m10_, ha, Q_BK719, Q_BK720, Q_HB, Q_HO727, Q_HO733, Q_HO730, Q_X1_, Q_X5_, Q_X6_, Q_X7_, Q_X10_⟩ hb_ hon hoff
      refine ⟨_, rfl, fun K hK => ?_⟩
      have e32 : a.tmps[32]? = some (.agg #[.int .i64 a0_0, .slice A0_1 l0_1.length c0_1]) := by rw [ha]; exact putSel_on (e := (0, 32, .agg #[.int .i64 a0_0, .slice A0_1 l0_1.length c0_1])) 0 rfl rfl (hon 0 (by kernel_rfl)) rfl
      replace ha := Aside0.mk ha
      have BK719 := Aside0.mk Q_BK719
      have BK720 := Aside0.mk Q_BK720
      have HB := Aside0.mk Q_HB
      refine goes_ Try.func12 (by kernel_rfl) rfl #[.agg #[.int .i64 a0_0, .slice A0_1 l0_1.length c0_1]] (by rfl) rfl rfl (by first | (simp only [List.map_toArray, List.map_cons, List.map_nil, Act.eval, Array.getD_eq_getD_getElem?, Option.getD_some, e32]; done) | (simp only [List.map_toArray, List.map_cons, List.map_nil, Act.eval, Array.getD_eq_getD_getElem?, Option.getD_some, e32]; rfl)) ?_
      with_reducible refine (spilelaw51_ct.calls a0_0 _ _ l0_1 t724 t725 _ ?side1 ?side2 A18.out).mono ?_
      (case side1 => exact GS.rC (Kd.C_below HR0_1.out HB.out))
      (case side2 => exact HC0_1.out)
      rintro e w24 ⟨v726, rfl, ho0, hb⟩
      refine ⟨_, rfl, ?_⟩
      have n0_ := Aside0.mk (Kd.R_lower ho0 (lqZ (GS.lB HB.out)))
      have n1_ := Aside0.mk (bqB (GS.bqX BK719.out) hb)
      have n2_ := Aside0.mk (bqB (GS.bqX BK720.out) hb)
      have n3_ := Aside0.mk (lqT (GS.lB HB.out) hb)
      have z_HO730 := fun (h0_ : b 3 = true) => (show Kd.R k35 35 w24 w.heap.size (fun k_ => k_ ≠ gb720) v729 y728 from by first | exact (Kd.R_below (GS.rR (Q_HO730 h0_)) hb) | exact Kd.R_mono (Kd.R_below (GS.rR (Q_HO730 h0_)) hb) (fun _ hk => GS.cj hk))
      clear BK719
      clear BK720
      clear HB
      have HO727 := n0_
      have BK719 := n1_
      have BK720 := n2_
      have HB := n3_
      clear n0_ n1_ n2_ n3_
      (try clear hb)
      (try clear hb2)
      (try clear hk)
      (try clear hi)
      (try clear ho0)
      refine hK.out _ _ ⟨v726, v729, v732, (.agg #[.int .i64 t724, v726]), m5_, m6_, m7_, m10_, (by rw [ha.out]; exact putSel_upk 1 hb_ rfl rfl rfl), (GS.bqX BK719.out), (GS.bqX BK720.out), (GS.lB HB.out), fun _ => (GS.rR HO727.out), fun h0_ => absurd ((hoff 5 (by kernel_rfl)).symm.trans h0_) (by decide), z_HO730, fun _ => rfl, fun h0_ => absurd ((hoff 5 (by kernel_rfl)).symm.trans h0_) (by decide), fun h0_ => absurd ((hoff 6 (by kernel_rfl)).symm.trans h0_) (by decide), fun h0_ => absurd ((hoff 7 (by kernel_rfl)).symm.trans h0_) (by decide), fun h0_ => absurd ((hoff 10 (by kernel_rfl)).symm.trans h0_) (by decide)⟩
     refine steps_cons ?_ ?_
     ·rintro b a w' ⟨v726, v729, v732, m1_, m5_, m6_, m7_, m10_, ha, Q_BK719, Q_BK720, Q_HB, Q_HO727, Q_HO733, Q_HO730, Q_X1_, Q_X5_, Q_X6_, Q_X7_, Q_X10_⟩ hb_ hon hoff
      refine ⟨_, rfl, fun K hK => ?_⟩
      have e4 : a.tmps[4]? = some (.pointer (some ⟨gb720, 0, none⟩)) := by rw [ha]; exact (putSel_off rfl).trans rfl
      replace ha := Aside0.mk ha
      have BK719 := Aside0.mk Q_BK719
      have BK720 := Aside0.mk Q_BK720
      have HB := Aside0.mk Q_HB
      have hc0_ : w'.cell? ⟨gb720, 0, none⟩ = some (.int .i64 a1_0) := (bqC BK720.out 0).trans rfl
      have hc1_ : w'.cell? ⟨gb720, 1, none⟩ = some (.int .i64 a1_1) := (bqC BK720.out 1).trans rfl
      have hc2_ : w'.cell? ⟨gb720, 2, none⟩ = some (.int .i64 a1_2) := (bqC BK720.out 2).trans rfl
      have hc3_ : w'.cell? ⟨gb720, 3, none⟩ = some (.int .i64 a1_3) := (bqC BK720.out 3).trans rfl
      have hc4_ : w'.cell? ⟨gb720, 4, none⟩ = some (.int .i64 a1_4) := (bqC BK720.out 4).trans rfl
      refine value_ (w1 := w') (v := .agg #[.int .i64 a1_0, .int .i64 a1_1, .int .i64 a1_2, .int .i64 a1_3, .int .i64 a1_4]) (by rfl) rfl ?_ ?_
      ·go_simp
       (try simp only [i64_w])
       try rfl
      refine hK.out _ _ ⟨v726, v729, v732, m1_, m5_, m6_, m7_, m10_, (by rw [ha.out]; exact putSel_upk 2 hb_ rfl rfl rfl), Q_BK719, Q_BK720, Q_HB, Q_HO727, fun h0_ => absurd ((hoff 5 (by kernel_rfl)).symm.trans h0_) (by decide), fun h0_ => absurd ((hoff 3 (by kernel_rfl)).symm.trans h0_) (by decide), Q_X1_, fun h0_ => absurd ((hoff 5 (by kernel_rfl)).symm.trans h0_) (by decide), fun h0_ => absurd ((hoff 6 (by kernel_rfl)).symm.trans h0_) (by decide), fun h0_ => absurd ((hoff 7 (by kernel_rfl)).symm.trans h0_) (by decide), fun h0_ => absurd ((hoff 10 (by kernel_rfl)).symm.trans h0_) (by decide)⟩
     refine steps_cons ?_ ?_
     ·rintro b a w' ⟨v726, v729, v732, m1_, m5_, m6_, m7_, m10_, ha, Q_BK719, Q_BK720, Q_HB, Q_HO727, Q_HO733, Q_HO730, Q_X1_, Q_X5_, Q_X6_, Q_X7_, Q_X10_⟩ hb_ hon hoff
      refine ⟨_, rfl, fun K hK => ?_⟩
      have e34 : a.tmps[34]? = some (.agg #[.int .i64 a1_0, .int .i64 a1_1, .int .i64 a1_2, .int .i64 a1_3, .int .i64 a1_4]) := by rw [ha]; exact putSel_on (e := (2, 34, .agg #[.int .i64 a1_0, .int .i64 a1_1, .int .i64 a1_2, .int .i64 a1_3, .int .i64 a1_4])) 2 rfl rfl (hon 2 (by kernel_rfl)) rfl
      replace ha := Aside0.mk ha
      have BK719 := Aside0.mk Q_BK719
      have BK720 := Aside0.mk Q_BK720
      have HB := Aside0.mk Q_HB
      refine Kd.R_lit_step k35 _ 35 ?hg (N := 35) ?hd (xs := ([(⟨a1_0, a1_1, a1_2, a1_3, a1_4⟩ : S35)] : List (S35))) (inner := [.int .i64 a1_0, .int .i64 a1_1, .int .i64 a1_2, .int .i64 a1_3, .int .i64 a1_4]) (ok := fun _ => True) (okp := fun _ => True) ?hr ?hp (fun _ hk => hk) trivial (Below.refl _ _) (Nat.le_refl _) (by simp) ?_; (case hd => rfl); (case hg => rfl); (case hr => first | (go_simp; done) | (go_simp; rfl)); (case hp => exact (Reps.c5 (show Kd.M k35 _ _ _ (⟨a1_0, a1_1, a1_2, a1_3, a1_4⟩ : S35) [.int .i64 a1_0, .int .i64 a1_1, .int .i64 a1_2, .int .i64 a1_3, .int .i64 a1_4] from (k35_mkM _ _ _ (⟨a1_0, a1_1, a1_2, a1_3, a1_4⟩ : S35) )) (Reps.none _ _)))
      intro v729 w24 ho25 hb hg_ hnew_
      clear hg_ hnew_
      (first | rw [← Ny728.out] at ho25 | (simp only [Int.reduceToNat] at ho25; rw [← Ny728.out] at ho25))
      have n0_ := Aside0.mk (Kd.R_lower (Kd.R_newB ho25 (GS.bqX BK720.out)) (lqZ (GS.lB HB.out)))
      have n1_ := Aside0.mk (bqB (GS.bqX BK719.out) hb)
      have n2_ := Aside0.mk (bqB (GS.bqX BK720.out) hb)
      have n3_ := Aside0.mk (lqT (GS.lB HB.out) hb)
      have z_HO727 := fun (h0_ : b 1 = true) => (show Kd.R k60 60 w24 w.heap.size (fun _ => True) v726 t725 from by first | exact (Kd.R_below (GS.rR (Q_HO727 h0_)) hb) | exact Kd.R_mono (Kd.R_below (GS.rR (Q_HO727 h0_)) hb) (fun _ hk => GS.cj hk))
      clear BK719
      clear BK720
      clear HB
      have HO730 := n0_
      have BK719 := n1_
      have BK720 := n2_
      have HB := n3_
      clear n0_ n1_ n2_ n3_
      clear hb ho25
      refine hK.out _ _ ⟨v726, v729, v732, m1_, m5_, m6_, m7_, m10_, (by rw [ha.out]; exact putSel_upk 3 hb_ rfl rfl rfl), (GS.bqX BK719.out), (GS.bqX BK720.out), (GS.lB HB.out), z_HO727, fun h0_ => absurd ((hoff 5 (by kernel_rfl)).symm.trans h0_) (by decide), fun _ => (GS.rR (Kd.R_mono HO730.out (fun _ hk => GS.cj hk))), Q_X1_, fun h0_ => absurd ((hoff 5 (by kernel_rfl)).symm.trans h0_) (by decide), fun h0_ => absurd ((hoff 6 (by kernel_rfl)).symm.trans h0_) (by decide), fun h0_ => absurd ((hoff 7 (by kernel_rfl)).symm.trans h0_) (by decide), fun h0_ => absurd ((hoff 10 (by kernel_rfl)).symm.trans h0_) (by decide)⟩
     refine steps_cons ?_ ?_
     ·rintro b a w' ⟨v726, v729, v732, m1_, m5_, m6_, m7_, m10_, ha, Q_BK719, Q_BK720, Q_HB, Q_HO727, Q_HO733, Q_HO730, Q_X1_, Q_X5_, Q_X6_, Q_X7_, Q_X10_⟩ hb_ hon hoff
      refine ⟨_, rfl, fun K hK => ?_⟩
      have e33 : a.tmps[33]? = some (m1_) := by rw [ha]; exact putSel_on (e := (1, 33, m1_)) 1 rfl rfl (hon 1 (by kernel_rfl)) rfl
      rw [Q_X1_ (hon 1 (by kernel_rfl))] at e33
      have e35 : a.tmps[35]? = some (v729) := by rw [ha]; exact putSel_on (e := (3, 35, v729)) 3 rfl rfl (hon 3 (by kernel_rfl)) rfl
      have e36 : a.tmps[36]? = some (.int .i64 (wrap64 (a1_3 + (Int.tmod (wrap64 (a2)) 60)))) := by rw [ha]; exact (putSel_off rfl).trans rfl
      replace ha := Aside0.mk ha
      have BK719 := Aside0.mk Q_BK719
      have BK720 := Aside0.mk Q_BK720
      have HB := Aside0.mk Q_HB
      have HO727 := Aside0.mk (Q_HO727 (hon 1 (by kernel_rfl)))
      have HO730 := Aside0.mk (Q_HO730 (hon 3 (by kernel_rfl)))
      obtain ⟨Ao28, co28, eo28⟩ := Kd.R_slice HO727.out
      (first | subst eo28 | (injection eo28 with f1_ f2_ f3_; have f4_ := f1_.symm; have f5_ := f3_.symm; clear f1_ f2_ f3_; subst f4_; subst f5_))
      obtain ⟨Ao29, co29, eo29⟩ := Kd.R_slice HO730.out
      (first | subst eo29 | (injection eo29 with f1_ f2_ f3_; have f4_ := f1_.symm; have f5_ := f3_.symm; clear f1_ f2_ f3_; subst f4_; subst f5_))
      refine goes_ Try.func11 (by kernel_rfl) rfl #[.agg #[.int .i64 t724, .slice Ao28 t725.length co28], .slice Ao29 y728.length co29, .int .i64 (wrap64 (a1_3 + (Int.tmod (wrap64 (a2)) 60)))] (by rfl) rfl rfl (by first | (simp only [List.map_toArray, List.map_cons, List.map_nil, Act.eval, Array.getD_eq_getD_getElem?, Option.getD_some, e33, e35, e36]; done) | (simp only [List.map_toArray, List.map_cons, List.map_nil, Act.eval, Array.getD_eq_getD_getElem?, Option.getD_some, e33, e35, e36]; rfl)) ?_
      with_reducible refine (liability_Greatest.calls kj3 t724 _ _ t725 _ _ y728 (wrap64 (a1_3 + (Int.tmod (wrap64 (a2)) 60))) t731 t734 t735 _ ?side1 ?side2 ?side3 ?side4 A19.out).mono ?_
      (case side1 => repeat (first | exact (Kd.R_reads' HO727.out).2.2 | (with_reducible refine Kd.C_alloc ?_ _) | (with_reducible refine Kd.C_drewN ?_ _) | (with_reducible refine Kd.C_drew ?_)))
      (case side2 => exact (Kd.R_reads' HO727.out).2.1)
      (case side3 => repeat (first | exact (Kd.R_reads' HO730.out).2.2 | (with_reducible refine Kd.C_alloc ?_ _) | (with_reducible refine Kd.C_drewN ?_ _) | (with_reducible refine Kd.C_drew ?_)))
      (case side4 => exact (Kd.R_reads' HO730.out).2.1)
      rintro e w30 ⟨v732, rfl, ho0, hb⟩
      refine ⟨_, rfl, ?_⟩
      have n0_ := Aside0.mk (Kd.R_below (GS.rR HO727.out) hb)
      have n1_ := Aside0.mk (Kd.R_below (GS.rR HO730.out) hb)
      have n2_ := Aside0.mk (Kd.R_lower ho0 (lqZ (GS.lB HB.out)))
      have n3_ := Aside0.mk (bqB (GS.bqX BK719.out) hb)
      have n4_ := Aside0.mk (bqB (GS.bqX BK720.out) hb)
      have n5_ := Aside0.mk (lqT (GS.lB HB.out) hb)
      clear HO727
      clear HO730
      clear BK719
      clear BK720
      clear HB
      have HO727 := n0_
      have HO730 := n1_
      have HO733 := n2_
      have BK719 := n3_
      have BK720 := n4_
      have HB := n5_
      clear n0_ n1_ n2_ n3_ n4_ n5_
      (try clear hb)
      (try clear hb2)
      (try clear hk)
      (try clear hi)
      (try clear ho0)
      refine hK.out _ _ ⟨.slice Ao28 t725.length co28, .slice Ao29 y728.length co29, v732, m1_, (.tuple #[v732, .int .i64 t734, .int .i64 t735]), m6_, m7_, m10_, (by rw [ha.out]; exact putSel_upk 4 hb_ rfl rfl rfl), (GS.bqX BK719.out), (GS.bqX BK720.out), (GS.lB HB.out), fun _ => (GS.rR HO727.out), fun _ => (GS.rR HO733.out), fun _ => (GS.rR HO730.out), Q_X1_, fun _ => rfl, fun h0_ => absurd ((hoff 6 (by kernel_rfl)).symm.trans h0_) (by decide), fun h0_ => absurd ((hoff 7 (by kernel_rfl)).symm.trans h0_) (by decide), fun h0_ => absurd ((hoff 10 (by kernel_rfl)).symm.trans h0_) (by decide)⟩
     refine steps_cons ?_ ?_
     ·rintro b a w' ⟨v726, v729, v732, m1_, m5_, m6_, m7_, m10_, ha, Q_BK719, Q_BK720, Q_HB, Q_HO727, Q_HO733, Q_HO730, Q_X1_, Q_X5_, Q_X6_, Q_X7_, Q_X10_⟩ hb_ hon hoff
      refine ⟨_, rfl, fun K hK => ?_⟩
      have e37 : a.tmps[37]? = some (m5_) := by rw [ha]; exact putSel_on (e := (5, 37, m5_)) 4 rfl rfl (hon 5 (by kernel_rfl)) rfl
      rw [Q_X5_ (hon 5 (by kernel_rfl))] at e37
      replace ha := Aside0.mk ha
      have BK719 := Aside0.mk Q_BK719
      have BK720 := Aside0.mk Q_BK720
      have HB := Aside0.mk Q_HB
      have HO727 := Aside0.mk (Q_HO727 (hon 1 (by kernel_rfl)))
      have HO733 := Aside0.mk (Q_HO733 (hon 5 (by kernel_rfl)))
      have HO730 := Aside0.mk (Q_HO730 (hon 3 (by kernel_rfl)))
      refine value_ (w1 := w') (v := .tuple #[v732, .int .i64 t734, .int .i64 t735]) (by rfl) rfl ?_ ?_
      ·go_simp
       (try simp only [i64_w])
       try rfl
      refine hK.out _ _ ⟨v726, v729, v732, m1_, m5_, (.tuple #[v732, .int .i64 t734, .int .i64 t735]), m7_, m10_, (by rw [ha.out]; exact putSel_upk 5 hb_ rfl rfl rfl), Q_BK719, Q_BK720, Q_HB, Q_HO727, Q_HO733, Q_HO730, Q_X1_, Q_X5_, fun _ => rfl, fun h0_ => absurd ((hoff 7 (by kernel_rfl)).symm.trans h0_) (by decide), fun h0_ => absurd ((hoff 10 (by kernel_rfl)).symm.trans h0_) (by decide)⟩
     refine steps_cons ?_ ?_
     ·rintro b a w' ⟨v726, v729, v732, m1_, m5_, m6_, m7_, m10_, ha, Q_BK719, Q_BK720, Q_HB, Q_HO727, Q_HO733, Q_HO730, Q_X1_, Q_X5_, Q_X6_, Q_X7_, Q_X10_⟩ hb_ hon hoff
      refine ⟨_, rfl, fun K hK => ?_⟩
      have e31 : a.tmps[31]? = some (m6_) := by rw [ha]; exact putSel_on (e := (6, 31, m6_)) 5 rfl rfl (hon 6 (by kernel_rfl)) rfl
      rw [Q_X6_ (hon 6 (by kernel_rfl))] at e31
      replace ha := Aside0.mk ha
      have BK719 := Aside0.mk Q_BK719
      have BK720 := Aside0.mk Q_BK720
      have HB := Aside0.mk Q_HB
      have HO727 := Aside0.mk (Q_HO727 (hon 1 (by kernel_rfl)))
      have HO733 := Aside0.mk (Q_HO733 (hon 5 (by kernel_rfl)))
      have HO730 := Aside0.mk (Q_HO730 (hon 3 (by kernel_rfl)))
      obtain ⟨Ao7_0, co7_0, eo_⟩ := Kd.R_slice HO733.out
      subst eo_
      refine value_ (w1 := w') (v := .slice Ao7_0 t731.length co7_0) (by rfl) rfl ?_ ?_
      ·go_simp
       (try simp only [i64_w])
       try rfl
      refine hK.out _ _ ⟨v726, v729, .slice Ao7_0 t731.length co7_0, m1_, m5_, m6_, (.slice Ao7_0 t731.length co7_0), m10_, (by rw [ha.out]; exact putSel_upk 6 hb_ rfl rfl rfl), Q_BK719, Q_BK720, Q_HB, Q_HO727, Q_HO733, Q_HO730, Q_X1_, Q_X5_, Q_X6_, fun _ => rfl, fun h0_ => absurd ((hoff 10 (by kernel_rfl)).symm.trans h0_) (by decide)⟩
     refine steps_cons ?_ ?_
     ·rintro b a w' ⟨v726, v729, v732, m1_, m5_, m6_, m7_, m10_, ha, Q_BK719, Q_BK720, Q_HB, Q_HO727, Q_HO733, Q_HO730, Q_X1_, Q_X5_, Q_X6_, Q_X7_, Q_X10_⟩ hb_ hon hoff
      refine ⟨_, rfl, fun K hK => ?_⟩
      have e31 : a.tmps[31]? = some (m6_) := by rw [ha]; exact putSel_on (e := (6, 31, m6_)) 5 rfl rfl (hon 6 (by kernel_rfl)) rfl
      rw [Q_X6_ (hon 6 (by kernel_rfl))] at e31
      replace ha := Aside0.mk ha
      have BK719 := Aside0.mk Q_BK719
      have BK720 := Aside0.mk Q_BK720
      have HB := Aside0.mk Q_HB
      have HO727 := Aside0.mk (Q_HO727 (hon 1 (by kernel_rfl)))
      have HO733 := Aside0.mk (Q_HO733 (hon 5 (by kernel_rfl)))
      have HO730 := Aside0.mk (Q_HO730 (hon 3 (by kernel_rfl)))
      obtain ⟨Ao8_0, co8_0, eo_⟩ := Kd.R_slice HO733.out
      subst eo_
      refine value_ (w1 := w') (v := .int .i64 t734) (by rfl) rfl ?_ ?_
      ·go_simp
       (try simp only [i64_w])
       try rfl
      refine hK.out _ _ ⟨v726, v729, .slice Ao8_0 t731.length co8_0, m1_, m5_, m6_, m7_, m10_, (by rw [ha.out]; exact putSel_upk 7 hb_ rfl rfl rfl), Q_BK719, Q_BK720, Q_HB, Q_HO727, Q_HO733, Q_HO730, Q_X1_, Q_X5_, Q_X6_, Q_X7_, Q_X10_⟩
     refine steps_cons ?_ ?_
     ·rintro b a w' ⟨v726, v729, v732, m1_, m5_, m6_, m7_, m10_, ha, Q_BK719, Q_BK720, Q_HB, Q_HO727, Q_HO733, Q_HO730, Q_X1_, Q_X5_, Q_X6_, Q_X7_, Q_X10_⟩ hb_ hon hoff
      refine ⟨_, rfl, fun K hK => ?_⟩
      have e31 : a.tmps[31]? = some (m6_) := by rw [ha]; exact putSel_on (e := (6, 31, m6_)) 5 rfl rfl (hon 6 (by kernel_rfl)) rfl
      rw [Q_X6_ (hon 6 (by kernel_rfl))] at e31
      replace ha := Aside0.mk ha
      have BK719 := Aside0.mk Q_BK719
      have BK720 := Aside0.mk Q_BK720
      have HB := Aside0.mk Q_HB
      have HO727 := Aside0.mk (Q_HO727 (hon 1 (by kernel_rfl)))
      have HO733 := Aside0.mk (Q_HO733 (hon 5 (by kernel_rfl)))
      have HO730 := Aside0.mk (Q_HO730 (hon 3 (by kernel_rfl)))
      obtain ⟨Ao9_0, co9_0, eo_⟩ := Kd.R_slice HO733.out
      subst eo_
      refine value_ (w1 := w') (v := .int .i64 t735) (by rfl) rfl ?_ ?_
      ·go_simp
       (try simp only [i64_w])
       try rfl
      refine hK.out _ _ ⟨v726, v729, .slice Ao9_0 t731.length co9_0, m1_, m5_, m6_, m7_, m10_, (by rw [ha.out]; exact putSel_upk 8 hb_ rfl rfl rfl), Q_BK719, Q_BK720, Q_HB, Q_HO727, Q_HO733, Q_HO730, Q_X1_, Q_X5_, Q_X6_, Q_X7_, Q_X10_⟩
     refine steps_cons ?_ ?_
     ·rintro b a w' ⟨v726, v729, v732, m1_, m5_, m6_, m7_, m10_, ha, Q_BK719, Q_BK720, Q_HB, Q_HO727, Q_HO733, Q_HO730, Q_X1_, Q_X5_, Q_X6_, Q_X7_, Q_X10_⟩ hb_ hon hoff
      refine ⟨_, rfl, fun K hK => ?_⟩
      have e38 : a.tmps[38]? = some (m7_) := by rw [ha]; exact putSel_on (e := (7, 38, m7_)) 6 rfl rfl (hon 7 (by kernel_rfl)) rfl
      rw [Q_X7_ (hon 7 (by kernel_rfl))] at e38
      replace ha := Aside0.mk ha
      have BK719 := Aside0.mk Q_BK719
      have BK720 := Aside0.mk Q_BK720
      have HB := Aside0.mk Q_HB
      have HO727 := Aside0.mk (Q_HO727 (hon 1 (by kernel_rfl)))
      have HO733 := Aside0.mk (Q_HO733 (hon 5 (by kernel_rfl)))
      have HO730 := Aside0.mk (Q_HO730 (hon 3 (by kernel_rfl)))
      refine value_ (w1 := w') (v := v732) (by rfl) rfl ?_ ?_
      ·go_simp
       (try simp only [i64_w])
       try rfl
      refine hK.out _ _ ⟨v726, v729, v732, m1_, m5_, m6_, m7_, (v732), (by rw [ha.out]; exact putSel_upk 9 hb_ rfl rfl rfl), Q_BK719, Q_BK720, Q_HB, Q_HO727, Q_HO733, Q_HO730, Q_X1_, Q_X5_, Q_X6_, Q_X7_, fun _ => rfl⟩
     refine steps_cons ?_ ?_
     ·rintro b a w' ⟨v726, v729, v732, m1_, m5_, m6_, m7_, m10_, ha, Q_BK719, Q_BK720, Q_HB, Q_HO727, Q_HO733, Q_HO730, Q_X1_, Q_X5_, Q_X6_, Q_X7_, Q_X10_⟩ hb_ hon hoff
      refine ⟨_, rfl, fun K hK => ?_⟩
      have e39 : a.tmps[39]? = some (.int .i64 t734) := by rw [ha]; exact putSel_on (e := (8, 39, .int .i64 t734)) 7 rfl rfl (hon 8 (by kernel_rfl)) rfl
      replace ha := Aside0.mk ha
      have BK719 := Aside0.mk Q_BK719
      have BK720 := Aside0.mk Q_BK720
      have HB := Aside0.mk Q_HB
      have HO727 := Aside0.mk (Q_HO727 (hon 1 (by kernel_rfl)))
      have HO733 := Aside0.mk (Q_HO733 (hon 5 (by kernel_rfl)))
      have HO730 := Aside0.mk (Q_HO730 (hon 3 (by kernel_rfl)))
      refine value_ (w1 := w') (v := .int .i64 t734) (by rfl) rfl ?_ ?_
      ·go_simp
       (try simp only [i64_w])
       try rfl
      refine hK.out _ _ ⟨v726, v729, v732, m1_, m5_, m6_, m7_, m10_, (by rw [ha.out]; exact putSel_upk 10 hb_ rfl rfl rfl), Q_BK719, Q_BK720, Q_HB, Q_HO727, Q_HO733, Q_HO730, Q_X1_, Q_X5_, Q_X6_, Q_X7_, Q_X10_⟩
     refine steps_cons ?_ ?_
     ·rintro b a w' ⟨v726, v729, v732, m1_, m5_, m6_, m7_, m10_, ha, Q_BK719, Q_BK720, Q_HB, Q_HO727, Q_HO733, Q_HO730, Q_X1_, Q_X5_, Q_X6_, Q_X7_, Q_X10_⟩ hb_ hon hoff
      refine ⟨_, rfl, fun K hK => ?_⟩
      have e40 : a.tmps[40]? = some (.int .i64 t735) := by rw [ha]; exact putSel_on (e := (9, 40, .int .i64 t735)) 8 rfl rfl (hon 9 (by kernel_rfl)) rfl
      replace ha := Aside0.mk ha
      have BK719 := Aside0.mk Q_BK719
      have BK720 := Aside0.mk Q_BK720
      have HB := Aside0.mk Q_HB
      have HO727 := Aside0.mk (Q_HO727 (hon 1 (by kernel_rfl)))
      have HO733 := Aside0.mk (Q_HO733 (hon 5 (by kernel_rfl)))
      have HO730 := Aside0.mk (Q_HO730 (hon 3 (by kernel_rfl)))
      refine value_ (w1 := w') (v := .int .i64 t735) (by rfl) rfl ?_ ?_
      ·go_simp
       (try simp only [i64_w])
       try rfl
      refine hK.out _ _ ⟨v726, v729, v732, m1_, m5_, m6_, m7_, m10_, (by rw [ha.out]; exact putSel_upk 11 hb_ rfl rfl rfl), Q_BK719, Q_BK720, Q_HB, Q_HO727, Q_HO733, Q_HO730, Q_X1_, Q_X5_, Q_X6_, Q_X7_, Q_X10_⟩
     exact steps_nil
    rintro b a w30 hall ⟨v726, v729, v732, m1_, m5_, m6_, m7_, m10_, ha, Q_BK719, Q_BK720, Q_HB, Q_HO727, Q_HO733, Q_HO730, Q_X1_, Q_X5_, Q_X6_, Q_X7_, Q_X10_⟩
    clear BK719 BK720 HB
    have hb0_ := hall 0 (by kernel_rfl)
    have hb1_ := hall 1 (by kernel_rfl)
    have hb2_ := hall 2 (by kernel_rfl)
    have hb3_ := hall 3 (by kernel_rfl)
    have hb5_ := hall 5 (by kernel_rfl)
    have hb6_ := hall 6 (by kernel_rfl)
    have hb7_ := hall 7 (by kernel_rfl)
    have hb8_ := hall 8 (by kernel_rfl)
    have hb9_ := hall 9 (by kernel_rfl)
    have hb10_ := hall 10 (by kernel_rfl)
    have hb11_ := hall 11 (by kernel_rfl)
    have hb12_ := hall 12 (by kernel_rfl)
    subst ha
    obtain rfl := Q_X1_ hb1_
    obtain rfl := Q_X5_ hb5_
    obtain rfl := Q_X6_ hb6_
    obtain rfl := (Q_X7_ hb7_).symm
    obtain rfl := (Q_X10_ hb10_).symm
    simp only [putSel, hb0_, hb1_, hb2_, hb3_, hb5_, hb6_, hb7_, hb8_, hb9_, hb10_, hb11_, hb12_, if_true, Act.put, List.setIfInBounds_toArray, List.set_cons_zero, List.set_cons_succ]
    have BK719 := Aside0.mk Q_BK719
    clear Q_BK719
    have BK720 := Aside0.mk Q_BK720
    clear Q_BK720
    have HB := Aside0.mk Q_HB
    clear Q_HB
    have HO727 := Aside0.mk (Q_HO727 hb1_)
    clear Q_HO727
    have HO733 := Aside0.mk (Q_HO733 hb5_)
    clear Q_HO733
    have HO730 := Aside0.mk (Q_HO730 hb3_)
    clear Q_HO730
    clear hall hb0_ hb1_ hb2_ hb3_ hb5_ hb6_ hb7_ hb8_ hb9_ hb10_ hb11_ hb12_
    go_upto_region 5 with (fail)
    go_cut [47] (fun v47 wc => ∃ (kq : Nat) (x47_19 : Bool), v47 = .bool x47_19 ∧ Aside0 (spilelaw51_LiabilityEnumerated.j1 kq (wrap64 (a1_3 + (Int.tmod (wrap64 (a2)) 60))) t731 x47_19 a0_0 l0_1 a1_0 a1_1 a1_2 a1_3 a1_4 = some r) ∧ Aside0 (kq ≤ kj3) ∧ Aside0 (Kd.R (Kd.int .i64) 3 wc w.heap.size (fun _ => True) v732 t731) ∧ Aside0 (wc.heap[gb719]? = some (.cells #[.int .i64 a0_0, (.slice A0_1 l0_1.length c0_1)] 24 (0, 0))) ∧ Aside0 (wc.heap[gb720]? = some (.cells #[.int .i64 a1_0, .int .i64 a1_1, .int .i64 a1_2, .int .i64 a1_3, .int .i64 a1_4] 35 (0, 0))) ∧ Aside0 (Below w.heap.size w wc))
    case first =>
     have H := HC20.out
     clear HC20
     by_cases c31 : t735 = 0
     ·rw [if_pos c31] at H
      have c31b0 : (t735 == 0) = true := beq_iff_eq.mpr c31
      try simp only [beq_self_eq_true, Bool.not_true, Bool.false_or, Bool.true_and] at c31b0
      have c31b1 : (t735 != 0) = false := bne_eq_false_iff_eq.mpr c31
      clear c31
      (first | rw [c31b0] | (simp only [i64_w, i32_w]; rw [c31b0]) | skip)
      have H' := Aside0.mk H
      clear H
      obtain ⟨Ao32, co32, eo32⟩ := Kd.R_slice HO733.out
      subst eo32
      go_wp2
      go_meet
      case rel => exact ⟨_, (((t731.length : Int) != 1)), (by first | rfl | (simp; done) | (simp [*]; done)), H', ⟨by have := HJ3.out; first | omega | exact Nat.le_refl _⟩, ⟨by (with_reducible repeat (first | apply Kd.R_alloc | apply Kd.R_drewN | apply Kd.R_drew)); exact HO733.out⟩, ⟨GS.bqX BK719.out⟩, ⟨GS.bqX BK720.out⟩, ⟨GS.lB HB.out⟩⟩
     ·rw [if_neg c31] at H
      have c31b0 : (t735 == 0) = false := beq_eq_false_iff_ne.mpr c31
      try simp only [beq_self_eq_true, Bool.not_true, Bool.false_or, Bool.true_and] at c31b0
      have c31b1 : (t735 != 0) = true := bne_iff_ne.mpr c31
      (first | rw [c31b0] | (simp only [i64_w, i32_w]; rw [c31b0]) | skip)
      have H' := Aside0.mk H
      clear H
      go_wp2
      go_meet
      case rel => exact ⟨_, (true), (by first | rfl | (simp; done) | (simp [*]; done)), H', ⟨by have := HJ3.out; first | omega | exact Nat.le_refl _⟩, ⟨by (with_reducible repeat (first | apply Kd.R_alloc | apply Kd.R_drewN | apply Kd.R_drew)); exact HO733.out⟩, ⟨GS.bqX BK719.out⟩, ⟨GS.bqX BK720.out⟩, ⟨GS.lB HB.out⟩⟩
    case rest =>
     clear HC20
     try clear c1
     try clear c2
     try clear p2
     try clear c3
     try clear c4
     try clear c5
     try clear p6
     try clear c7
     try clear c8
     try clear c9
     try clear c11
     try clear c12
     try clear c15
     try clear c21
     try clear c31
     try clear c31b0
     try clear c31b1
     try clear hcz12_0
     try clear hcz12_1
     try clear hcz22_0
     try clear hcz22_1
     try clear hcz22_2
     try clear hcz22_3
     try clear hcz22_4
     try clear hfz12_0
     try clear hfz12_1
     try clear hfz22_0
     try clear hfz22_1
     try clear hfz22_2
     try clear hfz22_3
     try clear hfz22_4
     try clear p2
     obtain ⟨kq, x47_19, rfl, HA, HJ19, HO_8, BK719, BK720, HB⟩ := hcut
     cases kq with
     | zero => exact absurd HA.out (by simp [spilelaw51_LiabilityEnumerated.j1])
     | succ kj19 =>
      have H := HA.out
      clear HA
      simp only [spilelaw51_LiabilityEnumerated.j1] at H
      by_cases c33 : x47_19 = true
      ·subst c33
       have H1 : (some ((t731.length : Int) == 0)) = some r := by rw [if_pos rfl] at H; exact H
       clear H
       have H := H1
       clear H1
       obtain rfl := Option.some.inj H
       obtain ⟨Ao34, co34, eo34⟩ := Kd.R_slice HO_8.out
       subst eo34
       go_wp2
       go_ret
       exact ⟨by first | rfl | (simp [errW_none, errW_some] <;> rfl) | (simp [*, errW_none, errW_some] <;> rfl), GS.lB HB.out⟩
      ·replace c33 := Bool.eq_false_iff.mpr c33
       subst c33
       have H1 : (spilelaw51_LiabilityEnumerated.l0 kj19 (wrap64 (a1_3 + (Int.tmod (wrap64 (a2)) 60))) t731 0 a1_3 a0_0 l0_1 a1_0 a1_1 a1_2 a1_3 a1_4) = some r := by rw [if_neg (show ¬ (false = true) by decide)] at H; exact H
       clear H
       have H := H1
       clear H1
       have H' := Aside0.mk H
       clear H
       have hnb35 := NB720_719.out
       have hnc35 := NB719_720.out
       obtain ⟨hcz36_0, hcz36_1, hcz36_2, hcz36_3, hcz36_4, hfz36_0, hfz36_1, hfz36_2, hfz36_3, hfz36_4⟩ := GS.c5 BK720.out
       go_wp2
       go_loopg [11, 12] kj19 (fun kq v11 v12 w' => ∃ (x11_3 : Int) (x12_3 : Int), v11 = .int .i64 x11_3 ∧ v12 = .int .i64 x12_3 ∧ Aside0 (spilelaw51_LiabilityEnumerated.l0 kq (wrap64 (a1_3 + (Int.tmod (wrap64 (a2)) 60))) t731 x11_3 x12_3 a0_0 l0_1 a1_0 a1_1 a1_2 a1_3 a1_4 = some r) ∧ Aside0 (kq ≤ kj19) ∧ Aside0 (Kd.R (Kd.int .i64) 3 w' w.heap.size (fun _ => True) v732 t731) ∧ Aside0 (w'.heap[gb719]? = some (.cells #[.int .i64 a0_0, (.slice A0_1 l0_1.length c0_1)] 24 (0, 0))) ∧ Aside0 (w'.heap[gb720]? = some (.cells #[.int .i64 a1_0, .int .i64 a1_1, .int .i64 a1_2, .int .i64 a1_3, .int .i64 a1_4] 35 (0, 0))) ∧ Aside0 (Below w.heap.size w w'))
       case atStart => exact ⟨(0), (a1_3), (by first | rfl | (simp; done) | (simp [*]; done)), (by first | rfl | (simp; done) | (simp [*]; done)), H', ⟨Nat.le_refl _⟩, ⟨by (with_reducible repeat (first | apply Kd.R_alloc | apply Kd.R_drewN | apply Kd.R_drew)); exact HO_8.out⟩, ⟨GS.bqX BK719.out⟩, ⟨GS.bqX BK720.out⟩, ⟨GS.lB HB.out⟩⟩
       case round =>
        clear H'
        try clear c1
        try clear c2
        try clear p2
        try clear c3
        try clear c4
        try clear c5
        try clear p6
        try clear c7
        try clear c8
        try clear c9
        try clear c11
        try clear c12
        try clear c15
        try clear c21
        try clear c31
        try clear c31b0
        try clear c31b1
        try clear c33
        try clear c35
        try clear hcz12_0
        try clear hcz12_1
        try clear hcz22_0
        try clear hcz22_1
        try clear hcz22_2
        try clear hcz22_3
        try clear hcz22_4
        try clear hcz36_0
        try clear hcz36_1
        try clear hcz36_2
        try clear hcz36_3
        try clear hcz36_4
        try clear hfz12_0
        try clear hfz12_1
        try clear hfz22_0
        try clear hfz22_1
        try clear hfz22_2
        try clear hfz22_3
        try clear hfz22_4
        try clear hfz36_0
        try clear hfz36_1
        try clear hfz36_2
        try clear hfz36_3
        try clear hfz36_4
        try clear p2
        try clear p6
        obtain ⟨x11_3, x12_3, rfl, rfl, HA, HK3, HO_8, BK719, BK720, HB⟩ := hrel
        cases gk with
        | zero => exact absurd HA.out (by simp [spilelaw51_LiabilityEnumerated.l0])
        | succ k3 =>
         have H := HA.out
         clear HA
         simp only [spilelaw51_LiabilityEnumerated.l0] at H
         by_cases c37 : x12_3 ≤ (wrap64 (a1_3 + (Int.tmod (wrap64 (a2)) 60)))
         ·rw [if_pos c37] at H
          have c37b0 : decide (x12_3 ≤ (wrap64 (a1_3 + (Int.tmod (wrap64 (a2)) 60)))) = true := decide_eq_true c37
          clear c37
          obtain ⟨y737, hy737⟩ : ∃ y_ : List (S51), y_ = (([(⟨0, 1, 0, 0⟩ : S51), (⟨0, 2, 1, 0⟩ : S51), (⟨0, 2, wrap64 (a1_4 - 1), 0⟩ : S51), (⟨0, 3, a1_4, 0⟩ : S51)] : List (S51))) := ⟨_, rfl⟩
          replace H : (spilelaw51_LiabilityEnumerated.l1 k3 (wrap64 (a1_3 + (Int.tmod (wrap64 (a2)) 60))) t731 x11_3 x12_3 y737 (y737.length : Int) 0 a0_0 l0_1 a1_0 a1_1 a1_2 a1_3 a1_4) = some r := by first | (rw [hy737]; with_reducible exact H) | (have H2_ := (Option.bind_some _ _).symm.trans H; rw [hy737]; with_reducible exact H2_) | (have H2_ := (Option.bind_some _ _).symm.trans H; with_reducible exact H2_) | with_reducible exact H | (rw [hy737]; exact H) | exact H
          have Ny737 := Aside0.mk hy737
          clear hy737
          have H' := Aside0.mk H
          clear H
          have hnb38 := NB720_719.out
          have hnc38 := NB719_720.out
          obtain ⟨hcz39_0, hcz39_1, hcz39_2, hcz39_3, hcz39_4, hfz39_0, hfz39_1, hfz39_2, hfz39_3, hfz39_4⟩ := GS.c5 BK720.out
          go_wp2_with (first | ((with_reducible refine gqD (N := 67) rfl ?_); (try (refine gate_guard (by rfl) ?_; dsimp only)); refine Kd.R_lit k51 _ 51 ?hg (N := 67) ?hd (xs := ([(⟨0, 1, 0, 0⟩ : S51), (⟨0, 2, 1, 0⟩ : S51), (⟨0, 2, wrap64 (a1_4 - 1), 0⟩ : S51), (⟨0, 3, a1_4, 0⟩ : S51)] : List (S51))) (inner := [.int .i64 0, .int .i64 1, .int .i64 0, .int .i64 0, .int .i64 0, .int .i64 2, .int .i64 1, .int .i64 0, .int .i64 0, .int .i64 2, .int .i64 (wrap64 (a1_4 - 1)), .int .i64 0, .int .i64 0, .int .i64 3, .int .i64 a1_4, .int .i64 0]) (ok := fun _ => True) (okp := fun _ => True) ?hr ?hp (fun _ hk => hk) trivial (Below.refl _ _) (Nat.le_refl _) (by simp) ?_; (case hd => rfl); (case hg => rfl); (case hr => first | (go_simp; done) | (go_simp; rfl)); (case hp => exact (Reps.c4 (show Kd.M k51 _ _ _ (⟨0, 1, 0, 0⟩ : S51) [.int .i64 0, .int .i64 1, .int .i64 0, .int .i64 0] from (k51_mkM _ _ _ (⟨0, 1, 0, 0⟩ : S51) )) (Reps.c4 (show Kd.M k51 _ _ _ (⟨0, 2, 1, 0⟩ : S51) [.int .i64 0, .int .i64 2, .int .i64 1, .int .i64 0] from (k51_mkM _ _ _ (⟨0, 2, 1, 0⟩ : S51) )) (Reps.c4 (show Kd.M k51 _ _ _ (⟨0, 2, wrap64 (a1_4 - 1), 0⟩ : S51) [.int .i64 0, .int .i64 2, .int .i64 (wrap64 (a1_4 - 1)), .int .i64 0] from (k51_mkM _ _ _ (⟨0, 2, wrap64 (a1_4 - 1), 0⟩ : S51) )) (Reps.c4 (show Kd.M k51 _ _ _ (⟨0, 3, a1_4, 0⟩ : S51) [.int .i64 0, .int .i64 3, .int .i64 a1_4, .int .i64 0] from (k51_mkM _ _ _ (⟨0, 3, a1_4, 0⟩ : S51) )) (Reps.none _ _)))))); intro v738 w40 ho41 hb hg_ hnew_; clear hg_ hnew_; (first | rw [← Ny737.out] at ho41 | (simp only [Int.reduceToNat] at ho41; rw [← Ny737.out] at ho41)); have n0_ := Aside0.mk (Kd.R_below (GS.rR HO_8.out) hb); have n1_ := Aside0.mk (Kd.R_lower ho41 (lqZ (GS.lB HB.out))); have n2_ := Aside0.mk (bqB (GS.bqX BK719.out) hb); have n3_ := Aside0.mk (bqB (GS.bqX BK720.out) hb); have n4_ := Aside0.mk (lqT (GS.lB HB.out) hb); clear HO_8; clear BK719; clear BK720; clear HB; have HO_8 := n0_; have HO739 := n1_; have BK719 := n2_; have BK720 := n3_; have HB := n4_; clear n0_ n1_ n2_ n3_ n4_; clear hb ho41; obtain ⟨Ao42, co42, eo42⟩ := Kd.R_slice HO739.out; subst eo42))
          go_loopg [11, 69] k3 (fun kq v11 v69 w' => ∃ (x11_4 : Int) (x69_4 : Int), v11 = .int .i64 x11_4 ∧ v69 = .int .i64 x69_4 ∧ Aside0 (spilelaw51_LiabilityEnumerated.l1 kq (wrap64 (a1_3 + (Int.tmod (wrap64 (a2)) 60))) t731 x11_4 x12_3 y737 (y737.length : Int) x69_4 a0_0 l0_1 a1_0 a1_1 a1_2 a1_3 a1_4 = some r) ∧ Aside0 (kq ≤ k3) ∧ Aside0 (Kd.R (Kd.int .i64) 3 w' w.heap.size (fun _ => True) v732 t731) ∧ Aside0 (Kd.R k51 51 w' w.heap.size (fun _ => True) (.slice Ao42 y737.length co42) y737) ∧ Aside0 (w'.heap[gb719]? = some (.cells #[.int .i64 a0_0, (.slice A0_1 l0_1.length c0_1)] 24 (0, 0))) ∧ Aside0 (w'.heap[gb720]? = some (.cells #[.int .i64 a1_0, .int .i64 a1_1, .int .i64 a1_2, .int .i64 a1_3, .int .i64 a1_4] 35 (0, 0))) ∧ Aside0 (Below w.heap.size w w'))
          case atStart => exact ⟨(x11_3), (0), (by first | rfl | (simp; done) | (simp [*]; done)), (by first | rfl | (simp; done) | (simp [*]; done)), H', ⟨Nat.le_refl _⟩, ⟨by (with_reducible repeat (first | apply Kd.R_alloc | apply Kd.R_drewN | apply Kd.R_drew)); exact HO_8.out⟩, ⟨by (with_reducible repeat (first | apply Kd.R_alloc | apply Kd.R_drewN | apply Kd.R_drew)); exact HO739.out⟩, ⟨GS.bqX BK719.out⟩, ⟨GS.bqX BK720.out⟩, ⟨GS.lB HB.out⟩⟩
          case round =>
           clear H'
           try clear c1
           try clear c2
           try clear p2
           try clear c3
           try clear c4
           try clear c5
           try clear p6
           try clear c7
           try clear c8
           try clear c9
           try clear c11
           try clear c12
           try clear c15
           try clear c21
           try clear c31
           try clear c31b0
           try clear c31b1
           try clear c33
           try clear c35
           try clear c37
           try clear c37b0
           try clear c38
           try clear hcz12_0
           try clear hcz12_1
           try clear hcz22_0
           try clear hcz22_1
           try clear hcz22_2
           try clear hcz22_3
           try clear hcz22_4
           try clear hcz36_0
           try clear hcz36_1
           try clear hcz36_2
           try clear hcz36_3
           try clear hcz36_4
           try clear hcz39_0
           try clear hcz39_1
           try clear hcz39_2
           try clear hcz39_3
           try clear hcz39_4
           try clear hfz12_0
           try clear hfz12_1
           try clear hfz22_0
           try clear hfz22_1
           try clear hfz22_2
           try clear hfz22_3
           try clear hfz22_4
           try clear hfz36_0
           try clear hfz36_1
           try clear hfz36_2
           try clear hfz36_3
           try clear hfz36_4
           try clear hfz39_0
           try clear hfz39_1
           try clear hfz39_2
           try clear hfz39_3
           try clear hfz39_4
           try clear p2
           try clear p6
           obtain ⟨x11_4, x69_4, rfl, rfl, HA, HK4, HO_8, HO_67, BK719, BK720, HB⟩ := hrel
           cases gk with
           | zero => exact absurd HA.out (by simp [spilelaw51_LiabilityEnumerated.l1])
           | succ k4 =>
            have H := HA.out
            clear HA
            simp only [spilelaw51_LiabilityEnumerated.l1] at H
            by_cases c43 : x69_4 < (y737.length : Int)
            ·rw [if_pos c43] at H
             have c43b0 : decide (x69_4 < (y737.length : Int)) = true := decide_eq_true c43
             clear c43
             by_cases c44 : 0 ≤ x69_4
             ·rw [if_pos c44] at H
              have c44b0 : decide (0 ≤ x69_4) = true := decide_eq_true c44
              clear c44
              by_cases c45 : x69_4 < (y737.length : Int)
              ·rw [if_pos c45] at H
               have c45b0 : decide (x69_4 < (y737.length : Int)) = true := decide_eq_true c45
               clear c45
               replace H := Option.bind_eq_some_iff.mp H
               obtain ⟨⟨t742, t743⟩, A460, H⟩ := H
               replace H : ((liability_Causes.f k4 t742 t743 a1_0 a1_1 a1_2 a1_3 a1_4 a1_0 ((rd_T51 y737 x69_4).f1) ((rd_T51 y737 x69_4).f2) x12_3 (wrap64 (a1_3 + (Int.tmod (wrap64 (a2)) 60)))).bind fun bt746 => (if bt746.2 = 0 then (spilelaw51_LiabilityEnumerated.j4 k4 (wrap64 (a1_3 + (Int.tmod (wrap64 (a2)) 60))) t731 x11_4 x12_3 bt746.1 y737 (y737.length : Int) x69_4 false a0_0 l0_1 a1_0 a1_1 a1_2 a1_3 a1_4) else (if ((rd_T51 y737 x69_4).f1) = 2 then (spilelaw51_LiabilityEnumerated.j4 k4 (wrap64 (a1_3 + (Int.tmod (wrap64 (a2)) 60))) t731 x11_4 x12_3 bt746.1 y737 (y737.length : Int) x69_4 (decide (a1_4 > 1)) a0_0 l0_1 a1_0 a1_1 a1_2 a1_3 a1_4) else (none)))) = some r := H
               have A46 := Aside0.mk A460
               clear A460
               replace H := Option.bind_eq_some_iff.mp H
               obtain ⟨⟨t746, t747⟩, A470, H⟩ := H
               replace H : (if t747 = 0 then (spilelaw51_LiabilityEnumerated.j4 k4 (wrap64 (a1_3 + (Int.tmod (wrap64 (a2)) 60))) t731 x11_4 x12_3 t746 y737 (y737.length : Int) x69_4 false a0_0 l0_1 a1_0 a1_1 a1_2 a1_3 a1_4) else (if ((rd_T51 y737 x69_4).f1) = 2 then (spilelaw51_LiabilityEnumerated.j4 k4 (wrap64 (a1_3 + (Int.tmod (wrap64 (a2)) 60))) t731 x11_4 x12_3 t746 y737 (y737.length : Int) x69_4 (decide (a1_4 > 1)) a0_0 l0_1 a1_0 a1_1 a1_2 a1_3 a1_4) else (none))) = some r := H
               have A47 := Aside0.mk A470
               clear A470
               have HC48 := Aside0.mk H
               clear H
               have p740 : 0 ≤ (x69_4 : Int) := of_decide_eq_true (by first | (with_reducible assumption) | assumption)
               have q740 : x69_4 < (y737.length : Int) := of_decide_eq_true (by first | (with_reducible assumption) | assumption)
               obtain ⟨ad740, e740, hx740_0, hx740_1, hx740_2, hx740_3⟩ := at_T51 (Kd.R_reads' HO_67.out).2.2 x69_4 p740 q740
               cases e740
               replace p740 := eq_true p740
               replace q740 := eq_true q740
               try go_wp2_with (first | ((with_reducible refine gqD (N := 14) rfl ?_); (try (refine gate_guard (by rfl) ?_; dsimp only)); refine GS.bx (N := 14) (cs := #[.int .i64 0, .int .i64 0, .int .i64 0, .int .i64 0]) (t := 51) ?_; intro gb741 hg w49 hbox hb; have n0_ := Aside0.mk (Kd.R_below (GS.rR HO_8.out) hb); have n1_ := Aside0.mk (Kd.R_below (Kd.R_elderB (GS.rR HO_67.out) gb741 (Nat.le_of_eq hg.symm)) hb); have n2_ := Aside0.mk (bqB (GS.bqX BK719.out) hb); have n3_ := Aside0.mk (bqB (GS.bqX BK720.out) hb); have n4_ := Aside0.mk (lqT (GS.lB HB.out) hb); have n5_ := Aside0.mk (hbox); have n6_ := Aside0.mk ((by rw [hg]; exact (lqZ (GS.lB HB.out)) : w.heap.size ≤ gb741)); have n7_ := Aside0.mk ((by rw [hg]; exact (lqZ (GS.lB HB.out)) : w.heap.size ≤ gb741)); have n8_ := Aside0.mk ((by rw [hg]; exact Nat.ne_of_lt (blk_lt (GS.bqX BK719.out)) : gb719 ≠ gb741)); have n9_ := Aside0.mk ((by rw [hg]; exact Nat.ne_of_gt (blk_lt (GS.bqX BK719.out)) : gb741 ≠ gb719)); have n10_ := Aside0.mk ((by rw [hg]; exact Nat.ne_of_lt (blk_lt (GS.bqX BK720.out)) : gb720 ≠ gb741)); have n11_ := Aside0.mk ((by rw [hg]; exact Nat.ne_of_gt (blk_lt (GS.bqX BK720.out)) : gb741 ≠ gb720)); clear HO_8; clear HO_67; clear BK719; clear BK720; clear HB; have HO_8 := n0_; have HO_67 := n1_; have BK719 := n2_; have BK720 := n3_; have HB := n4_; have BK741 := n5_; have GW741 := n6_; have GE741 := n7_; have NB719_741 := n8_; have NB741_719 := n9_; have NB720_741 := n10_; have NB741_720 := n11_; clear n0_ n1_ n2_ n3_ n4_ n5_ n6_ n7_ n8_ n9_ n10_ n11_; clear hb hbox hg; have hnb50 := NB741_719.out; have hnc50 := NB719_741.out; have hnb51 := NB741_720.out; have hnc51 := NB720_741.out; obtain ⟨hcz52_0, hcz52_1, hcz52_2, hcz52_3, hfz52_0, hfz52_1, hfz52_2, hfz52_3⟩ := GS.c4 BK741.out; have hnb53 := NB720_719.out; have hnc53 := NB719_720.out; obtain ⟨hcz54_0, hcz54_1, hcz54_2, hcz54_3, hcz54_4, hfz54_0, hfz54_1, hfz54_2, hfz54_3, hfz54_4⟩ := GS.c5 BK720.out))
               have n0_ : Aside0 (Kd.R (Kd.int .i64) 3 ((((((w49.setCell ⟨gb741, 0, none⟩ (.int .i64 ((rd_T51 y737 x69_4).f0))).setCell ⟨gb741, 1, none⟩ (.int .i64 ((rd_T51 y737 x69_4).f1))).setCell ⟨gb741, 2, none⟩ (.int .i64 ((rd_T51 y737 x69_4).f2))).setCell ⟨gb741, 3, none⟩ (.int .i64 ((rd_T51 y737 x69_4).f3))).setCell ⟨gb741, 0, none⟩ (.int .i64 a1_0)).setCell ⟨gb741, 3, none⟩ (.int .i64 x12_3)) w.heap.size (fun _ => True) v732 t731) := ⟨by (with_reducible repeat (first | apply Kd.R_alloc | apply Kd.R_drewN | apply Kd.R_drew)); exact Kd.R_mono (Kd.R_far (p := ⟨gb741, 3, none⟩) (Kd.R_far (p := ⟨gb741, 0, none⟩) (Kd.R_far (p := ⟨gb741, 3, none⟩) (Kd.R_far (p := ⟨gb741, 2, none⟩) (Kd.R_far (p := ⟨gb741, 1, none⟩) (Kd.R_far (p := ⟨gb741, 0, none⟩) (Kd.R_types HO_8.out BK741.out (by decide)) (fun _ hk => hk.2) (.int .i64 ((rd_T51 y737 x69_4).f0))) (fun _ hk => hk.2) (.int .i64 ((rd_T51 y737 x69_4).f1))) (fun _ hk => hk.2) (.int .i64 ((rd_T51 y737 x69_4).f2))) (fun _ hk => hk.2) (.int .i64 ((rd_T51 y737 x69_4).f3))) (fun _ hk => hk.2) (.int .i64 a1_0)) (fun _ hk => hk.2) (.int .i64 x12_3)) (fun _ hk => trivial)⟩
               have n1_ : Aside0 (Kd.R k51 51 ((((((w49.setCell ⟨gb741, 0, none⟩ (.int .i64 ((rd_T51 y737 x69_4).f0))).setCell ⟨gb741, 1, none⟩ (.int .i64 ((rd_T51 y737 x69_4).f1))).setCell ⟨gb741, 2, none⟩ (.int .i64 ((rd_T51 y737 x69_4).f2))).setCell ⟨gb741, 3, none⟩ (.int .i64 ((rd_T51 y737 x69_4).f3))).setCell ⟨gb741, 0, none⟩ (.int .i64 a1_0)).setCell ⟨gb741, 3, none⟩ (.int .i64 x12_3)) w.heap.size (fun k_ => k_ ≠ gb741) (.slice (some ad740) y737.length co42) y737) := ⟨by (with_reducible repeat (first | apply Kd.R_alloc | apply Kd.R_drewN | apply Kd.R_drew)); exact Kd.R_mono (Kd.R_far (p := ⟨gb741, 3, none⟩) (Kd.R_far (p := ⟨gb741, 0, none⟩) (Kd.R_far (p := ⟨gb741, 3, none⟩) (Kd.R_far (p := ⟨gb741, 2, none⟩) (Kd.R_far (p := ⟨gb741, 1, none⟩) (Kd.R_far (p := ⟨gb741, 0, none⟩) (Kd.R_mono HO_67.out (fun k_ hk => (⟨hk, GS.cj hk⟩ : _ ∧ k_ ≠ gb741))) (fun _ hk => hk.2) (.int .i64 ((rd_T51 y737 x69_4).f0))) (fun _ hk => hk.2) (.int .i64 ((rd_T51 y737 x69_4).f1))) (fun _ hk => hk.2) (.int .i64 ((rd_T51 y737 x69_4).f2))) (fun _ hk => hk.2) (.int .i64 ((rd_T51 y737 x69_4).f3))) (fun _ hk => hk.2) (.int .i64 a1_0)) (fun _ hk => hk.2) (.int .i64 x12_3)) (fun _ hk => GS.cj hk)⟩
               have n2_ : Aside0 (((((((w49.setCell ⟨gb741, 0, none⟩ (.int .i64 ((rd_T51 y737 x69_4).f0))).setCell ⟨gb741, 1, none⟩ (.int .i64 ((rd_T51 y737 x69_4).f1))).setCell ⟨gb741, 2, none⟩ (.int .i64 ((rd_T51 y737 x69_4).f2))).setCell ⟨gb741, 3, none⟩ (.int .i64 ((rd_T51 y737 x69_4).f3))).setCell ⟨gb741, 0, none⟩ (.int .i64 a1_0)).setCell ⟨gb741, 3, none⟩ (.int .i64 x12_3)).heap[gb719]? = some (.cells #[.int .i64 a0_0, .slice A0_1 l0_1.length c0_1] 24 (0, 0))) := ⟨GS.bqX BK719.out⟩
               have n3_ : Aside0 (((((((w49.setCell ⟨gb741, 0, none⟩ (.int .i64 ((rd_T51 y737 x69_4).f0))).setCell ⟨gb741, 1, none⟩ (.int .i64 ((rd_T51 y737 x69_4).f1))).setCell ⟨gb741, 2, none⟩ (.int .i64 ((rd_T51 y737 x69_4).f2))).setCell ⟨gb741, 3, none⟩ (.int .i64 ((rd_T51 y737 x69_4).f3))).setCell ⟨gb741, 0, none⟩ (.int .i64 a1_0)).setCell ⟨gb741, 3, none⟩ (.int .i64 x12_3)).heap[gb720]? = some (.cells #[.int .i64 a1_0, .int .i64 a1_1, .int .i64 a1_2, .int .i64 a1_3, .int .i64 a1_4] 35 (0, 0))) := ⟨GS.bqX BK720.out⟩
               have n4_ : Aside0 (((((((w49.setCell ⟨gb741, 0, none⟩ (.int .i64 ((rd_T51 y737 x69_4).f0))).setCell ⟨gb741, 1, none⟩ (.int .i64 ((rd_T51 y737 x69_4).f1))).setCell ⟨gb741, 2, none⟩ (.int .i64 ((rd_T51 y737 x69_4).f2))).setCell ⟨gb741, 3, none⟩ (.int .i64 ((rd_T51 y737 x69_4).f3))).setCell ⟨gb741, 0, none⟩ (.int .i64 a1_0)).setCell ⟨gb741, 3, none⟩ (.int .i64 x12_3)).heap[gb741]? = some (.cells #[.int .i64 a1_0, .int .i64 ((rd_T51 y737 x69_4).f1), .int .i64 ((rd_T51 y737 x69_4).f2), .int .i64 x12_3] 51 (0, 0))) := ⟨GS.bqZ BK741.out⟩
               have n5_ : Aside0 (Below w.heap.size w ((((((w49.setCell ⟨gb741, 0, none⟩ (.int .i64 ((rd_T51 y737 x69_4).f0))).setCell ⟨gb741, 1, none⟩ (.int .i64 ((rd_T51 y737 x69_4).f1))).setCell ⟨gb741, 2, none⟩ (.int .i64 ((rd_T51 y737 x69_4).f2))).setCell ⟨gb741, 3, none⟩ (.int .i64 ((rd_T51 y737 x69_4).f3))).setCell ⟨gb741, 0, none⟩ (.int .i64 a1_0)).setCell ⟨gb741, 3, none⟩ (.int .i64 x12_3))) := ⟨GS.lB HB.out⟩
               (try clear HO_8)
               (try clear HO_67)
               (try clear BK719)
               (try clear BK720)
               (try clear BK741)
               (try clear HB)
               generalize ((((((w49.setCell ⟨gb741, 0, none⟩ (.int .i64 ((rd_T51 y737 x69_4).f0))).setCell ⟨gb741, 1, none⟩ (.int .i64 ((rd_T51 y737 x69_4).f1))).setCell ⟨gb741, 2, none⟩ (.int .i64 ((rd_T51 y737 x69_4).f2))).setCell ⟨gb741, 3, none⟩ (.int .i64 ((rd_T51 y737 x69_4).f3))).setCell ⟨gb741, 0, none⟩ (.int .i64 a1_0)).setCell ⟨gb741, 3, none⟩ (.int .i64 x12_3)) = w55 at n0_ n1_ n2_ n3_ n4_ n5_ ⊢
               have HO_8 := n0_
               have HO_67 := n1_
               have BK719 := n2_
               have BK720 := n3_
               have BK741 := n4_
               have HB := n5_
               clear n0_ n1_ n2_ n3_ n4_ n5_
               have n0_ := Aside0.mk (Kd.R_drew HO_8.out)
               have n1_ := Aside0.mk (Kd.R_drew HO_67.out)
               have n2_ := Aside0.mk (bqD BK719.out)
               have n3_ := Aside0.mk (bqD BK720.out)
               have n4_ := Aside0.mk (bqD BK741.out)
               have n5_ := Aside0.mk (lqD HB.out)
               clear HO_8
               clear HO_67
               clear BK719
               clear BK720
               clear BK741
               clear HB
               have HO_8 := n0_
               have HO_67 := n1_
               have BK719 := n2_
               have BK720 := n3_
               have BK741 := n4_
               have HB := n5_
               clear n0_ n1_ n2_ n3_ n4_ n5_
               refine start_ (n := 11) (S := fun w' => w'.cell? ⟨gb719, 0, none⟩ = some (.int .i64 a0_0) ∧ w'.cell? ⟨gb719, 1, none⟩ = some (.slice A0_1 l0_1.length c0_1) ∧ w'.cell? ⟨gb720, 0, none⟩ = some (.int .i64 a1_0) ∧ w'.cell? ⟨gb720, 1, none⟩ = some (.int .i64 a1_1) ∧ w'.cell? ⟨gb720, 2, none⟩ = some (.int .i64 a1_2) ∧ w'.cell? ⟨gb720, 3, none⟩ = some (.int .i64 a1_3) ∧ w'.cell? ⟨gb720, 4, none⟩ = some (.int .i64 a1_4) ∧ w'.cell? ⟨gb741, 0, none⟩ = some (.int .i64 a1_0) ∧ w'.cell? ⟨gb741, 1, none⟩ = some (.int .i64 ((rd_T51 y737 x69_4).f1)) ∧ w'.cell? ⟨gb741, 2, none⟩ = some (.int .i64 ((rd_T51 y737 x69_4).f2)) ∧ w'.cell? ⟨gb741, 3, none⟩ = some (.int .i64 x12_3)) (ds := []) #[false, false, false, false, false, false, false, false, false, false, false] (by kernel_rfl) rfl rfl ⟨(bqC BK719.out 0).trans rfl, (bqC BK719.out 1).trans rfl, (bqC BK720.out 0).trans rfl, (bqC BK720.out 1).trans rfl, (bqC BK720.out 2).trans rfl, (bqC BK720.out 3).trans rfl, (bqC BK720.out 4).trans rfl, (bqC BK741.out 0).trans rfl, (bqC BK741.out 1).trans rfl, (bqC BK741.out 2).trans rfl, (bqC BK741.out 3).trans rfl⟩ (fun hHeld => ?_); refine with_tabW spilelaw51_LiabilityEnumerated.tab15 spilelaw51_LiabilityEnumerated.bits15 (fun HT_ HW_ => ?_)
               generalize w55.drew = w56 at HO_8 HO_67 BK719 BK720 BK741 HB hHeld ⊢
               refine pure_ (i := 4) (N := some 83) (v := ?_) (a' := ?_) #[false, false, false, false, true, false, false, false, false, false, false] rfl rfl (any_of HT_.out (by kernel_rfl)) (fun _ _ _ h => h) (Or.inl ⟨by rfl, ?_⟩) ?_ ?_
               rotate_left
               ·intro w'
                go_simp
                with_reducible rfl
               rotate_left
               ·simp only [Act.put, List.setIfInBounds_toArray, List.set_cons_zero, List.set_cons_succ, i64_w, i32_w]
                rfl
               refine take_ (i := 0) (N := some 79) (v := ?_) (a' := ?_) #[true, false, false, false, true, false, false, false, false, false, false] rfl rfl (take_ofW HT_.out HW_.out (by kernel_rfl)) (fun _ _ _ h => h) (Or.inl ⟨by rfl, ?_⟩) hHeld ?_ ?_
               rotate_left
               ·rintro w' ⟨s0, s1, s2, s3, s4, s5, s6, s7, s8, s9, s10⟩
                go_simp
                with_reducible rfl
               rotate_left
               ·simp only [Act.put, List.setIfInBounds_toArray, List.set_cons_zero, List.set_cons_succ, i64_w, i32_w]
                rfl
               refine take_ (i := 2) (N := some 81) (v := ?_) (a' := ?_) #[true, false, true, false, true, false, false, false, false, false, false] rfl rfl (take_ofW HT_.out HW_.out (by kernel_rfl)) (fun _ _ _ h => h) (Or.inl ⟨by rfl, ?_⟩) hHeld ?_ ?_
               rotate_left
               ·rintro w' ⟨s0, s1, s2, s3, s4, s5, s6, s7, s8, s9, s10⟩
                go_simp
                with_reducible rfl
               rotate_left
               ·simp only [Act.put, List.setIfInBounds_toArray, List.set_cons_zero, List.set_cons_succ, i64_w, i32_w]
                rfl
               refine take_ (i := 3) (N := some 82) (v := ?_) (a' := ?_) #[true, false, true, true, true, false, false, false, false, false, false] rfl rfl (take_ofW HT_.out HW_.out (by kernel_rfl)) (fun _ _ _ h => h) (Or.inl ⟨by rfl, ?_⟩) hHeld ?_ ?_
               rotate_left
               ·rintro w' ⟨s0, s1, s2, s3, s4, s5, s6, s7, s8, s9, s10⟩
                go_simp
                with_reducible rfl
               rotate_left
               ·simp only [Act.put, List.setIfInBounds_toArray, List.set_cons_zero, List.set_cons_succ, i64_w, i32_w]
                rfl
               refine one_ (i := 1) (N := some 80) #[true, true, true, true, true, false, false, false, false, false, false] rfl rfl (one_of HT_.out (by kernel_rfl)) (by decide) (fun K hK => ?_)
               refine goes_ Try.func12 (by kernel_rfl) rfl #[.agg #[.int .i64 a0_0, .slice A0_1 l0_1.length c0_1]] (by rfl) rfl rfl (by (try simp only [List.map_toArray, List.map_cons, List.map_nil]); first | done | rfl | (simp only [List.length_drop, List.length_take]; rfl)) ?_
               with_reducible refine (spilelaw51_ct.calls a0_0 _ _ l0_1 t742 t743 _ ?side1 ?side2 A46.out).mono ?_
               (case side1 => exact GS.rC (Kd.C_below HR0_1.out HB.out))
               (case side2 => exact HC0_1.out)
               rintro e w57 ⟨v744, rfl, ho0, hb⟩
               refine ⟨_, rfl, ?_⟩
               have n0_ := Aside0.mk (Kd.R_below (GS.rR HO_8.out) hb)
               have n1_ := Aside0.mk (Kd.R_below (GS.rR HO_67.out) hb)
               have n2_ := Aside0.mk (Kd.R_lower ho0 (lqZ (GS.lB HB.out)))
               have n3_ := Aside0.mk (bqB (GS.bqX BK719.out) hb)
               have n4_ := Aside0.mk (bqB (GS.bqX BK720.out) hb)
               have n5_ := Aside0.mk (bqB (GS.bqX BK741.out) hb)
               have n6_ := Aside0.mk (lqT (GS.lB HB.out) hb)
               clear HO_8
               clear HO_67
               clear BK719
               clear BK720
               clear BK741
               clear HB
               have HO_8 := n0_
               have HO_67 := n1_
               have HO745 := n2_
               have BK719 := n3_
               have BK720 := n4_
               have BK741 := n5_
               have HB := n6_
               clear n0_ n1_ n2_ n3_ n4_ n5_ n6_
               (try clear hb)
               (try clear hb2)
               (try clear hk)
               (try clear hi)
               (try clear ho0)
               obtain ⟨Ao58, co58, eo58⟩ := Kd.R_slice HO745.out
               (first | subst eo58 | (injection eo58 with f1_ f2_ f3_; have f4_ := f1_.symm; have f5_ := f3_.symm; clear f1_ f2_ f3_; subst f4_; subst f5_))
               refine hK.out _ _ ⟨(bqC BK719.out 0).trans rfl, (bqC BK719.out 1).trans rfl, (bqC BK720.out 0).trans rfl, (bqC BK720.out 1).trans rfl, (bqC BK720.out 2).trans rfl, (bqC BK720.out 3).trans rfl, (bqC BK720.out 4).trans rfl, (bqC BK741.out 0).trans rfl, (bqC BK741.out 1).trans rfl, (bqC BK741.out 2).trans rfl, (bqC BK741.out 3).trans rfl⟩ (fun hHeld => ?_)
               clear hK K
               refine norm_ (a' := ?_) ?_ ?_
               rotate_left
               ·show Act.put _ (some 80) _ = _
                simp only [Act.put, List.setIfInBounds_toArray, List.set_cons_zero, List.set_cons_succ, i64_w, i32_w]
                rfl
               refine one_ (i := 5) (N := some 84) #[true, true, true, true, true, true, false, false, false, false, false] rfl rfl (one_of HT_.out (by kernel_rfl)) (by decide) (fun K hK => ?_)
               refine goes_ Try.func25 (by kernel_rfl) rfl #[.agg #[.int .i64 t742, .slice Ao58 t743.length co58], .agg #[.int .i64 a1_0, .int .i64 a1_1, .int .i64 a1_2, .int .i64 a1_3, .int .i64 a1_4], .agg #[.int .i64 a1_0, .int .i64 ((rd_T51 y737 x69_4).f1), .int .i64 ((rd_T51 y737 x69_4).f2), .int .i64 x12_3], .int .i64 (wrap64 (a1_3 + (Int.tmod (wrap64 (a2)) 60)))] (by rfl) rfl rfl (by (try simp only [List.map_toArray, List.map_cons, List.map_nil]); first | done | rfl | (simp only [List.length_drop, List.length_take]; rfl)) ?_
               with_reducible refine (liability_Causes.calls k4 t742 _ _ t743 a1_0 a1_1 a1_2 a1_3 a1_4 a1_0 ((rd_T51 y737 x69_4).f1) ((rd_T51 y737 x69_4).f2) x12_3 (wrap64 (a1_3 + (Int.tmod (wrap64 (a2)) 60))) t746 t747 _ ?side1 ?side2 A47.out).mono ?_
               (case side1 => repeat (first | exact (Kd.R_reads' HO745.out).2.2 | (with_reducible refine Kd.C_alloc ?_ _) | (with_reducible refine Kd.C_drewN ?_ _) | (with_reducible refine Kd.C_drew ?_)))
               (case side2 => exact (Kd.R_reads' HO745.out).2.1)
               rintro e w59 ⟨rfl, hb⟩
               refine ⟨_, rfl, ?_⟩
               have n0_ := Aside0.mk (Kd.R_below (GS.rR HO_8.out) hb)
               have n1_ := Aside0.mk (Kd.R_below (GS.rR HO_67.out) hb)
               have n2_ := Aside0.mk (Kd.R_below (GS.rR HO745.out) hb)
               have n3_ := Aside0.mk (bqB (GS.bqX BK719.out) hb)
               have n4_ := Aside0.mk (bqB (GS.bqX BK720.out) hb)
               have n5_ := Aside0.mk (bqB (GS.bqX BK741.out) hb)
               have n6_ := Aside0.mk (lqT (GS.lB HB.out) hb)
               clear HO_8
               clear HO_67
               clear HO745
               clear BK719
               clear BK720
               clear BK741
               clear HB
               have HO_8 := n0_
               have HO_67 := n1_
               have HO745 := n2_
               have BK719 := n3_
               have BK720 := n4_
               have BK741 := n5_
               have HB := n6_
               clear n0_ n1_ n2_ n3_ n4_ n5_ n6_
               (try clear hb)
               (try clear hb2)
               (try clear hk)
               (try clear hi)
               refine hK.out _ _ ⟨(bqC BK719.out 0).trans rfl, (bqC BK719.out 1).trans rfl, (bqC BK720.out 0).trans rfl, (bqC BK720.out 1).trans rfl, (bqC BK720.out 2).trans rfl, (bqC BK720.out 3).trans rfl, (bqC BK720.out 4).trans rfl, (bqC BK741.out 0).trans rfl, (bqC BK741.out 1).trans rfl, (bqC BK741.out 2).trans rfl, (bqC BK741.out 3).trans rfl⟩ (fun hHeld => ?_)
               clear hK K
               refine norm_ (a' := ?_) ?_ ?_
               rotate_left
               ·show Act.put _ (some 84) _ = _
                simp only [Act.put, List.setIfInBounds_toArray, List.set_cons_zero, List.set_cons_succ, i64_w, i32_w]
                rfl
               refine pure_ (i := 6) (N := some 78) (v := ?_) (a' := ?_) #[true, true, true, true, true, true, true, false, false, false, false] rfl rfl (any_of HT_.out (by kernel_rfl)) (fun _ _ _ h => h) (Or.inl ⟨by rfl, ?_⟩) ?_ ?_
               rotate_left
               ·intro w'
                go_simp
                with_reducible rfl
               rotate_left
               ·simp only [Act.put, List.setIfInBounds_toArray, List.set_cons_zero, List.set_cons_succ, i64_w, i32_w]
                rfl
               refine pure_ (i := 7) (N := some 85) (v := ?_) (a' := ?_) #[true, true, true, true, true, true, true, true, false, false, false] rfl rfl (any_of HT_.out (by kernel_rfl)) (fun _ _ _ h => h) (Or.inl ⟨by rfl, ?_⟩) ?_ ?_
               rotate_left
               ·intro w'
                go_simp
                with_reducible rfl
               rotate_left
               ·simp only [Act.put, List.setIfInBounds_toArray, List.set_cons_zero, List.set_cons_succ, i64_w, i32_w]
                rfl
               refine pure_ (i := 8) (N := some 86) (v := ?_) (a' := ?_) #[true, true, true, true, true, true, true, true, true, false, false] rfl rfl (any_of HT_.out (by kernel_rfl)) (fun _ _ _ h => h) (Or.inl ⟨by rfl, ?_⟩) ?_ ?_
               rotate_left
               ·intro w'
                go_simp
                with_reducible rfl
               rotate_left
               ·simp only [Act.put, List.setIfInBounds_toArray, List.set_cons_zero, List.set_cons_succ, i64_w, i32_w]
                rfl
               refine pure_ (i := 9) (N := some 15) (v := ?_) (a' := ?_) #[true, true, true, true, true, true, true, true, true, true, false] rfl rfl (any_of HT_.out (by kernel_rfl)) (fun _ _ _ h => h) (Or.inl ⟨by rfl, ?_⟩) ?_ ?_
               rotate_left
               ·intro w'
                go_simp
                with_reducible rfl
               rotate_left
               ·simp only [Act.put, List.setIfInBounds_toArray, List.set_cons_zero, List.set_cons_succ, i64_w, i32_w]
                rfl
               refine pure_ (i := 10) (N := some 16) (v := ?_) (a' := ?_) #[true, true, true, true, true, true, true, true, true, true, true] rfl rfl (any_of HT_.out (by kernel_rfl)) (fun _ _ _ h => h) (Or.inl ⟨by rfl, ?_⟩) ?_ ?_
               rotate_left
               ·intro w'
                go_simp
                with_reducible rfl
               rotate_left
               ·simp only [Act.put, List.setIfInBounds_toArray, List.set_cons_zero, List.set_cons_succ, i64_w, i32_w]
                rfl
               refine done_ (done_of HT_.out (by kernel_rfl)) ?_
               go_upto_region 16 with (fail)
               go_cut [98] (fun v98 wc => ∃ (kq : Nat) (x98_47 : Bool), v98 = .bool x98_47 ∧ Aside0 (spilelaw51_LiabilityEnumerated.j4 kq (wrap64 (a1_3 + (Int.tmod (wrap64 (a2)) 60))) t731 x11_4 x12_3 t746 y737 (y737.length : Int) x69_4 x98_47 a0_0 l0_1 a1_0 a1_1 a1_2 a1_3 a1_4 = some r) ∧ Aside0 (kq ≤ k4) ∧ Aside0 (Kd.R (Kd.int .i64) 3 wc w.heap.size (fun _ => True) v732 t731) ∧ Aside0 (Kd.R k51 51 wc w.heap.size (fun k_ => k_ ≠ gb741) (.slice (some ad740) y737.length co42) y737) ∧ Aside0 (wc.heap[gb719]? = some (.cells #[.int .i64 a0_0, (.slice A0_1 l0_1.length c0_1)] 24 (0, 0))) ∧ Aside0 (wc.heap[gb720]? = some (.cells #[.int .i64 a1_0, .int .i64 a1_1, .int .i64 a1_2, .int .i64 a1_3, .int .i64 a1_4] 35 (0, 0))) ∧ Aside0 (wc.heap[gb741]? = some (.cells #[.int .i64 a1_0, .int .i64 ((rd_T51 y737 x69_4).f1), .int .i64 ((rd_T51 y737 x69_4).f2), .int .i64 x12_3] 51 (0, 0))) ∧ Aside0 (Below w.heap.size w wc))
               case first =>
                have H := HC48.out
                clear HC48
                by_cases c60 : t747 = 0
                ·rw [if_pos c60] at H
                 have c60b0 : (t747 == 0) = true := beq_iff_eq.mpr c60
                 try simp only [beq_self_eq_true, Bool.not_true, Bool.false_or, Bool.true_and] at c60b0
                 have c60b1 : (t747 != 0) = false := bne_eq_false_iff_eq.mpr c60
                 clear c60
                 (first | rw [c60b0] | (simp only [i64_w, i32_w]; rw [c60b0]) | skip)
                 have H' := Aside0.mk H
                 clear H
                 go_wp2
                 go_meet
                 case rel => exact ⟨_, (false), (by first | rfl | (simp; done) | (simp [*]; done)), H', ⟨by have := HJ3.out; have := HJ19.out; have := HK3.out; have := HK4.out; first | omega | exact Nat.le_refl _⟩, ⟨by (with_reducible repeat (first | apply Kd.R_alloc | apply Kd.R_drewN | apply Kd.R_drew)); exact HO_8.out⟩, ⟨by (with_reducible repeat (first | apply Kd.R_alloc | apply Kd.R_drewN | apply Kd.R_drew)); exact HO_67.out⟩, ⟨GS.bqX BK719.out⟩, ⟨GS.bqX BK720.out⟩, ⟨GS.bqX BK741.out⟩, ⟨GS.lB HB.out⟩⟩
                ·rw [if_neg c60] at H
                 have c60b0 : (t747 == 0) = false := beq_eq_false_iff_ne.mpr c60
                 try simp only [beq_self_eq_true, Bool.not_true, Bool.false_or, Bool.true_and] at c60b0
                 have c60b1 : (t747 != 0) = true := bne_iff_ne.mpr c60
                 (first | rw [c60b0] | (simp only [i64_w, i32_w]; rw [c60b0]) | skip)
                 by_cases c61 : ((rd_T51 y737 x69_4).f1) = 2
                 ·rw [if_pos c61] at H
                  have c61b0 : (((rd_T51 y737 x69_4).f1) == 2) = true := beq_iff_eq.mpr c61
                  try simp only [beq_self_eq_true, Bool.not_true, Bool.false_or, Bool.true_and] at c61b0
                  have c61b1 : (((rd_T51 y737 x69_4).f1) != 2) = false := bne_eq_false_iff_eq.mpr c61
                  clear c61
                  have H' := Aside0.mk H
                  clear H
                  have hnb62 := NB741_719.out
                  have hnc62 := NB719_741.out
                  have hnb63 := NB741_720.out
                  have hnc63 := NB720_741.out
                  obtain ⟨hcz64_0, hcz64_1, hcz64_2, hcz64_3, hfz64_0, hfz64_1, hfz64_2, hfz64_3⟩ := GS.c4 BK741.out
                  have hnb65 := NB720_719.out
                  have hnc65 := NB719_720.out
                  obtain ⟨hcz66_0, hcz66_1, hcz66_2, hcz66_3, hcz66_4, hfz66_0, hfz66_1, hfz66_2, hfz66_3, hfz66_4⟩ := GS.c5 BK720.out
                  go_wp2
                  go_meet
                  case rel => exact ⟨_, (decide (a1_4 > 1)), (by first | rfl | (simp; done) | (simp [*]; done)), H', ⟨by have := HJ3.out; have := HJ19.out; have := HK3.out; have := HK4.out; first | omega | exact Nat.le_refl _⟩, ⟨by (with_reducible repeat (first | apply Kd.R_alloc | apply Kd.R_drewN | apply Kd.R_drew)); exact HO_8.out⟩, ⟨by (with_reducible repeat (first | apply Kd.R_alloc | apply Kd.R_drewN | apply Kd.R_drew)); exact HO_67.out⟩, ⟨GS.bqX BK719.out⟩, ⟨GS.bqX BK720.out⟩, ⟨GS.bqX BK741.out⟩, ⟨GS.lB HB.out⟩⟩
                 ·rw [if_neg c61] at H
                  exact absurd H (by simp)
               case rest =>
                clear HC48
                try clear c1
                try clear c2
                try clear p2
                try clear c3
                try clear c4
                try clear c5
                try clear c6
                try clear p6
                try clear c7
                try clear p7
                try clear q7
                try clear hx7
                try clear c8
                try clear c9
                try clear c11
                try clear c12
                try clear c15
                try clear c21
                try clear c25
                try clear c31
                try clear c31b0
                try clear c31b1
                try clear c33
                try clear c35
                try clear c37
                try clear c37b0
                try clear c38
                try clear c43
                try clear c43b0
                try clear c44
                try clear c44b0
                try clear c45
                try clear c45b0
                try clear c50
                try clear c51
                try clear c53
                try clear c60
                try clear c60b0
                try clear c60b1
                try clear c61
                try clear c61b0
                try clear c61b1
                try clear c62
                try clear c63
                try clear p64
                try clear c65
                try clear hcz12_0
                try clear hcz12_1
                try clear hcz22_0
                try clear hcz22_1
                try clear hcz22_2
                try clear hcz22_3
                try clear hcz22_4
                try clear hcz36_0
                try clear hcz36_1
                try clear hcz36_2
                try clear hcz36_3
                try clear hcz36_4
                try clear hcz39_0
                try clear hcz39_1
                try clear hcz39_2
                try clear hcz39_3
                try clear hcz39_4
                try clear hcz52_0
                try clear hcz52_1
                try clear hcz52_2
                try clear hcz52_3
                try clear hcz54_0
                try clear hcz54_1
                try clear hcz54_2
                try clear hcz54_3
                try clear hcz54_4
                try clear hcz64_0
                try clear hcz64_1
                try clear hcz64_2
                try clear hcz64_3
                try clear hcz66_0
                try clear hcz66_1
                try clear hcz66_2
                try clear hcz66_3
                try clear hcz66_4
                try clear hfz12_0
                try clear hfz12_1
                try clear hfz22_0
                try clear hfz22_1
                try clear hfz22_2
                try clear hfz22_3
                try clear hfz22_4
                try clear hfz36_0
                try clear hfz36_1
                try clear hfz36_2
                try clear hfz36_3
                try clear hfz36_4
                try clear hfz39_0
                try clear hfz39_1
                try clear hfz39_2
                try clear hfz39_3
                try clear hfz39_4
                try clear hfz52_0
                try clear hfz52_1
                try clear hfz52_2
                try clear hfz52_3
                try clear hfz54_0
                try clear hfz54_1
                try clear hfz54_2
                try clear hfz54_3
                try clear hfz54_4
                try clear hfz64_0
                try clear hfz64_1
                try clear hfz64_2
                try clear hfz64_3
                try clear hfz66_0
                try clear hfz66_1
                try clear hfz66_2
                try clear hfz66_3
                try clear hfz66_4
                try clear hx740_0
                try clear hx740_1
                try clear hx740_2
                try clear hx740_3
                try clear p2
                try clear p6
                try clear p740
                try clear q740
                obtain ⟨kq, x98_47, rfl, HA, HJ47, HO_8, HO_67, BK719, BK720, BK741, HB⟩ := hcut
                cases kq with
                | zero => exact absurd HA.out (by simp [spilelaw51_LiabilityEnumerated.j4])
                | succ kj47 =>
                 have H := HA.out
                 clear HA
                 simp only [spilelaw51_LiabilityEnumerated.j4] at H
                 by_cases c67 : x98_47 = true
                 ·subst c67
                  have H1 : (none) = some r := by rw [if_pos rfl] at H; exact H
                  clear H
                  have H := H1
                  clear H1
                  exact absurd H (by simp)
                 ·replace c67 := Bool.eq_false_iff.mpr c67
                  subst c67
                  have H1 : (spilelaw51_LiabilityEnumerated.l1 kj47 (wrap64 (a1_3 + (Int.tmod (wrap64 (a2)) 60))) t731 (mx x11_4 t746) x12_3 y737 (y737.length : Int) (wrap64 (x69_4 + 1)) a0_0 l0_1 a1_0 a1_1 a1_2 a1_3 a1_4) = some r := by rw [if_neg (show ¬ (false = true) by decide)] at H; exact H
                  clear H
                  have H := H1
                  clear H1
                  obtain ⟨ji68, hji68⟩ : ∃ j_ : Int, (mx x11_4 t746) = j_ := ⟨_, rfl⟩
                  replace H : (spilelaw51_LiabilityEnumerated.l1 kj47 (wrap64 (a1_3 + (Int.tmod (wrap64 (a2)) 60))) t731 ji68 x12_3 y737 (y737.length : Int) (wrap64 (x69_4 + 1)) a0_0 l0_1 a1_0 a1_1 a1_2 a1_3 a1_4) = some r := by first | (rw [hji68] at H; exact H) | (simp only [hji68] at H ⊢; exact H)
                  have hji68_ : (if x11_4 < t746 then t746 else x11_4) = ji68 := hji68
                  have H' := Aside0.mk H
                  clear H
                  go_wp2
                  go_roundg kj47
                  case measure => have := HJ3.out; have := HJ19.out; have := HK3.out; have := HK4.out; have := HJ47.out; omega
                  case rel => exact ⟨(ji68), (wrap64 (x69_4 + 1)), (by first | rfl | (simp; done) | (simp only [← hji68] <;> (first | rfl | simp)) | (simp [*]; done)), (by first | rfl | (simp; done) | (simp [*]; done)), H', ⟨by have := HJ3.out; have := HJ19.out; have := HK3.out; have := HK4.out; have := HJ47.out; omega⟩, ⟨by (with_reducible repeat (first | apply Kd.R_alloc | apply Kd.R_drewN | apply Kd.R_drew)); exact HO_8.out⟩, ⟨by (with_reducible repeat (first | apply Kd.R_alloc | apply Kd.R_drewN | apply Kd.R_drew)); exact Kd.R_mono HO_67.out (fun _ hk => trivial)⟩, ⟨GS.bqX BK719.out⟩, ⟨GS.bqX BK720.out⟩, ⟨GS.lB HB.out⟩⟩
              ·rw [if_neg c45] at H
               exact absurd H (by simp)
             ·rw [if_neg c44] at H
              exact absurd H (by simp)
            ·rw [if_neg c43] at H
             have c43b0 : decide (x69_4 < (y737.length : Int)) = false := decide_eq_false c43
             clear c43
             have H' := Aside0.mk H
             clear H
             go_wp2
             go_roundg k4
             case measure => have := HJ3.out; have := HJ19.out; have := HK3.out; have := HK4.out; omega
             case rel => exact ⟨(x11_4), (wrap64 (x12_3 + 1)), (by first | rfl | (simp; done) | (simp [*]; done)), (by first | rfl | (simp; done) | (simp [*]; done)), H', ⟨by have := HJ3.out; have := HJ19.out; have := HK3.out; have := HK4.out; omega⟩, ⟨by (with_reducible repeat (first | apply Kd.R_alloc | apply Kd.R_drewN | apply Kd.R_drew)); exact HO_8.out⟩, ⟨GS.bqX BK719.out⟩, ⟨GS.bqX BK720.out⟩, ⟨GS.lB HB.out⟩⟩
         ·rw [if_neg c37] at H
          have c37b0 : decide (x12_3 ≤ (wrap64 (a1_3 + (Int.tmod (wrap64 (a2)) 60)))) = false := decide_eq_false c37
          clear c37
          by_cases c69 : 0 < (t731.length : Int)
          ·rw [if_pos c69] at H
           have c69b0 : decide (0 < (t731.length : Int)) = true := decide_eq_true c69
           have c69b1 : decide (0 < t731.length) = true := decide_eq_true (by omega)
           clear c69
           obtain rfl := Option.some.inj H
           obtain ⟨Ao70, co70, eo70⟩ := Kd.R_slice HO_8.out
           subst eo70
           have p736 : 0 ≤ (0 : Int) := (by omega)
           have q736 : 0 < (t731.length : Int) := of_decide_eq_true (by first | (with_reducible assumption) | assumption)
           obtain ⟨ad736, e736, hx736_0⟩ := Kd.at_int (Kd.R_reads' HO_8.out).2.2 0 p736 q736
           cases e736
           have qi736 : (0 < t731.length) = True := eq_true (by omega)
           (try rw [show ((0 : Int)).toNat = 0 from rfl] at hx736_0)
           (try rw [Addr.add_zero'] at hx736_0)
           replace p736 := eq_true p736
           replace q736 := eq_true q736
           go_wp2
           go_ret
           exact ⟨by first | rfl | (simp [errW_none, errW_some] <;> rfl) | (simp [*, errW_none, errW_some] <;> rfl), GS.lB HB.out⟩
          ·rw [if_neg c69] at H
           exact absurd H (by simp)

end Go.Proofs.Ythboaobgipodiaa.K
