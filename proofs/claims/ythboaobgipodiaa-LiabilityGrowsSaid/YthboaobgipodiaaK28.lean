-- PRINTED by print.py (a twelfth state) out of the translation. Not trusted: Lean checks it.
import Derived.Test.YthboaobgipodiaaK0
import Derived.Test.YthboaobgipodiaaGShort
import Derived.Test.YthboaobgipodiaaGSym
import Derived.Test.YthboaobgipodiaaK7
import Derived.Test.YthboaobgipodiaaK17
import Derived.Test.YthboaobgipodiaaK18
import Derived.Test.YthboaobgipodiaaGBonds
import Derived.Test.YthboaobgipodiaaGClone
namespace Go.Proofs.Ythboaobgipodiaa.K
open Go.RowKit Go.Proofs.YthboaobgipodiaaW.PrintWords Go.Proofs.YthboaobgipodiaaW.PrintLast Go.Proofs.YthboaobgipodiaaW.PrintMore
attribute [local go_sem] max2_int min2_int max_two min_two max_three min_three max_four min_four   -- for this text's walks alone
set_option linter.unusedVariables false
set_option linter.unusedSimpArgs false

/-! ### spilelaw51_LiabilityGrows: function 8 -/
mutual
def spilelaw51_LiabilityGrows.j0 : Nat → List (S35) → Int → Int → Int → Bool → Int → List (S60) → Option (Bool)
 | 0, _, _, _, _, _, _, _ => none
 | k + 1, x1, x2, x3, x4, x41, x749000, x749001 => if x41 = true then ((spilelaw51_awake.f k).bind fun t751 => (some t751)) else ((spilelaw51_ct.f x749000 x749001).bind fun bt752 => ((clone13.f x1).bind fun t756 => ((liability_Greatest.f k bt752.1 bt752.2 t756 x2).bind fun bt759 => ((spilelaw51_ct.f x749000 x749001).bind fun bt764 => ((clone13.f x1).bind fun t768 => ((liability_Greatest.f k bt764.1 bt764.2 t768 x3).bind fun bt771 => (if bt759.2.2 = 0 then (spilelaw51_LiabilityGrows.j1 k x1 x2 x4 bt759.1 bt759.2.1 bt759.2.2 bt771.1 bt771.2.1 bt771.2.2 (bt771.2.2 != 0) x749000 x749001) else (spilelaw51_LiabilityGrows.j1 k x1 x2 x4 bt759.1 bt759.2.1 bt759.2.2 bt771.1 bt771.2.1 bt771.2.2 true x749000 x749001))))))))
def spilelaw51_LiabilityGrows.j1 : Nat → List (S35) → Int → Int → List Int → Int → Int → List Int → Int → Int → Bool → Int → List (S60) → Option (Bool)
 | 0, _, _, _, _, _, _, _, _, _, _, _, _ => none
 | k + 1, x1, x2, x4, x11, x12, x13, x14, x15, x16, x68, x749000, x749001 => if x68 = true then (if x13 = 0 then (if x16 = 0 then (none) else (some (x15 == 0))) else (if x12 = 0 then (some true) else (if x16 = 0 then (none) else (some (x15 == 0))))) else (if (x11.length : Int) = (x1.length : Int) then (if (x14.length : Int) = (x1.length : Int) then (spilelaw51_LiabilityGrows.j2 k x1 x2 x4 x11 x12 (decide (x15 < x12)) x749000 x749001) else (none)) else (none))
def spilelaw51_LiabilityGrows.j2 : Nat → List (S35) → Int → Int → List Int → Int → Bool → Int → List (S60) → Option (Bool)
 | 0, _, _, _, _, _, _, _, _ => none
 | k + 1, x1, x2, x4, x11, x12, x99, x749000, x749001 => if x99 = true then (none) else ((spilelaw51_ct.f x749000 x749001).bind fun bt776 => ((clone13.f x1).bind fun t780 => ((liability_Bonds.f k bt776.1 bt776.2 t780 x2).bind fun bt783 => (spilelaw51_LiabilityGrows.l0 k x1 x2 x4 x11 x12 bt783.1 bt783.2 0 bt783.1 (bt783.1.length : Int) 0 x749000 x749001))))
def spilelaw51_LiabilityGrows.l0 : Nat → List (S35) → Int → Int → List Int → Int → List (S42) → Int → Int → List (S42) → Int → Int → Int → List (S60) → Option (Bool)
 | 0, _, _, _, _, _, _, _, _, _, _, _, _, _ => none
 | k + 1, x1, x2, x4, x11, x12, x17, x18, x19, x109, x110, x111, x749000, x749001 => if x111 < x110 then (if 0 ≤ x111 then (if x111 < (x109.length : Int) then (if ((rd_T42 x109 x111).f1) = 0 then (if x111 > 0 then (if 0 ≤ (wrap64 (x111 - 1)) then (if (wrap64 (x111 - 1)) < (x17.length : Int) then (spilelaw51_LiabilityGrows.j4 k x1 x2 x4 x11 x12 x17 x18 x19 x109 x110 x111 (decide (((rd_T42 x109 x111).f0) ≤ ((rd_T42 x17 (wrap64 (x111 - 1))).f0))) x749000 x749001 ((rd_T42 x109 x111).f0) ((rd_T42 x109 x111).f1) ((rd_T42 x109 x111).f2)) else (none)) else (none)) else (spilelaw51_LiabilityGrows.j4 k x1 x2 x4 x11 x12 x17 x18 x19 x109 x110 x111 false x749000 x749001 ((rd_T42 x109 x111).f0) ((rd_T42 x109 x111).f1) ((rd_T42 x109 x111).f2))) else (none)) else (none)) else (none)) else (if x18 = 0 then (if x19 = x12 then (spilelaw51_LiabilityGrows.j5 k x1 x2 x4 x11 x12 x18 x19 ((x1.length : Int) == 0) x749000 x749001) else (spilelaw51_LiabilityGrows.j5 k x1 x2 x4 x11 x12 x18 x19 true x749000 x749001)) else (spilelaw51_LiabilityGrows.j5 k x1 x2 x4 x11 x12 x18 x19 true x749000 x749001))
def spilelaw51_LiabilityGrows.j4 : Nat → List (S35) → Int → Int → List Int → Int → List (S42) → Int → Int → List (S42) → Int → Int → Bool → Int → List (S60) → Int → Int → Int → Option (Bool)
 | 0, _, _, _, _, _, _, _, _, _, _, _, _, _, _, _, _, _ => none
 | k + 1, x1, x2, x4, x11, x12, x17, x18, x19, x109, x110, x111, x133, x749000, x749001, x789000, x789001, x789002 => if x133 = true then (none) else (spilelaw51_LiabilityGrows.l0 k x1 x2 x4 x11 x12 x17 x18 (wrap64 (x19 + x789002)) x109 x110 (wrap64 (x111 + 1)) x749000 x749001)
def spilelaw51_LiabilityGrows.j5 : Nat → List (S35) → Int → Int → List Int → Int → Int → Int → Bool → Int → List (S60) → Option (Bool)
 | 0, _, _, _, _, _, _, _, _, _, _ => none
 | k + 1, x1, x2, x4, x11, x12, x18, x19, x150, x749000, x749001 => if x150 = true then (if x18 = 0 then (some (x19 == x12)) else (none)) else ((spilelaw51_ct.f x749000 x749001).bind fun bt790 => (if 1 ≤ (x1.length : Int) then ((clone13.f (x1.drop 1)).bind fun t798 => ((liability_Greatest.f k bt790.1 bt790.2 t798 x2).bind fun bt801 => (if bt801.2.2 = 0 then (if 0 < (x11.length : Int) then (if bt801.2.1 = (wrap64 (x12 - (rd x11 0))) then (if x4 < 0 then (spilelaw51_LiabilityGrows.j6 k x1 x2 x4 x11 x12 bt801.2.1 bt801.2.2 true x749000 x749001) else (if 0 < (x1.length : Int) then (spilelaw51_LiabilityGrows.j6 k x1 x2 x4 x11 x12 bt801.2.1 bt801.2.2 (decide (((rd_T35 x1 0).f4) > (wrap64 (10737418240000 - x4)))) x749000 x749001) else (none))) else (spilelaw51_LiabilityGrows.j6 k x1 x2 x4 x11 x12 bt801.2.1 bt801.2.2 true x749000 x749001)) else (none)) else (spilelaw51_LiabilityGrows.j6 k x1 x2 x4 x11 x12 bt801.2.1 bt801.2.2 true x749000 x749001)))) else (none)))
def spilelaw51_LiabilityGrows.j6 : Nat → List (S35) → Int → Int → List Int → Int → Int → Int → Bool → Int → List (S60) → Option (Bool)
 | 0, _, _, _, _, _, _, _, _, _, _ => none
 | k + 1, x1, x2, x4, x11, x12, x23, x24, x192, x749000, x749001 => if x192 = true then (if x24 = 0 then (if 0 < (x11.length : Int) then (some (x23 == (wrap64 (x12 - (rd x11 0))))) else (none)) else (none)) else ((clone13.f x1).bind fun t809 => (if 0 < (t809.length : Int) then ((spilelaw51_ct.f x749000 x749001).bind fun bt814 => ((liability_Greatest.f k bt814.1 bt814.2 (t809.set (0 : Int).toNat (⟨(rd_T35 t809 0).f0, (rd_T35 t809 0).f1, (rd_T35 t809 0).f2, (rd_T35 t809 0).f3, wrap64 (((rd_T35 t809 0).f4) + x4)⟩ : S35)) x2).bind fun bt818 => (if bt818.2.2 = 0 then (some (decide (bt818.2.1 ≥ x12))) else (none)))) else (none)))
end
def spilelaw51_LiabilityGrows.f (k : Nat) (a0_0 : Int) (l0_1 : List (S60)) (l1 : List (S35)) (a2 : Int) (a3 : Int) (a4 : Int) : Option (Bool) := (spilelaw51_awake.f k).bind fun t749 => (if t749 = true then ((spilelaw51_few.f a0_0 l0_1 l1).bind fun t750 => (if t750 = true then (spilelaw51_LiabilityGrows.j0 k l1 a2 a3 a4 (decide (a3 < a2)) a0_0 l0_1) else (spilelaw51_LiabilityGrows.j0 k l1 a2 a3 a4 true a0_0 l0_1))) else (spilelaw51_LiabilityGrows.j0 k l1 a2 a3 a4 true a0_0 l0_1))
theorem spilelaw51_LiabilityGrows.mono_l : ∀ k, (∀ y0 y1 y2 y3 y4 y5 y6, LeO (spilelaw51_LiabilityGrows.j0 k y0 y1 y2 y3 y4 y5 y6) (spilelaw51_LiabilityGrows.j0 (k + 1) y0 y1 y2 y3 y4 y5 y6)) ∧ (∀ y0 y1 y2 y3 y4 y5 y6 y7 y8 y9 y10 y11, LeO (spilelaw51_LiabilityGrows.j1 k y0 y1 y2 y3 y4 y5 y6 y7 y8 y9 y10 y11) (spilelaw51_LiabilityGrows.j1 (k + 1) y0 y1 y2 y3 y4 y5 y6 y7 y8 y9 y10 y11)) ∧ (∀ y0 y1 y2 y3 y4 y5 y6 y7, LeO (spilelaw51_LiabilityGrows.j2 k y0 y1 y2 y3 y4 y5 y6 y7) (spilelaw51_LiabilityGrows.j2 (k + 1) y0 y1 y2 y3 y4 y5 y6 y7)) ∧ (∀ y0 y1 y2 y3 y4 y5 y6 y7 y8 y9 y10 y11 y12, LeO (spilelaw51_LiabilityGrows.l0 k y0 y1 y2 y3 y4 y5 y6 y7 y8 y9 y10 y11 y12) (spilelaw51_LiabilityGrows.l0 (k + 1) y0 y1 y2 y3 y4 y5 y6 y7 y8 y9 y10 y11 y12)) ∧ (∀ y0 y1 y2 y3 y4 y5 y6 y7 y8 y9 y10 y11 y12 y13 y14 y15 y16, LeO (spilelaw51_LiabilityGrows.j4 k y0 y1 y2 y3 y4 y5 y6 y7 y8 y9 y10 y11 y12 y13 y14 y15 y16) (spilelaw51_LiabilityGrows.j4 (k + 1) y0 y1 y2 y3 y4 y5 y6 y7 y8 y9 y10 y11 y12 y13 y14 y15 y16)) ∧ (∀ y0 y1 y2 y3 y4 y5 y6 y7 y8 y9, LeO (spilelaw51_LiabilityGrows.j5 k y0 y1 y2 y3 y4 y5 y6 y7 y8 y9) (spilelaw51_LiabilityGrows.j5 (k + 1) y0 y1 y2 y3 y4 y5 y6 y7 y8 y9)) ∧ (∀ y0 y1 y2 y3 y4 y5 y6 y7 y8 y9, LeO (spilelaw51_LiabilityGrows.j6 k y0 y1 y2 y3 y4 y5 y6 y7 y8 y9) (spilelaw51_LiabilityGrows.j6 (k + 1) y0 y1 y2 y3 y4 y5 y6 y7 y8 y9))
 | 0 => ⟨fun _ _ _ _ _ _ _ r h => by simp [spilelaw51_LiabilityGrows.j0] at h, fun _ _ _ _ _ _ _ _ _ _ _ _ r h => by simp [spilelaw51_LiabilityGrows.j1] at h, fun _ _ _ _ _ _ _ _ r h => by simp [spilelaw51_LiabilityGrows.j2] at h, fun _ _ _ _ _ _ _ _ _ _ _ _ _ r h => by simp [spilelaw51_LiabilityGrows.l0] at h, fun _ _ _ _ _ _ _ _ _ _ _ _ _ _ _ _ _ r h => by simp [spilelaw51_LiabilityGrows.j4] at h, fun _ _ _ _ _ _ _ _ _ _ r h => by simp [spilelaw51_LiabilityGrows.j5] at h, fun _ _ _ _ _ _ _ _ _ _ r h => by simp [spilelaw51_LiabilityGrows.j6] at h⟩
 | k + 1 => by
  obtain ⟨ih0, ih1, ih2, ih3, ih4, ih5, ih6⟩ := spilelaw51_LiabilityGrows.mono_l k
  refine ⟨?_, ?_, ?_, ?_, ?_, ?_, ?_⟩
  ·intro y0 y1 y2 y3 y4 y5 y6
   unfold spilelaw51_LiabilityGrows.j0
   repeat' first
   | (with_reducible exact ih0 _ _ _ _ _ _ _)
   | (with_reducible exact ih1 _ _ _ _ _ _ _ _ _ _ _ _)
   | (with_reducible exact ih2 _ _ _ _ _ _ _ _)
   | (with_reducible exact ih3 _ _ _ _ _ _ _ _ _ _ _ _ _)
   | (with_reducible exact ih4 _ _ _ _ _ _ _ _ _ _ _ _ _ _ _ _ _)
   | (with_reducible exact ih5 _ _ _ _ _ _ _ _ _ _)
   | (with_reducible exact ih6 _ _ _ _ _ _ _ _ _ _)
   | (with_reducible exact liability_Bonds.mono _ _ _ _ _)
   | (with_reducible exact liability_Greatest.mono _ _ _ _ _)
   | (with_reducible exact spilelaw51_awake.mono _)
   | (with_reducible exact LeO.refl _)
   | (with_reducible exact LeO.none _)
   | (with_reducible refine LeO.ite ?_ ?_)
   | (with_reducible refine LeO.bind ?_ (fun _ => ?_))
   | exact ih0 _ _ _ _ _ _ _
   | exact ih1 _ _ _ _ _ _ _ _ _ _ _ _
   | exact ih2 _ _ _ _ _ _ _ _
   | exact ih3 _ _ _ _ _ _ _ _ _ _ _ _ _
   | exact ih4 _ _ _ _ _ _ _ _ _ _ _ _ _ _ _ _ _
   | exact ih5 _ _ _ _ _ _ _ _ _ _
   | exact ih6 _ _ _ _ _ _ _ _ _ _
   | exact liability_Bonds.mono _ _ _ _ _
   | exact liability_Greatest.mono _ _ _ _ _
   | exact spilelaw51_awake.mono _
   | exact LeO.none _
   | refine LeO.ite ?_ ?_
   | refine LeO.bind ?_ (fun _ => ?_)
  ·intro y0 y1 y2 y3 y4 y5 y6 y7 y8 y9 y10 y11
   unfold spilelaw51_LiabilityGrows.j1
   repeat' first
   | (with_reducible exact ih0 _ _ _ _ _ _ _)
   | (with_reducible exact ih1 _ _ _ _ _ _ _ _ _ _ _ _)
   | (with_reducible exact ih2 _ _ _ _ _ _ _ _)
   | (with_reducible exact ih3 _ _ _ _ _ _ _ _ _ _ _ _ _)
   | (with_reducible exact ih4 _ _ _ _ _ _ _ _ _ _ _ _ _ _ _ _ _)
   | (with_reducible exact ih5 _ _ _ _ _ _ _ _ _ _)
   | (with_reducible exact ih6 _ _ _ _ _ _ _ _ _ _)
   | (with_reducible exact liability_Bonds.mono _ _ _ _ _)
   | (with_reducible exact liability_Greatest.mono _ _ _ _ _)
   | (with_reducible exact spilelaw51_awake.mono _)
   | (with_reducible exact LeO.refl _)
   | (with_reducible exact LeO.none _)
   | (with_reducible refine LeO.ite ?_ ?_)
   | (with_reducible refine LeO.bind ?_ (fun _ => ?_))
   | exact ih0 _ _ _ _ _ _ _
   | exact ih1 _ _ _ _ _ _ _ _ _ _ _ _
   | exact ih2 _ _ _ _ _ _ _ _
   | exact ih3 _ _ _ _ _ _ _ _ _ _ _ _ _
   | exact ih4 _ _ _ _ _ _ _ _ _ _ _ _ _ _ _ _ _
   | exact ih5 _ _ _ _ _ _ _ _ _ _
   | exact ih6 _ _ _ _ _ _ _ _ _ _
   | exact liability_Bonds.mono _ _ _ _ _
   | exact liability_Greatest.mono _ _ _ _ _
   | exact spilelaw51_awake.mono _
   | exact LeO.none _
   | refine LeO.ite ?_ ?_
   | refine LeO.bind ?_ (fun _ => ?_)
  ·intro y0 y1 y2 y3 y4 y5 y6 y7
   unfold spilelaw51_LiabilityGrows.j2
   repeat' first
   | (with_reducible exact ih0 _ _ _ _ _ _ _)
   | (with_reducible exact ih1 _ _ _ _ _ _ _ _ _ _ _ _)
   | (with_reducible exact ih2 _ _ _ _ _ _ _ _)
   | (with_reducible exact ih3 _ _ _ _ _ _ _ _ _ _ _ _ _)
   | (with_reducible exact ih4 _ _ _ _ _ _ _ _ _ _ _ _ _ _ _ _ _)
   | (with_reducible exact ih5 _ _ _ _ _ _ _ _ _ _)
   | (with_reducible exact ih6 _ _ _ _ _ _ _ _ _ _)
   | (with_reducible exact liability_Bonds.mono _ _ _ _ _)
   | (with_reducible exact liability_Greatest.mono _ _ _ _ _)
   | (with_reducible exact spilelaw51_awake.mono _)
   | (with_reducible exact LeO.refl _)
   | (with_reducible exact LeO.none _)
   | (with_reducible refine LeO.ite ?_ ?_)
   | (with_reducible refine LeO.bind ?_ (fun _ => ?_))
   | exact ih0 _ _ _ _ _ _ _
   | exact ih1 _ _ _ _ _ _ _ _ _ _ _ _
   | exact ih2 _ _ _ _ _ _ _ _
   | exact ih3 _ _ _ _ _ _ _ _ _ _ _ _ _
   | exact ih4 _ _ _ _ _ _ _ _ _ _ _ _ _ _ _ _ _
   | exact ih5 _ _ _ _ _ _ _ _ _ _
   | exact ih6 _ _ _ _ _ _ _ _ _ _
   | exact liability_Bonds.mono _ _ _ _ _
   | exact liability_Greatest.mono _ _ _ _ _
   | exact spilelaw51_awake.mono _
   | exact LeO.none _
   | refine LeO.ite ?_ ?_
   | refine LeO.bind ?_ (fun _ => ?_)
  ·intro y0 y1 y2 y3 y4 y5 y6 y7 y8 y9 y10 y11 y12
   unfold spilelaw51_LiabilityGrows.l0
   repeat' first
   | (with_reducible exact ih0 _ _ _ _ _ _ _)
   | (with_reducible exact ih1 _ _ _ _ _ _ _ _ _ _ _ _)
   | (with_reducible exact ih2 _ _ _ _ _ _ _ _)
   | (with_reducible exact ih3 _ _ _ _ _ _ _ _ _ _ _ _ _)
   | (with_reducible exact ih4 _ _ _ _ _ _ _ _ _ _ _ _ _ _ _ _ _)
   | (with_reducible exact ih5 _ _ _ _ _ _ _ _ _ _)
   | (with_reducible exact ih6 _ _ _ _ _ _ _ _ _ _)
   | (with_reducible exact liability_Bonds.mono _ _ _ _ _)
   | (with_reducible exact liability_Greatest.mono _ _ _ _ _)
   | (with_reducible exact spilelaw51_awake.mono _)
   | (with_reducible exact LeO.refl _)
   | (with_reducible exact LeO.none _)
   | (with_reducible refine LeO.ite ?_ ?_)
   | (with_reducible refine LeO.bind ?_ (fun _ => ?_))
   | exact ih0 _ _ _ _ _ _ _
   | exact ih1 _ _ _ _ _ _ _ _ _ _ _ _
   | exact ih2 _ _ _ _ _ _ _ _
   | exact ih3 _ _ _ _ _ _ _ _ _ _ _ _ _
   | exact ih4 _ _ _ _ _ _ _ _ _ _ _ _ _ _ _ _ _
   | exact ih5 _ _ _ _ _ _ _ _ _ _
   | exact ih6 _ _ _ _ _ _ _ _ _ _
   | exact liability_Bonds.mono _ _ _ _ _
   | exact liability_Greatest.mono _ _ _ _ _
   | exact spilelaw51_awake.mono _
   | exact LeO.none _
   | refine LeO.ite ?_ ?_
   | refine LeO.bind ?_ (fun _ => ?_)
  ·intro y0 y1 y2 y3 y4 y5 y6 y7 y8 y9 y10 y11 y12 y13 y14 y15 y16
   unfold spilelaw51_LiabilityGrows.j4
   repeat' first
   | (with_reducible exact ih0 _ _ _ _ _ _ _)
   | (with_reducible exact ih1 _ _ _ _ _ _ _ _ _ _ _ _)
   | (with_reducible exact ih2 _ _ _ _ _ _ _ _)
   | (with_reducible exact ih3 _ _ _ _ _ _ _ _ _ _ _ _ _)
   | (with_reducible exact ih4 _ _ _ _ _ _ _ _ _ _ _ _ _ _ _ _ _)
   | (with_reducible exact ih5 _ _ _ _ _ _ _ _ _ _)
   | (with_reducible exact ih6 _ _ _ _ _ _ _ _ _ _)
   | (with_reducible exact liability_Bonds.mono _ _ _ _ _)
   | (with_reducible exact liability_Greatest.mono _ _ _ _ _)
   | (with_reducible exact spilelaw51_awake.mono _)
   | (with_reducible exact LeO.refl _)
   | (with_reducible exact LeO.none _)
   | (with_reducible refine LeO.ite ?_ ?_)
   | (with_reducible refine LeO.bind ?_ (fun _ => ?_))
   | exact ih0 _ _ _ _ _ _ _
   | exact ih1 _ _ _ _ _ _ _ _ _ _ _ _
   | exact ih2 _ _ _ _ _ _ _ _
   | exact ih3 _ _ _ _ _ _ _ _ _ _ _ _ _
   | exact ih4 _ _ _ _ _ _ _ _ _ _ _ _ _ _ _ _ _
   | exact ih5 _ _ _ _ _ _ _ _ _ _
   | exact ih6 _ _ _ _ _ _ _ _ _ _
   | exact liability_Bonds.mono _ _ _ _ _
   | exact liability_Greatest.mono _ _ _ _ _
   | exact spilelaw51_awake.mono _
   | exact LeO.none _
   | refine LeO.ite ?_ ?_
   | refine LeO.bind ?_ (fun _ => ?_)
  ·intro y0 y1 y2 y3 y4 y5 y6 y7 y8 y9
   unfold spilelaw51_LiabilityGrows.j5
   repeat' first
   | (with_reducible exact ih0 _ _ _ _ _ _ _)
   | (with_reducible exact ih1 _ _ _ _ _ _ _ _ _ _ _ _)
   | (with_reducible exact ih2 _ _ _ _ _ _ _ _)
   | (with_reducible exact ih3 _ _ _ _ _ _ _ _ _ _ _ _ _)
   | (with_reducible exact ih4 _ _ _ _ _ _ _ _ _ _ _ _ _ _ _ _ _)
   | (with_reducible exact ih5 _ _ _ _ _ _ _ _ _ _)
   | (with_reducible exact ih6 _ _ _ _ _ _ _ _ _ _)
   | (with_reducible exact liability_Bonds.mono _ _ _ _ _)
   | (with_reducible exact liability_Greatest.mono _ _ _ _ _)
   | (with_reducible exact spilelaw51_awake.mono _)
   | (with_reducible exact LeO.refl _)
   | (with_reducible exact LeO.none _)
   | (with_reducible refine LeO.ite ?_ ?_)
   | (with_reducible refine LeO.bind ?_ (fun _ => ?_))
   | exact ih0 _ _ _ _ _ _ _
   | exact ih1 _ _ _ _ _ _ _ _ _ _ _ _
   | exact ih2 _ _ _ _ _ _ _ _
   | exact ih3 _ _ _ _ _ _ _ _ _ _ _ _ _
   | exact ih4 _ _ _ _ _ _ _ _ _ _ _ _ _ _ _ _ _
   | exact ih5 _ _ _ _ _ _ _ _ _ _
   | exact ih6 _ _ _ _ _ _ _ _ _ _
   | exact liability_Bonds.mono _ _ _ _ _
   | exact liability_Greatest.mono _ _ _ _ _
   | exact spilelaw51_awake.mono _
   | exact LeO.none _
   | refine LeO.ite ?_ ?_
   | refine LeO.bind ?_ (fun _ => ?_)
  ·intro y0 y1 y2 y3 y4 y5 y6 y7 y8 y9
   unfold spilelaw51_LiabilityGrows.j6
   repeat' first
   | (with_reducible exact ih0 _ _ _ _ _ _ _)
   | (with_reducible exact ih1 _ _ _ _ _ _ _ _ _ _ _ _)
   | (with_reducible exact ih2 _ _ _ _ _ _ _ _)
   | (with_reducible exact ih3 _ _ _ _ _ _ _ _ _ _ _ _ _)
   | (with_reducible exact ih4 _ _ _ _ _ _ _ _ _ _ _ _ _ _ _ _ _)
   | (with_reducible exact ih5 _ _ _ _ _ _ _ _ _ _)
   | (with_reducible exact ih6 _ _ _ _ _ _ _ _ _ _)
   | (with_reducible exact liability_Bonds.mono _ _ _ _ _)
   | (with_reducible exact liability_Greatest.mono _ _ _ _ _)
   | (with_reducible exact spilelaw51_awake.mono _)
   | (with_reducible exact LeO.refl _)
   | (with_reducible exact LeO.none _)
   | (with_reducible refine LeO.ite ?_ ?_)
   | (with_reducible refine LeO.bind ?_ (fun _ => ?_))
   | exact ih0 _ _ _ _ _ _ _
   | exact ih1 _ _ _ _ _ _ _ _ _ _ _ _
   | exact ih2 _ _ _ _ _ _ _ _
   | exact ih3 _ _ _ _ _ _ _ _ _ _ _ _ _
   | exact ih4 _ _ _ _ _ _ _ _ _ _ _ _ _ _ _ _ _
   | exact ih5 _ _ _ _ _ _ _ _ _ _
   | exact ih6 _ _ _ _ _ _ _ _ _ _
   | exact liability_Bonds.mono _ _ _ _ _
   | exact liability_Greatest.mono _ _ _ _ _
   | exact spilelaw51_awake.mono _
   | exact LeO.none _
   | refine LeO.ite ?_ ?_
   | refine LeO.bind ?_ (fun _ => ?_)
theorem spilelaw51_LiabilityGrows.mono : ∀ a0 a1 a2 a3 a4 a5 k, LeO (spilelaw51_LiabilityGrows.f k a0 a1 a2 a3 a4 a5) (spilelaw51_LiabilityGrows.f (k + 1) a0 a1 a2 a3 a4 a5) := by
 intro a0 a1 a2 a3 a4 a5 k
 obtain ⟨ih0, ih1, ih2, ih3, ih4, ih5, ih6⟩ := spilelaw51_LiabilityGrows.mono_l k
 unfold spilelaw51_LiabilityGrows.f
 repeat' first
   | (with_reducible exact ih0 _ _ _ _ _ _ _)
   | (with_reducible exact ih1 _ _ _ _ _ _ _ _ _ _ _ _)
   | (with_reducible exact ih2 _ _ _ _ _ _ _ _)
   | (with_reducible exact ih3 _ _ _ _ _ _ _ _ _ _ _ _ _)
   | (with_reducible exact ih4 _ _ _ _ _ _ _ _ _ _ _ _ _ _ _ _ _)
   | (with_reducible exact ih5 _ _ _ _ _ _ _ _ _ _)
   | (with_reducible exact ih6 _ _ _ _ _ _ _ _ _ _)
   | (with_reducible exact liability_Bonds.mono _ _ _ _ _)
   | (with_reducible exact liability_Greatest.mono _ _ _ _ _)
   | (with_reducible exact spilelaw51_awake.mono _)
   | (with_reducible exact LeO.refl _)
   | (with_reducible exact LeO.none _)
   | (with_reducible refine LeO.ite ?_ ?_)
   | (with_reducible refine LeO.bind ?_ (fun _ => ?_))
   | exact ih0 _ _ _ _ _ _ _
   | exact ih1 _ _ _ _ _ _ _ _ _ _ _ _
   | exact ih2 _ _ _ _ _ _ _ _
   | exact ih3 _ _ _ _ _ _ _ _ _ _ _ _ _
   | exact ih4 _ _ _ _ _ _ _ _ _ _ _ _ _ _ _ _ _
   | exact ih5 _ _ _ _ _ _ _ _ _ _
   | exact ih6 _ _ _ _ _ _ _ _ _ _
   | exact liability_Bonds.mono _ _ _ _ _
   | exact liability_Greatest.mono _ _ _ _ _
   | exact spilelaw51_awake.mono _
   | exact LeO.none _
   | refine LeO.ite ?_ ?_
   | refine LeO.bind ?_ (fun _ => ?_)
def spilelaw51_LiabilityGrows.T14 : Bool × List (List Nat × List Nat) := (true, [([], []), ([0], [0]), ([1], [1]), ([2], [2]), ([3], [3]), ([4, 3], [3, 4]), ([5, 3, 3], [3, 5]), ([6], [6]), ([7, 6], [6, 7]), ([6], [6]), ([6], [6]), ([10, 6], [6, 10]), ([9, 11, 6], [6, 9, 11]), ([12, 6], [6, 12]), ([13, 6], [6, 13]), ([8, 14, 6], [6, 8, 14]), ([6, 15, 3], [3, 6, 15]), ([3, 16], [3, 16])])
def spilelaw51_LiabilityGrows.B14 : List Nat := [0, 1, 3, 7, 15, 31, 63, 127, 255, 127, 127, 1151, 3711, 7807, 15999, 32767, 65535, 131071]
theorem spilelaw51_LiabilityGrows.tab14 : rtab .any (opsOf Try.f8 14) = spilelaw51_LiabilityGrows.T14 := by kernel_rfl
theorem spilelaw51_LiabilityGrows.bits14 : waitsOk spilelaw51_LiabilityGrows.T14.2 spilelaw51_LiabilityGrows.B14 = true := by kernel_rfl
def spilelaw51_LiabilityGrows.T20 : Bool × List (List Nat × List Nat) := (true, [([], []), ([0], [0]), ([], []), ([2], [2]), ([3, 1], [3]), ([], []), ([1, 4, 5, 4], [1, 4, 5]), ([6], [6]), ([7], [7]), ([7], [7]), ([7], [7]), ([8, 6, 0, 1, 2, 3, 4, 5, 6, 7, 8], [8]), ([9, 11, 0, 1, 2, 3, 4, 5, 6, 7, 8, 9, 11], [9]), ([10, 12, 0, 1, 2, 3, 4, 5, 6, 7, 8, 9, 10, 11, 12], [10])])
def spilelaw51_LiabilityGrows.B20 : List Nat := [0, 1, 0, 4, 15, 0, 63, 127, 255, 255, 255, 511, 3071, 8191]
theorem spilelaw51_LiabilityGrows.tab20 : rtab .any (opsOf Try.f8 20) = spilelaw51_LiabilityGrows.T20 := by kernel_rfl
theorem spilelaw51_LiabilityGrows.bits20 : waitsOk spilelaw51_LiabilityGrows.T20.2 spilelaw51_LiabilityGrows.B20 = true := by kernel_rfl
set_option maxHeartbeats 8000000 in
set_option maxRecDepth 100000 in
theorem spilelaw51_LiabilityGrows.calls (k : Nat) (a0_0 : Int) (A0_1 : Option Addr) (c0_1 : Nat) (l0_1 : List (S60)) (A1 : Option Addr) (c1 : Nat) (l1 : List (S35)) (a2 : Int) (a3 : Int) (a4 : Int) (r : Bool) (w : World) (hr0_1 : Kd.C k60 w A0_1 l0_1.length l0_1) (hc0_1 : l0_1.length ≤ c0_1) (hr1 : Kd.C k35 w A1 l1.length l1) (hc1 : l1.length ≤ c1) (h : spilelaw51_LiabilityGrows.f k a0_0 l0_1 l1 a2 a3 a4 = some r) :
  Calls Try.prog 8 #[.agg #[.int .i64 a0_0, .slice A0_1 l0_1.length c0_1], .slice A1 l1.length c1, .int .i64 a2, .int .i64 a3, .int .i64 a4] w fun e w' => e = .returned (.bool r) ∧ Below w.heap.size w w' := by
 have hu24 := Try.underlying24
 have hu42 := Try.underlying42
 have HR0_1 := Aside0.mk hr0_1
 have HC0_1 := Aside0.mk hc0_1
 clear hr0_1 hc0_1
 have HR1 := Aside0.mk hr1
 have HC1 := Aside0.mk hc1
 clear hr1 hc1
 have HB := Aside0.mk (Below.refl w.heap.size w)
 have H : ((spilelaw51_awake.f k).bind fun t749 => (if t749 = true then ((spilelaw51_few.f a0_0 l0_1 l1).bind fun t750 => (if t750 = true then (spilelaw51_LiabilityGrows.j0 k l1 a2 a3 a4 (decide (a3 < a2)) a0_0 l0_1) else (spilelaw51_LiabilityGrows.j0 k l1 a2 a3 a4 true a0_0 l0_1))) else (spilelaw51_LiabilityGrows.j0 k l1 a2 a3 a4 true a0_0 l0_1))) = some r := h
 clear h
 have HC6 := Aside0.mk H
 clear H
 go_enter Try.func8, Try.ntmps8
 go_upto_region 1 with (first | ((with_reducible refine gqD (N := 5) rfl ?_); (try (refine gate_guard (by rfl) ?_; dsimp only)); refine GS.bx (N := 5) (cs := #[.int .i64 a0_0, .slice A0_1 l0_1.length c0_1]) (t := 24) ?_; intro gb748 hg w7 hbox hb; have n0_ := Aside0.mk (lqT (GS.lB HB.out) hb); have n1_ := Aside0.mk (hbox); have n2_ := Aside0.mk ((by rw [hg]; exact (lqZ (GS.lB HB.out)) : w.heap.size ≤ gb748)); have n3_ := Aside0.mk ((by rw [hg]; exact (lqZ (GS.lB HB.out)) : w.heap.size ≤ gb748)); clear HB; have HB := n0_; have BK748 := n1_; have GW748 := n2_; have GE748 := n3_; clear n0_ n1_ n2_ n3_; clear hb hbox hg))
 (try simp only [Act.put, List.setIfInBounds_toArray, List.set_cons_zero, List.set_cons_succ])
 go_cut [41] (fun v41 wc => ∃ (kq : Nat) (x41_5 : Bool), v41 = .bool x41_5 ∧ Aside0 (spilelaw51_LiabilityGrows.j0 kq l1 a2 a3 a4 x41_5 a0_0 l0_1 = some r) ∧ Aside0 (kq ≤ k) ∧ Aside0 (wc.heap[gb748]? = some (.cells #[.int .i64 a0_0, (.slice A0_1 l0_1.length c0_1)] 24 (0, 0))) ∧ Aside0 (Below w.heap.size w wc))
 case first => as_aux_lemma =>
  have H := HC6.out
  clear HC6
  replace H := Option.bind_eq_some_iff.mp H
  obtain ⟨t749, A80, H⟩ := H
  replace H : (if t749 = true then ((spilelaw51_few.f a0_0 l0_1 l1).bind fun t750 => (if t750 = true then (spilelaw51_LiabilityGrows.j0 k l1 a2 a3 a4 (decide (a3 < a2)) a0_0 l0_1) else (spilelaw51_LiabilityGrows.j0 k l1 a2 a3 a4 true a0_0 l0_1))) else (spilelaw51_LiabilityGrows.j0 k l1 a2 a3 a4 true a0_0 l0_1)) = some r := H
  have A8 := Aside0.mk A80
  clear A80
  by_cases c9 : t749 = true
  ·subst c9
   have H1 : ((spilelaw51_few.f a0_0 l0_1 l1).bind fun t750 => (if t750 = true then (spilelaw51_LiabilityGrows.j0 k l1 a2 a3 a4 (decide (a3 < a2)) a0_0 l0_1) else (spilelaw51_LiabilityGrows.j0 k l1 a2 a3 a4 true a0_0 l0_1))) = some r := by rw [if_pos rfl] at H; exact H
   clear H
   have H := H1
   clear H1
   replace H := Option.bind_eq_some_iff.mp H
   obtain ⟨t750, A100, H⟩ := H
   replace H : (if t750 = true then (spilelaw51_LiabilityGrows.j0 k l1 a2 a3 a4 (decide (a3 < a2)) a0_0 l0_1) else (spilelaw51_LiabilityGrows.j0 k l1 a2 a3 a4 true a0_0 l0_1)) = some r := H
   have A10 := Aside0.mk A100
   clear A100
   by_cases c11 : t750 = true
   ·subst c11
    have H1 : (spilelaw51_LiabilityGrows.j0 k l1 a2 a3 a4 (decide (a3 < a2)) a0_0 l0_1) = some r := by rw [if_pos rfl] at H; exact H
    clear H
    have H := H1
    clear H1
    have H' := Aside0.mk H
    clear H
    go_wp2_with (first | ((with_reducible refine gqC (f := 9) rfl ?_); refine GS.gL (some 29) Try.func9 #[] ?_; (with_reducible refine (spilelaw51_awake.calls k  true _ A8.out).mono ?_); rintro e w12 ⟨rfl, hb⟩; refine ⟨_, rfl, ?_⟩; have n0_ := Aside0.mk (bqB (GS.bqX BK748.out) hb); have n1_ := Aside0.mk (lqT (GS.lB HB.out) hb); clear BK748; clear HB; have BK748 := n0_; have HB := n1_; clear n0_ n1_; (try clear hb); (try clear hb2); (try clear hk); (try clear hi); obtain ⟨hcz13_0, hcz13_1, hfz13_0, hfz13_1⟩ := GS.c2 BK748.out) | (go_at_call 10; (with_reducible refine (spilelaw51_few.calls a0_0 _ _ l0_1 _ _ l1 true _ ?side1 ?side2 ?side3 ?side4 A10.out).mono ?_); (case side1 => exact GS.rC (Kd.C_below HR0_1.out HB.out)); (case side2 => exact HC0_1.out); (case side3 => exact GS.rC (Kd.C_below HR1.out HB.out)); (case side4 => exact HC1.out); rintro e w14 ⟨rfl, hb⟩; have n0_ := Aside0.mk (bqB (GS.bqX BK748.out) hb); have n1_ := Aside0.mk (lqT (GS.lB HB.out) hb); clear BK748; clear HB; have BK748 := n0_; have HB := n1_; clear n0_ n1_; (try clear hb); (try clear hb2); (try clear hk); (try clear hi)))
    go_meet
    case rel => exact ⟨_, (decide (a3 < a2)), (by first | rfl | (simp; done) | (simp [*]; done)), H', ⟨by first | exact Nat.le_refl _ | omega⟩, ⟨GS.bqX BK748.out⟩, ⟨GS.lB HB.out⟩⟩
   ·replace c11 := Bool.eq_false_iff.mpr c11
    subst c11
    have H1 : (spilelaw51_LiabilityGrows.j0 k l1 a2 a3 a4 true a0_0 l0_1) = some r := by rw [if_neg (show ¬ (false = true) by decide)] at H; exact H
    clear H
    have H := H1
    clear H1
    have H' := Aside0.mk H
    clear H
    go_wp2_with (first | ((with_reducible refine gqC (f := 9) rfl ?_); refine GS.gL (some 29) Try.func9 #[] ?_; (with_reducible refine (spilelaw51_awake.calls k  true _ A8.out).mono ?_); rintro e w15 ⟨rfl, hb⟩; refine ⟨_, rfl, ?_⟩; have n0_ := Aside0.mk (bqB (GS.bqX BK748.out) hb); have n1_ := Aside0.mk (lqT (GS.lB HB.out) hb); clear BK748; clear HB; have BK748 := n0_; have HB := n1_; clear n0_ n1_; (try clear hb); (try clear hb2); (try clear hk); (try clear hi); obtain ⟨hcz16_0, hcz16_1, hfz16_0, hfz16_1⟩ := GS.c2 BK748.out) | (go_at_call 10; (with_reducible refine (spilelaw51_few.calls a0_0 _ _ l0_1 _ _ l1 false _ ?side1 ?side2 ?side3 ?side4 A10.out).mono ?_); (case side1 => exact GS.rC (Kd.C_below HR0_1.out HB.out)); (case side2 => exact HC0_1.out); (case side3 => exact GS.rC (Kd.C_below HR1.out HB.out)); (case side4 => exact HC1.out); rintro e w17 ⟨rfl, hb⟩; have n0_ := Aside0.mk (bqB (GS.bqX BK748.out) hb); have n1_ := Aside0.mk (lqT (GS.lB HB.out) hb); clear BK748; clear HB; have BK748 := n0_; have HB := n1_; clear n0_ n1_; (try clear hb); (try clear hb2); (try clear hk); (try clear hi)))
    go_meet
    case rel => exact ⟨_, (true), (by first | rfl | (simp; done) | (simp [*]; done)), H', ⟨by first | exact Nat.le_refl _ | omega⟩, ⟨GS.bqX BK748.out⟩, ⟨GS.lB HB.out⟩⟩
  ·replace c9 := Bool.eq_false_iff.mpr c9
   subst c9
   have H1 : (spilelaw51_LiabilityGrows.j0 k l1 a2 a3 a4 true a0_0 l0_1) = some r := by rw [if_neg (show ¬ (false = true) by decide)] at H; exact H
   clear H
   have H := H1
   clear H1
   have H' := Aside0.mk H
   clear H
   go_wp2_with (first | ((with_reducible refine gqC (f := 9) rfl ?_); refine GS.gL (some 29) Try.func9 #[] ?_; (with_reducible refine (spilelaw51_awake.calls k  false _ A8.out).mono ?_); rintro e w18 ⟨rfl, hb⟩; refine ⟨_, rfl, ?_⟩; have n0_ := Aside0.mk (bqB (GS.bqX BK748.out) hb); have n1_ := Aside0.mk (lqT (GS.lB HB.out) hb); clear BK748; clear HB; have BK748 := n0_; have HB := n1_; clear n0_ n1_; (try clear hb); (try clear hb2); (try clear hk); (try clear hi)))
   go_meet
   case rel => exact ⟨_, (true), (by first | rfl | (simp; done) | (simp [*]; done)), H', ⟨by first | exact Nat.le_refl _ | omega⟩, ⟨GS.bqX BK748.out⟩, ⟨GS.lB HB.out⟩⟩
 case rest => as_aux_lemma =>
  clear HC6
  try clear c1
  try clear p2
  try clear c8
  try clear c9
  try clear c11
  try clear hcz13_0
  try clear hcz13_1
  try clear hcz16_0
  try clear hcz16_1
  try clear hfz13_0
  try clear hfz13_1
  try clear hfz16_0
  try clear hfz16_1
  obtain ⟨kq, x41_5, rfl, HA, HJ5, BK748, HB⟩ := hcut
  cases kq with
  | zero => exact absurd HA.out (by simp [spilelaw51_LiabilityGrows.j0])
  | succ kj5 =>
   have H := HA.out
   clear HA
   simp only [spilelaw51_LiabilityGrows.j0] at H
   by_cases c19 : x41_5 = true
   ·subst c19
    have H1 : ((spilelaw51_awake.f kj5).bind fun t751 => (some t751)) = some r := by rw [if_pos rfl] at H; exact H
    clear H
    have H := H1
    clear H1
    replace H := Option.bind_eq_some_iff.mp H
    obtain ⟨t751, A200, H⟩ := H
    replace H : (some t751) = some r := H
    have A20 := Aside0.mk A200
    clear A200
    obtain rfl := Option.some.inj H
    go_wp2_with (first | ((with_reducible refine gqC (f := 9) rfl ?_); refine GS.gL (some 42) Try.func9 #[] ?_; (with_reducible refine (spilelaw51_awake.calls kj5  t751 _ A20.out).mono ?_); rintro e w21 ⟨rfl, hb⟩; refine ⟨_, rfl, ?_⟩; have n0_ := Aside0.mk (bqB (GS.bqX BK748.out) hb); have n1_ := Aside0.mk (lqT (GS.lB HB.out) hb); clear BK748; clear HB; have BK748 := n0_; have HB := n1_; clear n0_ n1_; (try clear hb); (try clear hb2); (try clear hk); (try clear hi)))
    go_ret
    exact ⟨by first | rfl | (simp [errW_none, errW_some] <;> rfl) | (simp [*, errW_none, errW_some] <;> rfl), GS.lB HB.out⟩
   ·replace c19 := Bool.eq_false_iff.mpr c19
    subst c19
    have H1 : ((spilelaw51_ct.f a0_0 l0_1).bind fun bt752 => ((clone13.f l1).bind fun t756 => ((liability_Greatest.f kj5 bt752.1 bt752.2 t756 a2).bind fun bt759 => ((spilelaw51_ct.f a0_0 l0_1).bind fun bt764 => ((clone13.f l1).bind fun t768 => ((liability_Greatest.f kj5 bt764.1 bt764.2 t768 a3).bind fun bt771 => (if bt759.2.2 = 0 then (spilelaw51_LiabilityGrows.j1 kj5 l1 a2 a4 bt759.1 bt759.2.1 bt759.2.2 bt771.1 bt771.2.1 bt771.2.2 (bt771.2.2 != 0) a0_0 l0_1) else (spilelaw51_LiabilityGrows.j1 kj5 l1 a2 a4 bt759.1 bt759.2.1 bt759.2.2 bt771.1 bt771.2.1 bt771.2.2 true a0_0 l0_1)))))))) = some r := by rw [if_neg (show ¬ (false = true) by decide)] at H; exact H
    clear H
    have H := H1
    clear H1
    replace H := Option.bind_eq_some_iff.mp H
    obtain ⟨⟨t752, t753⟩, A220, H⟩ := H
    replace H : ((clone13.f l1).bind fun t756 => ((liability_Greatest.f kj5 t752 t753 t756 a2).bind fun bt759 => ((spilelaw51_ct.f a0_0 l0_1).bind fun bt764 => ((clone13.f l1).bind fun t768 => ((liability_Greatest.f kj5 bt764.1 bt764.2 t768 a3).bind fun bt771 => (if bt759.2.2 = 0 then (spilelaw51_LiabilityGrows.j1 kj5 l1 a2 a4 bt759.1 bt759.2.1 bt759.2.2 bt771.1 bt771.2.1 bt771.2.2 (bt771.2.2 != 0) a0_0 l0_1) else (spilelaw51_LiabilityGrows.j1 kj5 l1 a2 a4 bt759.1 bt759.2.1 bt759.2.2 bt771.1 bt771.2.1 bt771.2.2 true a0_0 l0_1))))))) = some r := H
    have A22 := Aside0.mk A220
    clear A220
    replace H := Option.bind_eq_some_iff.mp H
    obtain ⟨t756, A230, H⟩ := H
    replace H : ((liability_Greatest.f kj5 t752 t753 t756 a2).bind fun bt759 => ((spilelaw51_ct.f a0_0 l0_1).bind fun bt764 => ((clone13.f l1).bind fun t768 => ((liability_Greatest.f kj5 bt764.1 bt764.2 t768 a3).bind fun bt771 => (if bt759.2.2 = 0 then (spilelaw51_LiabilityGrows.j1 kj5 l1 a2 a4 bt759.1 bt759.2.1 bt759.2.2 bt771.1 bt771.2.1 bt771.2.2 (bt771.2.2 != 0) a0_0 l0_1) else (spilelaw51_LiabilityGrows.j1 kj5 l1 a2 a4 bt759.1 bt759.2.1 bt759.2.2 bt771.1 bt771.2.1 bt771.2.2 true a0_0 l0_1)))))) = some r := H
    have A23 := Aside0.mk A230
    clear A230
    replace H := Option.bind_eq_some_iff.mp H
    obtain ⟨⟨t759, t762, t763⟩, A240, H⟩ := H
    replace H : ((spilelaw51_ct.f a0_0 l0_1).bind fun bt764 => ((clone13.f l1).bind fun t768 => ((liability_Greatest.f kj5 bt764.1 bt764.2 t768 a3).bind fun bt771 => (if t763 = 0 then (spilelaw51_LiabilityGrows.j1 kj5 l1 a2 a4 t759 t762 t763 bt771.1 bt771.2.1 bt771.2.2 (bt771.2.2 != 0) a0_0 l0_1) else (spilelaw51_LiabilityGrows.j1 kj5 l1 a2 a4 t759 t762 t763 bt771.1 bt771.2.1 bt771.2.2 true a0_0 l0_1))))) = some r := H
    have A24 := Aside0.mk A240
    clear A240
    replace H := Option.bind_eq_some_iff.mp H
    obtain ⟨⟨t764, t765⟩, A250, H⟩ := H
    replace H : ((clone13.f l1).bind fun t768 => ((liability_Greatest.f kj5 t764 t765 t768 a3).bind fun bt771 => (if t763 = 0 then (spilelaw51_LiabilityGrows.j1 kj5 l1 a2 a4 t759 t762 t763 bt771.1 bt771.2.1 bt771.2.2 (bt771.2.2 != 0) a0_0 l0_1) else (spilelaw51_LiabilityGrows.j1 kj5 l1 a2 a4 t759 t762 t763 bt771.1 bt771.2.1 bt771.2.2 true a0_0 l0_1)))) = some r := H
    have A25 := Aside0.mk A250
    clear A250
    replace H := Option.bind_eq_some_iff.mp H
    obtain ⟨t768, A260, H⟩ := H
    replace H : ((liability_Greatest.f kj5 t764 t765 t768 a3).bind fun bt771 => (if t763 = 0 then (spilelaw51_LiabilityGrows.j1 kj5 l1 a2 a4 t759 t762 t763 bt771.1 bt771.2.1 bt771.2.2 (bt771.2.2 != 0) a0_0 l0_1) else (spilelaw51_LiabilityGrows.j1 kj5 l1 a2 a4 t759 t762 t763 bt771.1 bt771.2.1 bt771.2.2 true a0_0 l0_1))) = some r := H
    have A26 := Aside0.mk A260
    clear A260
    replace H := Option.bind_eq_some_iff.mp H
    obtain ⟨⟨t771, t774, t775⟩, A270, H⟩ := H
    replace H : (if t763 = 0 then (spilelaw51_LiabilityGrows.j1 kj5 l1 a2 a4 t759 t762 t763 t771 t774 t775 (t775 != 0) a0_0 l0_1) else (spilelaw51_LiabilityGrows.j1 kj5 l1 a2 a4 t759 t762 t763 t771 t774 t775 true a0_0 l0_1)) = some r := H
    have A27 := Aside0.mk A270
    clear A270
    have HC28 := Aside0.mk H
    clear H
    obtain ⟨hcz29_0, hcz29_1, hfz29_0, hfz29_1⟩ := GS.c2 BK748.out
    go_upto_region 5 with (first | ((with_reducible refine gqC (f := 12) rfl ?_); refine GS.gL (some 45) Try.func12 #[.agg #[.int .i64 a0_0, .slice A0_1 l0_1.length c0_1]] ?_; (with_reducible refine (spilelaw51_ct.calls a0_0 _ _ l0_1 t752 t753 _ ?side1 ?side2 A22.out).mono ?_); (case side1 => exact GS.rC (Kd.C_below HR0_1.out HB.out)); (case side2 => exact HC0_1.out); rintro e w30 ⟨v754, rfl, ho0, hb⟩; refine ⟨_, rfl, ?_⟩; have n0_ := Aside0.mk (Kd.R_lower ho0 (lqZ (GS.lB HB.out))); have n1_ := Aside0.mk (bqB (GS.bqX BK748.out) hb); have n2_ := Aside0.mk (lqT (GS.lB HB.out) hb); clear BK748; clear HB; have HO755 := n0_; have BK748 := n1_; have HB := n2_; clear n0_ n1_ n2_; (try clear hb); (try clear hb2); (try clear hk); (try clear hi); (try clear ho0)) | ((with_reducible refine gqC (f := 13) rfl ?_); refine GS.gL (some 47) Try.func13 #[.slice A1 l1.length c1] ?_; (with_reducible refine (clone13.calls _ _ l1 t756 _ ?side1 ?side2 A23.out).mono ?_); (case side1 => exact GS.rC (Kd.C_below HR1.out HB.out)); (case side2 => exact HC1.out); rintro e w31 ⟨v757, rfl, ho0, hb⟩; refine ⟨_, rfl, ?_⟩; have n0_ := Aside0.mk (Kd.R_below (GS.rR HO755.out) hb); have n1_ := Aside0.mk (Kd.R_lower ho0 (lqZ (GS.lB HB.out))); have n2_ := Aside0.mk (bqB (GS.bqX BK748.out) hb); have n3_ := Aside0.mk (lqT (GS.lB HB.out) hb); clear HO755; clear BK748; clear HB; have HO755 := n0_; have HO758 := n1_; have BK748 := n2_; have HB := n3_; clear n0_ n1_ n2_ n3_; (try clear hb); (try clear hb2); (try clear hk); (try clear hi); (try clear ho0); obtain ⟨Ao32, co32, eo32⟩ := Kd.R_slice HO755.out; subst eo32; obtain ⟨Ao33, co33, eo33⟩ := Kd.R_slice HO758.out; subst eo33) | ((with_reducible refine gqC (f := 11) rfl ?_); refine GS.gL (some 49) Try.func11 #[.agg #[.int .i64 t752, .slice Ao32 t753.length co32], .slice Ao33 t756.length co33, .int .i64 a2] ?_; (with_reducible refine (liability_Greatest.calls kj5 t752 _ _ t753 _ _ t756 a2 t759 t762 t763 _ ?side1 ?side2 ?side3 ?side4 A24.out).mono ?_); (case side1 => repeat (first | exact (Kd.R_reads' HO755.out).2.2 | (with_reducible refine Kd.C_alloc ?_ _) | (with_reducible refine Kd.C_drewN ?_ _) | (with_reducible refine Kd.C_drew ?_))); (case side2 => exact (Kd.R_reads' HO755.out).2.1); (case side3 => repeat (first | exact (Kd.R_reads' HO758.out).2.2 | (with_reducible refine Kd.C_alloc ?_ _) | (with_reducible refine Kd.C_drewN ?_ _) | (with_reducible refine Kd.C_drew ?_))); (case side4 => exact (Kd.R_reads' HO758.out).2.1); rintro e w34 ⟨v760, rfl, ho0, hb⟩; refine ⟨_, rfl, ?_⟩; have n0_ := Aside0.mk (Kd.R_below (GS.rR HO755.out) hb); have n1_ := Aside0.mk (Kd.R_below (GS.rR HO758.out) hb); have n2_ := Aside0.mk (Kd.R_lower ho0 (lqZ (GS.lB HB.out))); have n3_ := Aside0.mk (bqB (GS.bqX BK748.out) hb); have n4_ := Aside0.mk (lqT (GS.lB HB.out) hb); clear HO755; clear HO758; clear BK748; clear HB; have HO755 := n0_; have HO758 := n1_; have HO761 := n2_; have BK748 := n3_; have HB := n4_; clear n0_ n1_ n2_ n3_ n4_; (try clear hb); (try clear hb2); (try clear hk); (try clear hi); (try clear ho0); obtain ⟨hcz35_0, hcz35_1, hfz35_0, hfz35_1⟩ := GS.c2 BK748.out) | ((with_reducible refine gqC (f := 12) rfl ?_); refine GS.gL (some 55) Try.func12 #[.agg #[.int .i64 a0_0, .slice A0_1 l0_1.length c0_1]] ?_; (with_reducible refine (spilelaw51_ct.calls a0_0 _ _ l0_1 t764 t765 _ ?side1 ?side2 A25.out).mono ?_); (case side1 => exact GS.rC (Kd.C_below HR0_1.out HB.out)); (case side2 => exact HC0_1.out); rintro e w36 ⟨v766, rfl, ho0, hb⟩; refine ⟨_, rfl, ?_⟩; have n0_ := Aside0.mk (Kd.R_elder' (GS.rR HO755.out) (Kd.R_base ho0) hb); have n1_ := Aside0.mk (Kd.R_below (GS.rR HO758.out) hb); have n2_ := Aside0.mk (Kd.R_below (GS.rR HO761.out) hb); have n3_ := Aside0.mk (Kd.R_lower (Kd.R_new' ho0 (Kd.R_lt (GS.rR HO755.out))) (lqZ (GS.lB HB.out))); have n4_ := Aside0.mk (bqB (GS.bqX BK748.out) hb); have n5_ := Aside0.mk (lqT (GS.lB HB.out) hb); clear HO755; clear HO758; clear HO761; clear BK748; clear HB; have HO755 := n0_; have HO758 := n1_; have HO761 := n2_; have HO767 := n3_; have BK748 := n4_; have HB := n5_; clear n0_ n1_ n2_ n3_ n4_ n5_; (try clear hb); (try clear hb2); (try clear hk); (try clear hi); (try clear ho0)) | ((with_reducible refine gqC (f := 13) rfl ?_); refine GS.gL (some 57) Try.func13 #[.slice A1 l1.length c1] ?_; (with_reducible refine (clone13.calls _ _ l1 t768 _ ?side1 ?side2 A26.out).mono ?_); (case side1 => exact GS.rC (Kd.C_below HR1.out HB.out)); (case side2 => exact HC1.out); rintro e w37 ⟨v769, rfl, ho0, hb⟩; refine ⟨_, rfl, ?_⟩; have n0_ := Aside0.mk (Kd.R_below (GS.rR HO755.out) hb); have n1_ := Aside0.mk (Kd.R_elder' (GS.rR HO758.out) (Kd.R_base ho0) hb); have n2_ := Aside0.mk (Kd.R_below (GS.rR HO761.out) hb); have n3_ := Aside0.mk (Kd.R_below (GS.rR HO767.out) hb); have n4_ := Aside0.mk (Kd.R_lower (Kd.R_new' ho0 (Kd.R_lt (GS.rR HO758.out))) (lqZ (GS.lB HB.out))); have n5_ := Aside0.mk (bqB (GS.bqX BK748.out) hb); have n6_ := Aside0.mk (lqT (GS.lB HB.out) hb); clear HO755; clear HO758; clear HO761; clear HO767; clear BK748; clear HB; have HO755 := n0_; have HO758 := n1_; have HO761 := n2_; have HO767 := n3_; have HO770 := n4_; have BK748 := n5_; have HB := n6_; clear n0_ n1_ n2_ n3_ n4_ n5_ n6_; (try clear hb); (try clear hb2); (try clear hk); (try clear hi); (try clear ho0); obtain ⟨Ao38, co38, eo38⟩ := Kd.R_slice HO767.out; subst eo38; obtain ⟨Ao39, co39, eo39⟩ := Kd.R_slice HO770.out; subst eo39) | ((with_reducible refine gqC (f := 11) rfl ?_); refine GS.gL (some 59) Try.func11 #[.agg #[.int .i64 t764, .slice Ao38 t765.length co38], .slice Ao39 t768.length co39, .int .i64 a3] ?_; (with_reducible refine (liability_Greatest.calls kj5 t764 _ _ t765 _ _ t768 a3 t771 t774 t775 _ ?side1 ?side2 ?side3 ?side4 A27.out).mono ?_); (case side1 => repeat (first | exact (Kd.R_reads' HO767.out).2.2 | (with_reducible refine Kd.C_alloc ?_ _) | (with_reducible refine Kd.C_drewN ?_ _) | (with_reducible refine Kd.C_drew ?_))); (case side2 => exact (Kd.R_reads' HO767.out).2.1); (case side3 => repeat (first | exact (Kd.R_reads' HO770.out).2.2 | (with_reducible refine Kd.C_alloc ?_ _) | (with_reducible refine Kd.C_drewN ?_ _) | (with_reducible refine Kd.C_drew ?_))); (case side4 => exact (Kd.R_reads' HO770.out).2.1); rintro e w40 ⟨v772, rfl, ho0, hb⟩; refine ⟨_, rfl, ?_⟩; have n0_ := Aside0.mk (Kd.R_below (GS.rR HO755.out) hb); have n1_ := Aside0.mk (Kd.R_below (GS.rR HO758.out) hb); have n2_ := Aside0.mk (Kd.R_elder' (GS.rR HO761.out) (Kd.R_base ho0) hb); have n3_ := Aside0.mk (Kd.R_below (GS.rR HO767.out) hb); have n4_ := Aside0.mk (Kd.R_below (GS.rR HO770.out) hb); have n5_ := Aside0.mk (Kd.R_lower (Kd.R_new' ho0 (Kd.R_lt (GS.rR HO761.out))) (lqZ (GS.lB HB.out))); have n6_ := Aside0.mk (bqB (GS.bqX BK748.out) hb); have n7_ := Aside0.mk (lqT (GS.lB HB.out) hb); clear HO755; clear HO758; clear HO761; clear HO767; clear HO770; clear BK748; clear HB; have HO755 := n0_; have HO758 := n1_; have HO761 := n2_; have HO767 := n3_; have HO770 := n4_; have HO773 := n5_; have BK748 := n6_; have HB := n7_; clear n0_ n1_ n2_ n3_ n4_ n5_ n6_ n7_; (try clear hb); (try clear hb2); (try clear hk); (try clear hi); (try clear ho0)))
    (try simp only [Act.put, List.setIfInBounds_toArray, List.set_cons_zero, List.set_cons_succ])
    go_cut [68] (fun v68 wc => ∃ (kq : Nat) (x68_27 : Bool), v68 = .bool x68_27 ∧ Aside0 (spilelaw51_LiabilityGrows.j1 kq l1 a2 a4 t759 t762 t763 t771 t774 t775 x68_27 a0_0 l0_1 = some r) ∧ Aside0 (kq ≤ kj5) ∧ Aside0 (Kd.R (Kd.int .i64) 3 wc w.heap.size (fun k_ => some k_ ≠ (v772 : Value).ownBlock) v760 t759) ∧ Aside0 (Kd.R (Kd.int .i64) 3 wc w.heap.size (fun k_ => some k_ ≠ (v760 : Value).ownBlock) v772 t771) ∧ Aside0 (wc.heap[gb748]? = some (.cells #[.int .i64 a0_0, (.slice A0_1 l0_1.length c0_1)] 24 (0, 0))) ∧ Aside0 (Below w.heap.size w wc))
    case first => as_aux_lemma =>
     have H := HC28.out
     clear HC28
     by_cases c41 : t763 = 0
     ·rw [if_pos c41] at H
      have c41b0 : (t763 == 0) = true := beq_iff_eq.mpr c41
      try simp only [beq_self_eq_true, Bool.not_true, Bool.false_or, Bool.true_and] at c41b0
      have c41b1 : (t763 != 0) = false := bne_eq_false_iff_eq.mpr c41
      clear c41
      (first | rw [c41b0] | (simp only [i64_w, i32_w]; rw [c41b0]) | skip)
      have H' := Aside0.mk H
      clear H
      go_wp2
      go_meet
      case rel => exact ⟨_, ((t775 != 0)), (by first | rfl | (simp; done) | (simp [*]; done)), H', ⟨by have := HJ5.out; first | exact Nat.le_refl _ | omega⟩, ⟨by (with_reducible repeat (first | apply Kd.R_alloc | apply Kd.R_drewN | apply Kd.R_drew)); exact Kd.R_mono HO761.out (fun _ hk => GS.cj hk)⟩, ⟨by (with_reducible repeat (first | apply Kd.R_alloc | apply Kd.R_drewN | apply Kd.R_drew)); exact Kd.R_mono HO773.out (fun _ hk => GS.cj hk)⟩, ⟨GS.bqX BK748.out⟩, ⟨GS.lB HB.out⟩⟩
     ·rw [if_neg c41] at H
      have c41b0 : (t763 == 0) = false := beq_eq_false_iff_ne.mpr c41
      try simp only [beq_self_eq_true, Bool.not_true, Bool.false_or, Bool.true_and] at c41b0
      have c41b1 : (t763 != 0) = true := bne_iff_ne.mpr c41
      (first | rw [c41b0] | (simp only [i64_w, i32_w]; rw [c41b0]) | skip)
      have H' := Aside0.mk H
      clear H
      go_wp2
      go_meet
      case rel => exact ⟨_, (true), (by first | rfl | (simp; done) | (simp [*]; done)), H', ⟨by have := HJ5.out; first | exact Nat.le_refl _ | omega⟩, ⟨by (with_reducible repeat (first | apply Kd.R_alloc | apply Kd.R_drewN | apply Kd.R_drew)); exact Kd.R_mono HO761.out (fun _ hk => GS.cj hk)⟩, ⟨by (with_reducible repeat (first | apply Kd.R_alloc | apply Kd.R_drewN | apply Kd.R_drew)); exact Kd.R_mono HO773.out (fun _ hk => GS.cj hk)⟩, ⟨GS.bqX BK748.out⟩, ⟨GS.lB HB.out⟩⟩
    case rest => as_aux_lemma =>
     clear HC28
     try clear c1
     try clear p2
     try clear c4
     try clear c8
     try clear c9
     try clear c11
     try clear c12
     try clear c13
     try clear c19
     try clear c41
     try clear c41b0
     try clear c41b1
     try clear hcz13_0
     try clear hcz13_1
     try clear hcz16_0
     try clear hcz16_1
     try clear hcz29_0
     try clear hcz29_1
     try clear hcz35_0
     try clear hcz35_1
     try clear hfz13_0
     try clear hfz13_1
     try clear hfz16_0
     try clear hfz16_1
     try clear hfz29_0
     try clear hfz29_1
     try clear hfz35_0
     try clear hfz35_1
     try clear p2
     obtain ⟨kq, x68_27, rfl, HA, HJ27, HO_11, HO_14, BK748, HB⟩ := hcut
     cases kq with
     | zero => exact absurd HA.out (by simp [spilelaw51_LiabilityGrows.j1])
     | succ kj27 =>
      have H := HA.out
      clear HA
      simp only [spilelaw51_LiabilityGrows.j1] at H
      by_cases c42 : x68_27 = true
      ·subst c42
       have H1 : (if t763 = 0 then (if t775 = 0 then (none) else (some (t774 == 0))) else (if t762 = 0 then (some true) else (if t775 = 0 then (none) else (some (t774 == 0))))) = some r := by rw [if_pos rfl] at H; exact H
       clear H
       have H := H1
       clear H1
       by_cases c43 : t763 = 0
       ·rw [if_pos c43] at H
        have c43b0 : (t763 == 0) = true := beq_iff_eq.mpr c43
        try simp only [beq_self_eq_true, Bool.not_true, Bool.false_or, Bool.true_and] at c43b0
        have c43b1 : (t763 != 0) = false := bne_eq_false_iff_eq.mpr c43
        clear c43
        by_cases c44 : t775 = 0
        ·rw [if_pos c44] at H
         exact absurd H (by simp)
        ·rw [if_neg c44] at H
         have c44b0 : (t775 == 0) = false := beq_eq_false_iff_ne.mpr c44
         try simp only [beq_self_eq_true, Bool.not_true, Bool.false_or, Bool.true_and] at c44b0
         have c44b1 : (t775 != 0) = true := bne_iff_ne.mpr c44
         obtain rfl := Option.some.inj H
         go_wp2
         go_ret
         exact ⟨by first | rfl | (simp [errW_none, errW_some] <;> rfl) | (simp [*, errW_none, errW_some] <;> rfl), GS.lB HB.out⟩
       ·rw [if_neg c43] at H
        have c43b0 : (t763 == 0) = false := beq_eq_false_iff_ne.mpr c43
        try simp only [beq_self_eq_true, Bool.not_true, Bool.false_or, Bool.true_and] at c43b0
        have c43b1 : (t763 != 0) = true := bne_iff_ne.mpr c43
        by_cases c45 : t762 = 0
        ·rw [if_pos c45] at H
         have c45b0 : (t762 == 0) = true := beq_iff_eq.mpr c45
         try simp only [beq_self_eq_true, Bool.not_true, Bool.false_or, Bool.true_and] at c45b0
         have c45b1 : (t762 != 0) = false := bne_eq_false_iff_eq.mpr c45
         clear c45
         obtain rfl := Option.some.inj H
         go_wp2
         go_ret
         exact ⟨by first | rfl | (simp [errW_none, errW_some] <;> rfl) | (simp [*, errW_none, errW_some] <;> rfl), GS.lB HB.out⟩
        ·rw [if_neg c45] at H
         have c45b0 : (t762 == 0) = false := beq_eq_false_iff_ne.mpr c45
         try simp only [beq_self_eq_true, Bool.not_true, Bool.false_or, Bool.true_and] at c45b0
         have c45b1 : (t762 != 0) = true := bne_iff_ne.mpr c45
         by_cases c46 : t775 = 0
         ·rw [if_pos c46] at H
          exact absurd H (by simp)
         ·rw [if_neg c46] at H
          have c46b0 : (t775 == 0) = false := beq_eq_false_iff_ne.mpr c46
          try simp only [beq_self_eq_true, Bool.not_true, Bool.false_or, Bool.true_and] at c46b0
          have c46b1 : (t775 != 0) = true := bne_iff_ne.mpr c46
          obtain rfl := Option.some.inj H
          go_wp2
          go_ret
          exact ⟨by first | rfl | (simp [errW_none, errW_some] <;> rfl) | (simp [*, errW_none, errW_some] <;> rfl), GS.lB HB.out⟩
      ·replace c42 := Bool.eq_false_iff.mpr c42
       subst c42
       have H1 : (if (t759.length : Int) = (l1.length : Int) then (if (t771.length : Int) = (l1.length : Int) then (spilelaw51_LiabilityGrows.j2 kj27 l1 a2 a4 t759 t762 (decide (t774 < t762)) a0_0 l0_1) else (none)) else (none)) = some r := by rw [if_neg (show ¬ (false = true) by decide)] at H; exact H
       clear H
       have H := H1
       clear H1
       have HC47 := Aside0.mk H
       clear H
       go_upto_region 7 with (fail)
       go_cut [99] (fun v99 wc => ∃ (kq : Nat) (x99_46 : Bool), v99 = .bool x99_46 ∧ Aside0 (spilelaw51_LiabilityGrows.j2 kq l1 a2 a4 t759 t762 x99_46 a0_0 l0_1 = some r) ∧ Aside0 (kq ≤ kj27) ∧ Aside0 (Kd.R (Kd.int .i64) 3 wc w.heap.size (fun _ => True) v760 t759) ∧ Aside0 (wc.heap[gb748]? = some (.cells #[.int .i64 a0_0, (.slice A0_1 l0_1.length c0_1)] 24 (0, 0))) ∧ Aside0 (Below w.heap.size w wc))
       case first => as_aux_lemma =>
        have H := HC47.out
        clear HC47
        by_cases c48 : (t759.length : Int) = (l1.length : Int)
        ·rw [if_pos c48] at H
         have c48b0 : ((t759.length : Int) == (l1.length : Int)) = true := beq_iff_eq.mpr c48
         try simp only [beq_self_eq_true, Bool.not_true, Bool.false_or, Bool.true_and] at c48b0
         have c48b1 : ((t759.length : Int) != (l1.length : Int)) = false := bne_eq_false_iff_eq.mpr c48
         have c48b2 : (t759.length == l1.length) = true := by first | simpa using c48 | (simp at c48 ⊢; omega)
         clear c48
         (first | rw [c48b0] | (simp only [i64_w, i32_w]; rw [c48b0]) | skip)
         by_cases c49 : (t771.length : Int) = (l1.length : Int)
         ·rw [if_pos c49] at H
          have c49b0 : ((t771.length : Int) == (l1.length : Int)) = true := beq_iff_eq.mpr c49
          try simp only [beq_self_eq_true, Bool.not_true, Bool.false_or, Bool.true_and] at c49b0
          have c49b1 : ((t771.length : Int) != (l1.length : Int)) = false := bne_eq_false_iff_eq.mpr c49
          have c49b2 : (t771.length == l1.length) = true := by first | simpa using c49 | (simp at c49 ⊢; omega)
          clear c49
          have H' := Aside0.mk H
          clear H
          obtain ⟨Ao50, co50, eo50⟩ := Kd.R_slice HO_11.out
          subst eo50
          obtain ⟨Ao51, co51, eo51⟩ := Kd.R_slice HO_14.out
          subst eo51
          go_wp2
          go_meet
          case rel => exact ⟨_, (decide (t774 < t762)), (by first | rfl | (simp; done) | (simp [*]; done)), H', ⟨by have := HJ5.out; have := HJ27.out; first | exact Nat.le_refl _ | omega⟩, ⟨by (with_reducible repeat (first | apply Kd.R_alloc | apply Kd.R_drewN | apply Kd.R_drew)); exact Kd.R_mono HO_11.out (fun _ hk => trivial)⟩, ⟨GS.bqX BK748.out⟩, ⟨GS.lB HB.out⟩⟩
         ·rw [if_neg c49] at H
          exact absurd H (by simp)
        ·rw [if_neg c48] at H
         exact absurd H (by simp)
       case rest => as_aux_lemma =>
        clear HC47
        try clear c1
        try clear p2
        try clear c4
        try clear c8
        try clear c9
        try clear c11
        try clear c12
        try clear c13
        try clear c19
        try clear c41
        try clear c41b0
        try clear c41b1
        try clear c42
        try clear c43
        try clear c43b0
        try clear c43b1
        try clear c44
        try clear c44b0
        try clear c44b1
        try clear c45
        try clear c45b0
        try clear c45b1
        try clear c46
        try clear c46b0
        try clear c46b1
        try clear c48
        try clear c48b0
        try clear c48b1
        try clear c48b2
        try clear c49
        try clear c49b0
        try clear c49b1
        try clear c49b2
        try clear hcz13_0
        try clear hcz13_1
        try clear hcz16_0
        try clear hcz16_1
        try clear hcz29_0
        try clear hcz29_1
        try clear hcz35_0
        try clear hcz35_1
        try clear hfz13_0
        try clear hfz13_1
        try clear hfz16_0
        try clear hfz16_1
        try clear hfz29_0
        try clear hfz29_1
        try clear hfz35_0
        try clear hfz35_1
        try clear p2
        obtain ⟨kq, x99_46, rfl, HA, HJ46, HO_11, BK748, HB⟩ := hcut
        cases kq with
        | zero => exact absurd HA.out (by simp [spilelaw51_LiabilityGrows.j2])
        | succ kj46 =>
         have H := HA.out
         clear HA
         simp only [spilelaw51_LiabilityGrows.j2] at H
         by_cases c52 : x99_46 = true
         ·subst c52
          have H1 : (none) = some r := by rw [if_pos rfl] at H; exact H
          clear H
          have H := H1
          clear H1
          exact absurd H (by simp)
         ·replace c52 := Bool.eq_false_iff.mpr c52
          subst c52
          have H1 : ((spilelaw51_ct.f a0_0 l0_1).bind fun bt776 => ((clone13.f l1).bind fun t780 => ((liability_Bonds.f kj46 bt776.1 bt776.2 t780 a2).bind fun bt783 => (spilelaw51_LiabilityGrows.l0 kj46 l1 a2 a4 t759 t762 bt783.1 bt783.2 0 bt783.1 (bt783.1.length : Int) 0 a0_0 l0_1)))) = some r := by rw [if_neg (show ¬ (false = true) by decide)] at H; exact H
          clear H
          have H := H1
          clear H1
          replace H := Option.bind_eq_some_iff.mp H
          obtain ⟨⟨t776, t777⟩, A530, H⟩ := H
          replace H : ((clone13.f l1).bind fun t780 => ((liability_Bonds.f kj46 t776 t777 t780 a2).bind fun bt783 => (spilelaw51_LiabilityGrows.l0 kj46 l1 a2 a4 t759 t762 bt783.1 bt783.2 0 bt783.1 (bt783.1.length : Int) 0 a0_0 l0_1))) = some r := H
          have A53 := Aside0.mk A530
          clear A530
          replace H := Option.bind_eq_some_iff.mp H
          obtain ⟨t780, A540, H⟩ := H
          replace H : ((liability_Bonds.f kj46 t776 t777 t780 a2).bind fun bt783 => (spilelaw51_LiabilityGrows.l0 kj46 l1 a2 a4 t759 t762 bt783.1 bt783.2 0 bt783.1 (bt783.1.length : Int) 0 a0_0 l0_1)) = some r := H
          have A54 := Aside0.mk A540
          clear A540
          replace H := Option.bind_eq_some_iff.mp H
          obtain ⟨⟨t783, t786⟩, A550, H⟩ := H
          replace H : (spilelaw51_LiabilityGrows.l0 kj46 l1 a2 a4 t759 t762 t783 t786 0 t783 (t783.length : Int) 0 a0_0 l0_1) = some r := H
          have A55 := Aside0.mk A550
          clear A550
          have H' := Aside0.mk H
          clear H
          obtain ⟨hcz56_0, hcz56_1, hfz56_0, hfz56_1⟩ := GS.c2 BK748.out
          go_wp2_with (first | ((with_reducible refine gqC (f := 12) rfl ?_); refine GS.gL (some 102) Try.func12 #[.agg #[.int .i64 a0_0, .slice A0_1 l0_1.length c0_1]] ?_; (with_reducible refine (spilelaw51_ct.calls a0_0 _ _ l0_1 t776 t777 _ ?side1 ?side2 A53.out).mono ?_); (case side1 => exact GS.rC (Kd.C_below HR0_1.out HB.out)); (case side2 => exact HC0_1.out); rintro e w57 ⟨v778, rfl, ho0, hb⟩; refine ⟨_, rfl, ?_⟩; have n0_ := Aside0.mk (Kd.R_below (GS.rR HO_11.out) hb); have n1_ := Aside0.mk (Kd.R_lower ho0 (lqZ (GS.lB HB.out))); have n2_ := Aside0.mk (bqB (GS.bqX BK748.out) hb); have n3_ := Aside0.mk (lqT (GS.lB HB.out) hb); clear HO_11; clear BK748; clear HB; have HO_11 := n0_; have HO779 := n1_; have BK748 := n2_; have HB := n3_; clear n0_ n1_ n2_ n3_; (try clear hb); (try clear hb2); (try clear hk); (try clear hi); (try clear ho0)) | ((with_reducible refine gqC (f := 13) rfl ?_); refine GS.gL (some 104) Try.func13 #[.slice A1 l1.length c1] ?_; (with_reducible refine (clone13.calls _ _ l1 t780 _ ?side1 ?side2 A54.out).mono ?_); (case side1 => exact GS.rC (Kd.C_below HR1.out HB.out)); (case side2 => exact HC1.out); rintro e w58 ⟨v781, rfl, ho0, hb⟩; refine ⟨_, rfl, ?_⟩; have n0_ := Aside0.mk (Kd.R_below (GS.rR HO_11.out) hb); have n1_ := Aside0.mk (Kd.R_below (GS.rR HO779.out) hb); have n2_ := Aside0.mk (Kd.R_lower ho0 (lqZ (GS.lB HB.out))); have n3_ := Aside0.mk (bqB (GS.bqX BK748.out) hb); have n4_ := Aside0.mk (lqT (GS.lB HB.out) hb); clear HO_11; clear HO779; clear BK748; clear HB; have HO_11 := n0_; have HO779 := n1_; have HO782 := n2_; have BK748 := n3_; have HB := n4_; clear n0_ n1_ n2_ n3_ n4_; (try clear hb); (try clear hb2); (try clear hk); (try clear hi); (try clear ho0); obtain ⟨Ao59, co59, eo59⟩ := Kd.R_slice HO779.out; subst eo59; obtain ⟨Ao60, co60, eo60⟩ := Kd.R_slice HO782.out; subst eo60) | ((with_reducible refine gqC (f := 15) rfl ?_); refine GS.gL (some 106) Try.func15 #[.agg #[.int .i64 t776, .slice Ao59 t777.length co59], .slice Ao60 t780.length co60, .int .i64 a2] ?_; (with_reducible refine (liability_Bonds.calls kj46 t776 _ _ t777 _ _ t780 a2 t783 t786 _ ?side1 ?side2 ?side3 ?side4 A55.out).mono ?_); (case side1 => repeat (first | exact (Kd.R_reads' HO779.out).2.2 | (with_reducible refine Kd.C_alloc ?_ _) | (with_reducible refine Kd.C_drewN ?_ _) | (with_reducible refine Kd.C_drew ?_))); (case side2 => exact (Kd.R_reads' HO779.out).2.1); (case side3 => repeat (first | exact (Kd.R_reads' HO782.out).2.2 | (with_reducible refine Kd.C_alloc ?_ _) | (with_reducible refine Kd.C_drewN ?_ _) | (with_reducible refine Kd.C_drew ?_))); (case side4 => exact (Kd.R_reads' HO782.out).2.1); rintro e w61 ⟨v784, rfl, ho0, hb⟩; refine ⟨_, rfl, ?_⟩; have n0_ := Aside0.mk (Kd.R_below (GS.rR HO_11.out) hb); have n1_ := Aside0.mk (Kd.R_below (GS.rR HO779.out) hb); have n2_ := Aside0.mk (Kd.R_below (GS.rR HO782.out) hb); have n3_ := Aside0.mk (Kd.R_lower ho0 (lqZ (GS.lB HB.out))); have n4_ := Aside0.mk (bqB (GS.bqX BK748.out) hb); have n5_ := Aside0.mk (lqT (GS.lB HB.out) hb); clear HO_11; clear HO779; clear HO782; clear BK748; clear HB; have HO_11 := n0_; have HO779 := n1_; have HO782 := n2_; have HO785 := n3_; have BK748 := n4_; have HB := n5_; clear n0_ n1_ n2_ n3_ n4_ n5_; (try clear hb); (try clear hb2); (try clear hk); (try clear hi); (try clear ho0); obtain ⟨Ao62, co62, eo62⟩ := Kd.R_slice HO785.out; subst eo62))
          go_loopg [19, 111] kj46 (fun kq v19 v111 w' => ∃ (x19_4 : Int) (x111_4 : Int), v19 = .int .i64 x19_4 ∧ v111 = .int .i64 x111_4 ∧ Aside0 (spilelaw51_LiabilityGrows.l0 kq l1 a2 a4 t759 t762 t783 t786 x19_4 t783 (t783.length : Int) x111_4 a0_0 l0_1 = some r) ∧ Aside0 (kq ≤ kj46) ∧ Aside0 (Kd.R (Kd.int .i64) 3 w' w.heap.size (fun _ => True) v760 t759) ∧ Aside0 (Kd.R k42 42 w' w.heap.size (fun _ => True) (.slice Ao62 t783.length co62) t783) ∧ Aside0 (Kd.R k42 42 w' w.heap.size (fun _ => True) (.slice Ao62 t783.length co62) t783) ∧ Aside0 (w'.heap[gb748]? = some (.cells #[.int .i64 a0_0, (.slice A0_1 l0_1.length c0_1)] 24 (0, 0))) ∧ Aside0 (Below w.heap.size w w'))
          case atStart => exact ⟨(0), (0), (by first | rfl | (simp; done) | (simp [*]; done)), (by first | rfl | (simp; done) | (simp [*]; done)), H', ⟨Nat.le_refl _⟩, ⟨by (with_reducible repeat (first | apply Kd.R_alloc | apply Kd.R_drewN | apply Kd.R_drew)); exact HO_11.out⟩, ⟨by (with_reducible repeat (first | apply Kd.R_alloc | apply Kd.R_drewN | apply Kd.R_drew)); exact HO785.out⟩, ⟨by (with_reducible repeat (first | apply Kd.R_alloc | apply Kd.R_drewN | apply Kd.R_drew)); exact HO785.out⟩, ⟨GS.bqX BK748.out⟩, ⟨GS.lB HB.out⟩⟩
          case round => as_aux_lemma =>
           clear H'
           try clear c1
           try clear p2
           try clear c4
           try clear c5
           try clear c8
           try clear c9
           try clear c11
           try clear c12
           try clear c13
           try clear c15
           try clear c19
           try clear c41
           try clear c41b0
           try clear c41b1
           try clear c42
           try clear c43
           try clear c43b0
           try clear c43b1
           try clear c44
           try clear c44b0
           try clear c44b1
           try clear c45
           try clear c45b0
           try clear c45b1
           try clear c46
           try clear c46b0
           try clear c46b1
           try clear c48
           try clear c48b0
           try clear c48b1
           try clear c48b2
           try clear c49
           try clear c49b0
           try clear c49b1
           try clear c49b2
           try clear c52
           try clear hcz13_0
           try clear hcz13_1
           try clear hcz16_0
           try clear hcz16_1
           try clear hcz29_0
           try clear hcz29_1
           try clear hcz35_0
           try clear hcz35_1
           try clear hcz56_0
           try clear hcz56_1
           try clear hfz13_0
           try clear hfz13_1
           try clear hfz16_0
           try clear hfz16_1
           try clear hfz29_0
           try clear hfz29_1
           try clear hfz35_0
           try clear hfz35_1
           try clear hfz56_0
           try clear hfz56_1
           try clear p2
           obtain ⟨x19_4, x111_4, rfl, rfl, HA, HK4, HO_11, HO_17, HO_109, BK748, HB⟩ := hrel
           cases gk with
           | zero => exact absurd HA.out (by simp [spilelaw51_LiabilityGrows.l0])
           | succ k4 =>
            have H := HA.out
            clear HA
            simp only [spilelaw51_LiabilityGrows.l0] at H
            by_cases c63 : x111_4 < (t783.length : Int)
            ·rw [if_pos c63] at H
             have c63b0 : decide (x111_4 < (t783.length : Int)) = true := decide_eq_true c63
             clear c63
             by_cases c64 : 0 ≤ x111_4
             ·rw [if_pos c64] at H
              have c64b0 : decide (0 ≤ x111_4) = true := decide_eq_true c64
              clear c64
              by_cases c65 : x111_4 < (t783.length : Int)
              ·rw [if_pos c65] at H
               have c65b0 : decide (x111_4 < (t783.length : Int)) = true := decide_eq_true c65
               clear c65
               have HC66 := Aside0.mk H
               clear H
               have p787 : 0 ≤ (x111_4 : Int) := of_decide_eq_true (by first | (with_reducible assumption) | assumption)
               have q787 : x111_4 < (t783.length : Int) := of_decide_eq_true (by first | (with_reducible assumption) | assumption)
               obtain ⟨ad787, e787, hx787_0, hx787_1, hx787_2⟩ := at_T42 (Kd.R_reads' HO_109.out).2.2 x111_4 p787 q787
               cases e787
               replace p787 := eq_true p787
               replace q787 := eq_true q787
               go_upto_region 14 with (first | ((with_reducible refine gqD (N := 21) rfl ?_); (try (refine gate_guard (by rfl) ?_; dsimp only)); refine GS.bx (N := 21) (cs := #[.int .i64 0, .int .i64 0, .int .i64 0]) (t := 42) ?_; intro gb788 hg w67 hbox hb; have n0_ := Aside0.mk (Kd.R_below (GS.rR HO_11.out) hb); have n1_ := Aside0.mk (Kd.R_below (Kd.R_elderB (GS.rR HO_17.out) gb788 (Nat.le_of_eq hg.symm)) hb); have n2_ := Aside0.mk (Kd.R_below (Kd.R_elderB (GS.rR HO_109.out) gb788 (Nat.le_of_eq hg.symm)) hb); have n3_ := Aside0.mk (bqB (GS.bqX BK748.out) hb); have n4_ := Aside0.mk (lqT (GS.lB HB.out) hb); have n5_ := Aside0.mk (hbox); have n6_ := Aside0.mk ((by rw [hg]; exact (lqZ (GS.lB HB.out)) : w.heap.size ≤ gb788)); have n7_ := Aside0.mk ((by rw [hg]; exact (lqZ (GS.lB HB.out)) : w.heap.size ≤ gb788)); have n8_ := Aside0.mk ((by rw [hg]; exact Nat.ne_of_lt (blk_lt (GS.bqX BK748.out)) : gb748 ≠ gb788)); have n9_ := Aside0.mk ((by rw [hg]; exact Nat.ne_of_gt (blk_lt (GS.bqX BK748.out)) : gb788 ≠ gb748)); clear HO_11; clear HO_17; clear HO_109; clear BK748; clear HB; have HO_11 := n0_; have HO_17 := n1_; have HO_109 := n2_; have BK748 := n3_; have HB := n4_; have BK788 := n5_; have GW788 := n6_; have GE788 := n7_; have NB748_788 := n8_; have NB788_748 := n9_; clear n0_ n1_ n2_ n3_ n4_ n5_ n6_ n7_ n8_ n9_; clear hb hbox hg; have hnb68 := NB788_748.out; have hnc68 := NB748_788.out; obtain ⟨hcz69_0, hcz69_1, hcz69_2, hfz69_0, hfz69_1, hfz69_2⟩ := GS.c3 BK788.out))
               (try simp only [Act.put, List.setIfInBounds_toArray, List.set_cons_zero, List.set_cons_succ])
               go_cut [133] (fun v133 wc => ∃ (kq : Nat) (x133_65 : Bool), v133 = .bool x133_65 ∧ Aside0 (spilelaw51_LiabilityGrows.j4 kq l1 a2 a4 t759 t762 t783 t786 x19_4 t783 (t783.length : Int) x111_4 x133_65 a0_0 l0_1 ((rd_T42 t783 x111_4).f0) ((rd_T42 t783 x111_4).f1) ((rd_T42 t783 x111_4).f2) = some r) ∧ Aside0 (kq ≤ k4) ∧ Aside0 (Kd.R (Kd.int .i64) 3 wc w.heap.size (fun _ => True) v760 t759) ∧ Aside0 (Kd.R k42 42 wc w.heap.size (fun k_ => k_ ≠ gb788) (.slice (some ad787) t783.length co62) t783) ∧ Aside0 (Kd.R k42 42 wc w.heap.size (fun k_ => k_ ≠ gb788) (.slice (some ad787) t783.length co62) t783) ∧ Aside0 (wc.heap[gb748]? = some (.cells #[.int .i64 a0_0, (.slice A0_1 l0_1.length c0_1)] 24 (0, 0))) ∧ Aside0 (wc.heap[gb788]? = some (.cells #[.int .i64 ((rd_T42 t783 x111_4).f0), .int .i64 ((rd_T42 t783 x111_4).f1), .int .i64 ((rd_T42 t783 x111_4).f2)] 42 (0, 0))) ∧ Aside0 (Below w.heap.size w wc))
               case first => as_aux_lemma =>
                have H := HC66.out
                clear HC66
                by_cases c70 : ((rd_T42 t783 x111_4).f1) = 0
                ·rw [if_pos c70] at H
                 have c70b0 : (((rd_T42 t783 x111_4).f1) == 0) = true := beq_iff_eq.mpr c70
                 try simp only [beq_self_eq_true, Bool.not_true, Bool.false_or, Bool.true_and] at c70b0
                 have c70b1 : (((rd_T42 t783 x111_4).f1) != 0) = false := bne_eq_false_iff_eq.mpr c70
                 clear c70
                 (first | rw [c70b0] | (simp only [i64_w, i32_w]; rw [c70b0]) | skip)
                 by_cases c71 : x111_4 > 0
                 ·rw [if_pos c71] at H
                  have c71b0 : decide (0 < x111_4) = true := decide_eq_true c71
                  clear c71
                  obtain ⟨ji72, hji72⟩ : ∃ j_ : Int, (wrap64 (x111_4 - 1)) = j_ := ⟨_, rfl⟩
                  replace H : (if 0 ≤ (ji72) then (if (ji72) < (t783.length : Int) then (spilelaw51_LiabilityGrows.j4 k4 l1 a2 a4 t759 t762 t783 t786 x19_4 t783 (t783.length : Int) x111_4 (decide (((rd_T42 t783 x111_4).f0) ≤ ((rd_T42 t783 (ji72)).f0))) a0_0 l0_1 ((rd_T42 t783 x111_4).f0) ((rd_T42 t783 x111_4).f1) ((rd_T42 t783 x111_4).f2)) else (none)) else (none)) = some r := by first | (rw [hji72] at H; exact H) | (simp only [hji72] at H ⊢; exact H)
                  have hji72w : (IntKind.i64.wrap (x111_4 - 1)) = ji72 := (i64_w _).trans hji72
                  by_cases c73 : 0 ≤ (ji72)
                  ·rw [if_pos c73] at H
                   have c73b0 : decide (0 ≤ (ji72)) = true := decide_eq_true c73
                   clear c73
                   by_cases c74 : (ji72) < (t783.length : Int)
                   ·rw [if_pos c74] at H
                    have c74b0 : decide ((ji72) < (t783.length : Int)) = true := decide_eq_true c74
                    clear c74
                    have H' := Aside0.mk H
                    clear H
                    try go_wp2
                    have n0_ : Aside0 (Kd.R (Kd.int .i64) 3 (((w67.setCell ⟨gb788, 0, none⟩ (.int .i64 ((rd_T42 t783 x111_4).f0))).setCell ⟨gb788, 1, none⟩ (.int .i64 ((rd_T42 t783 x111_4).f1))).setCell ⟨gb788, 2, none⟩ (.int .i64 ((rd_T42 t783 x111_4).f2))) w.heap.size (fun _ => True) v760 t759) := ⟨by (with_reducible repeat (first | apply Kd.R_alloc | apply Kd.R_drewN | apply Kd.R_drew)); exact Kd.R_mono (Kd.R_far (p := ⟨gb788, 2, none⟩) (Kd.R_far (p := ⟨gb788, 1, none⟩) (Kd.R_far (p := ⟨gb788, 0, none⟩) (Kd.R_types HO_11.out BK788.out (by decide)) (fun _ hk => hk.2) (.int .i64 ((rd_T42 t783 x111_4).f0))) (fun _ hk => hk.2) (.int .i64 ((rd_T42 t783 x111_4).f1))) (fun _ hk => hk.2) (.int .i64 ((rd_T42 t783 x111_4).f2))) (fun _ hk => trivial)⟩
                    have n1_ : Aside0 (Kd.R k42 42 (((w67.setCell ⟨gb788, 0, none⟩ (.int .i64 ((rd_T42 t783 x111_4).f0))).setCell ⟨gb788, 1, none⟩ (.int .i64 ((rd_T42 t783 x111_4).f1))).setCell ⟨gb788, 2, none⟩ (.int .i64 ((rd_T42 t783 x111_4).f2))) w.heap.size (fun k_ => k_ ≠ gb788) (.slice (some ad787) t783.length co62) t783) := ⟨by (with_reducible repeat (first | apply Kd.R_alloc | apply Kd.R_drewN | apply Kd.R_drew)); exact Kd.R_mono (Kd.R_far (p := ⟨gb788, 2, none⟩) (Kd.R_far (p := ⟨gb788, 1, none⟩) (Kd.R_far (p := ⟨gb788, 0, none⟩) (Kd.R_mono HO_17.out (fun k_ hk => (⟨hk, GS.cj hk⟩ : _ ∧ k_ ≠ gb788))) (fun _ hk => hk.2) (.int .i64 ((rd_T42 t783 x111_4).f0))) (fun _ hk => hk.2) (.int .i64 ((rd_T42 t783 x111_4).f1))) (fun _ hk => hk.2) (.int .i64 ((rd_T42 t783 x111_4).f2))) (fun _ hk => GS.cj hk)⟩
                    have n2_ : Aside0 (Kd.R k42 42 (((w67.setCell ⟨gb788, 0, none⟩ (.int .i64 ((rd_T42 t783 x111_4).f0))).setCell ⟨gb788, 1, none⟩ (.int .i64 ((rd_T42 t783 x111_4).f1))).setCell ⟨gb788, 2, none⟩ (.int .i64 ((rd_T42 t783 x111_4).f2))) w.heap.size (fun k_ => k_ ≠ gb788) (.slice (some ad787) t783.length co62) t783) := ⟨by (with_reducible repeat (first | apply Kd.R_alloc | apply Kd.R_drewN | apply Kd.R_drew)); exact Kd.R_mono (Kd.R_far (p := ⟨gb788, 2, none⟩) (Kd.R_far (p := ⟨gb788, 1, none⟩) (Kd.R_far (p := ⟨gb788, 0, none⟩) (Kd.R_mono HO_109.out (fun k_ hk => (⟨hk, GS.cj hk⟩ : _ ∧ k_ ≠ gb788))) (fun _ hk => hk.2) (.int .i64 ((rd_T42 t783 x111_4).f0))) (fun _ hk => hk.2) (.int .i64 ((rd_T42 t783 x111_4).f1))) (fun _ hk => hk.2) (.int .i64 ((rd_T42 t783 x111_4).f2))) (fun _ hk => GS.cj hk)⟩
                    have n3_ : Aside0 ((((w67.setCell ⟨gb788, 0, none⟩ (.int .i64 ((rd_T42 t783 x111_4).f0))).setCell ⟨gb788, 1, none⟩ (.int .i64 ((rd_T42 t783 x111_4).f1))).setCell ⟨gb788, 2, none⟩ (.int .i64 ((rd_T42 t783 x111_4).f2))).heap[gb748]? = some (.cells #[.int .i64 a0_0, .slice A0_1 l0_1.length c0_1] 24 (0, 0))) := ⟨GS.bqX BK748.out⟩
                    have n4_ : Aside0 ((((w67.setCell ⟨gb788, 0, none⟩ (.int .i64 ((rd_T42 t783 x111_4).f0))).setCell ⟨gb788, 1, none⟩ (.int .i64 ((rd_T42 t783 x111_4).f1))).setCell ⟨gb788, 2, none⟩ (.int .i64 ((rd_T42 t783 x111_4).f2))).heap[gb788]? = some (.cells #[.int .i64 ((rd_T42 t783 x111_4).f0), .int .i64 ((rd_T42 t783 x111_4).f1), .int .i64 ((rd_T42 t783 x111_4).f2)] 42 (0, 0))) := ⟨GS.bqZ BK788.out⟩
                    have n5_ : Aside0 (Below w.heap.size w (((w67.setCell ⟨gb788, 0, none⟩ (.int .i64 ((rd_T42 t783 x111_4).f0))).setCell ⟨gb788, 1, none⟩ (.int .i64 ((rd_T42 t783 x111_4).f1))).setCell ⟨gb788, 2, none⟩ (.int .i64 ((rd_T42 t783 x111_4).f2)))) := ⟨GS.lB HB.out⟩
                    (try clear HO_11)
                    (try clear HO_17)
                    (try clear HO_109)
                    (try clear BK748)
                    (try clear BK788)
                    (try clear HB)
                    generalize (((w67.setCell ⟨gb788, 0, none⟩ (.int .i64 ((rd_T42 t783 x111_4).f0))).setCell ⟨gb788, 1, none⟩ (.int .i64 ((rd_T42 t783 x111_4).f1))).setCell ⟨gb788, 2, none⟩ (.int .i64 ((rd_T42 t783 x111_4).f2))) = w75 at n0_ n1_ n2_ n3_ n4_ n5_ ⊢
                    have HO_11 := n0_
                    have HO_17 := n1_
                    have HO_109 := n2_
                    have BK748 := n3_
                    have BK788 := n4_
                    have HB := n5_
                    clear n0_ n1_ n2_ n3_ n4_ n5_
                    have n0_ := Aside0.mk (Kd.R_drew HO_11.out)
                    have n1_ := Aside0.mk (Kd.R_drew HO_17.out)
                    have n2_ := Aside0.mk (Kd.R_drew HO_109.out)
                    have n3_ := Aside0.mk (bqD BK748.out)
                    have n4_ := Aside0.mk (bqD BK788.out)
                    have n5_ := Aside0.mk (lqD HB.out)
                    clear HO_11
                    clear HO_17
                    clear HO_109
                    clear BK748
                    clear BK788
                    clear HB
                    have HO_11 := n0_
                    have HO_17 := n1_
                    have HO_109 := n2_
                    have BK748 := n3_
                    have BK788 := n4_
                    have HB := n5_
                    clear n0_ n1_ n2_ n3_ n4_ n5_
                    have p789 : 0 ≤ ((ji72) : Int) := of_decide_eq_true (by first | (with_reducible assumption) | assumption)
                    have q789 : (ji72) < (t783.length : Int) := of_decide_eq_true (by first | (with_reducible assumption) | assumption)
                    obtain ⟨ad789, e789, hx789_0, hx789_1, hx789_2⟩ := at_T42 (Kd.R_reads' HO_17.out).2.2 (ji72) p789 q789
                    obtain rfl : ad787 = ad789 := (by injection e789)
                    replace p789 := eq_true p789
                    replace q789 := eq_true q789
                    refine start_ (n := 18) (S := fun w' => w'.cell? ⟨gb788, 0, none⟩ = some (.int .i64 ((rd_T42 t783 x111_4).f0)) ∧ w'.cell? ⟨gb788, 1, none⟩ = some (.int .i64 ((rd_T42 t783 x111_4).f1)) ∧ w'.cell? ⟨gb788, 2, none⟩ = some (.int .i64 ((rd_T42 t783 x111_4).f2)) ∧ w'.cell? (ad787.add (((ji72)).toNat * 3)) = some (.int .i64 ((rd_T42 t783 (ji72)).f0)) ∧ w'.cell? ⟨(ad787.add (((ji72)).toNat * 3)).block, (ad787.add (((ji72)).toNat * 3)).off + 1, none⟩ = some (.int .i64 ((rd_T42 t783 (ji72)).f1)) ∧ w'.cell? ⟨(ad787.add (((ji72)).toNat * 3)).block, (ad787.add (((ji72)).toNat * 3)).off + 2, none⟩ = some (.int .i64 ((rd_T42 t783 (ji72)).f2))) (ds := []) #[false, false, false, false, false, false, false, false, false, false, false, false, false, false, false, false, false, false] (by kernel_rfl) rfl rfl ⟨(bqC BK788.out 0).trans rfl, (bqC BK788.out 1).trans rfl, (bqC BK788.out 2).trans rfl, hx789_0, hx789_1, hx789_2⟩ (fun hHeld => ?_); refine with_tabW spilelaw51_LiabilityGrows.tab14 spilelaw51_LiabilityGrows.bits14 (fun HT_ HW_ => ?_)
                    generalize w75.drew = w76 at HO_11 HO_17 HO_109 BK748 BK788 HB hx789_0 hx789_1 hx789_2 hHeld ⊢
                    refine pure_ (i := 0) (N := some 116) (v := ?_) (a' := ?_) #[true, false, false, false, false, false, false, false, false, false, false, false, false, false, false, false, false, false] rfl rfl (any_of HT_.out (by kernel_rfl)) (fun _ _ _ h => h) (Or.inl ⟨by rfl, ?_⟩) ?_ ?_
                    rotate_left
                    ·intro w'
                     go_simp
                     with_reducible rfl
                    rotate_left
                    ·simp only [Act.put, List.setIfInBounds_toArray, List.set_cons_zero, List.set_cons_succ, i64_w, i32_w]
                     rfl
                    refine take_ (i := 1) (N := some 117) (v := ?_) (a' := ?_) #[true, true, false, false, false, false, false, false, false, false, false, false, false, false, false, false, false, false] rfl rfl (take_ofW HT_.out HW_.out (by kernel_rfl)) (fun _ _ _ h => h) (Or.inl ⟨by rfl, ?_⟩) hHeld ?_ ?_
                    rotate_left
                    ·rintro w' ⟨s0, s1, s2, s3, s4, s5⟩
                     go_simp
                     with_reducible rfl
                    rotate_left
                    ·simp only [Act.put, List.setIfInBounds_toArray, List.set_cons_zero, List.set_cons_succ, i64_w, i32_w]
                     rfl
                    refine pure_ (i := 2) (N := some 118) (v := ?_) (a' := ?_) #[true, true, true, false, false, false, false, false, false, false, false, false, false, false, false, false, false, false] rfl rfl (any_of HT_.out (by kernel_rfl)) (fun _ _ _ h => h) (Or.inl ⟨by rfl, ?_⟩) ?_ ?_
                    rotate_left
                    ·intro w'
                     go_simp
                     with_reducible rfl
                    rotate_left
                    ·simp only [Act.put, List.setIfInBounds_toArray, List.set_cons_zero, List.set_cons_succ, i64_w, i32_w]
                     rfl
                    refine pure_ (i := 3) (N := some 119) (v := ?_) (a' := ?_) #[true, true, true, true, false, false, false, false, false, false, false, false, false, false, false, false, false, false] rfl rfl (any_of HT_.out (by kernel_rfl)) (fun _ _ _ h => h) (Or.inl ⟨by rfl, ?_⟩) ?_ ?_
                    rotate_left
                    ·intro w'
                     go_simp
                     with_reducible rfl
                    rotate_left
                    ·simp only [Act.put, List.setIfInBounds_toArray, List.set_cons_zero, List.set_cons_succ, i64_w, i32_w]
                     rfl
                    refine pure_ (i := 4) (N := some 120) (v := ?_) (a' := ?_) #[true, true, true, true, true, false, false, false, false, false, false, false, false, false, false, false, false, false] rfl rfl (any_of HT_.out (by kernel_rfl)) (fun _ _ _ h => h) (Or.inl ⟨by rfl, ?_⟩) ?_ ?_
                    rotate_left
                    ·intro w'
                     go_simp
                     with_reducible rfl
                    rotate_left
                    ·simp only [Act.put, List.setIfInBounds_toArray, List.set_cons_zero, List.set_cons_succ, i64_w, i32_w]
                     rfl
                    refine pure_ (i := 5) (N := some 121) (v := ?_) (a' := ?_) #[true, true, true, true, true, true, false, false, false, false, false, false, false, false, false, false, false, false] rfl rfl (any_of HT_.out (by kernel_rfl)) (fun _ _ _ h => h) (Or.inl ⟨by rfl, ?_⟩) ?_ ?_
                    rotate_left
                    ·intro w'
                     go_simp
                     with_reducible rfl
                    rotate_left
                    ·simp only [Act.put, List.setIfInBounds_toArray, List.set_cons_zero, List.set_cons_succ, i64_w, i32_w]
                     rfl
                    refine pure_ (i := 6) (N := some 122) (v := ?_) (a' := ?_) #[true, true, true, true, true, true, true, false, false, false, false, false, false, false, false, false, false, false] rfl rfl (any_of HT_.out (by kernel_rfl)) (fun _ _ _ h => h) (Or.inl ⟨by rfl, ?_⟩) ?_ ?_
                    rotate_left
                    ·intro w'
                     go_simp
                     with_reducible rfl
                    rotate_left
                    ·simp only [Act.put, List.setIfInBounds_toArray, List.set_cons_zero, List.set_cons_succ, i64_w, i32_w]
                     rfl
                    refine pure_ (i := 7) (N := some 123) (v := ?_) (a' := ?_) #[true, true, true, true, true, true, true, true, false, false, false, false, false, false, false, false, false, false] rfl rfl (any_of HT_.out (by kernel_rfl)) (fun _ _ _ h => h) (Or.inl ⟨by rfl, ?_⟩) ?_ ?_
                    rotate_left
                    ·intro w'
                     go_simp
                     with_reducible rfl
                    rotate_left
                    ·simp only [Act.put, List.setIfInBounds_toArray, List.set_cons_zero, List.set_cons_succ, i64_w, i32_w]
                     rfl
                    refine pure_ (i := 9) (N := some 125) (v := ?_) (a' := ?_) #[true, true, true, true, true, true, true, true, false, true, false, false, false, false, false, false, false, false] rfl rfl (any_of HT_.out (by kernel_rfl)) (fun _ _ _ h => h) (Or.inl ⟨by rfl, ?_⟩) ?_ ?_
                    rotate_left
                    ·intro w'
                     go_simp
                     with_reducible rfl
                    rotate_left
                    ·simp only [Act.put, List.setIfInBounds_toArray, List.set_cons_zero, List.set_cons_succ, i64_w, i32_w]
                     rfl
                    refine pure_ (i := 10) (N := some 126) (v := ?_) (a' := ?_) #[true, true, true, true, true, true, true, true, false, true, true, false, false, false, false, false, false, false] rfl rfl (any_of HT_.out (by kernel_rfl)) (fun _ _ _ h => h) (Or.inl ⟨by rfl, ?_⟩) ?_ ?_
                    rotate_left
                    ·intro w'
                     go_simp
                     with_reducible rfl
                    rotate_left
                    ·simp only [Act.put, List.setIfInBounds_toArray, List.set_cons_zero, List.set_cons_succ, i64_w, i32_w]
                     rfl
                    refine pure_ (i := 11) (N := some 127) (v := ?_) (a' := ?_) #[true, true, true, true, true, true, true, true, false, true, true, true, false, false, false, false, false, false] rfl rfl (any_of HT_.out (by kernel_rfl)) (fun _ _ _ h => h) (Or.inl ⟨by rfl, ?_⟩) ?_ ?_
                    rotate_left
                    ·intro w'
                     go_simp
                     with_reducible rfl
                    rotate_left
                    ·simp only [Act.put, List.setIfInBounds_toArray, List.set_cons_zero, List.set_cons_succ, i64_w, i32_w]
                     rfl
                    refine pure_ (i := 12) (N := some 128) (v := ?_) (a' := ?_) #[true, true, true, true, true, true, true, true, false, true, true, true, true, false, false, false, false, false] rfl rfl (any_of HT_.out (by kernel_rfl)) (fun _ _ _ h => h) (Or.inl ⟨by rfl, ?_⟩) ?_ ?_
                    rotate_left
                    ·intro w'
                     go_simp
                     with_reducible rfl
                    rotate_left
                    ·simp only [Act.put, List.setIfInBounds_toArray, List.set_cons_zero, List.set_cons_succ, i64_w, i32_w]
                     rfl
                    refine pure_ (i := 13) (N := some 129) (v := ?_) (a' := ?_) #[true, true, true, true, true, true, true, true, false, true, true, true, true, true, false, false, false, false] rfl rfl (any_of HT_.out (by kernel_rfl)) (fun _ _ _ h => h) (Or.inl ⟨by rfl, ?_⟩) ?_ ?_
                    rotate_left
                    ·intro w'
                     go_simp
                     with_reducible rfl
                    rotate_left
                    ·simp only [Act.put, List.setIfInBounds_toArray, List.set_cons_zero, List.set_cons_succ, i64_w, i32_w]
                     rfl
                    refine take_ (i := 8) (N := some 124) (v := ?_) (a' := ?_) #[true, true, true, true, true, true, true, true, true, true, true, true, true, true, false, false, false, false] rfl rfl (take_ofW HT_.out HW_.out (by kernel_rfl)) (fun _ _ _ h => h) (Or.inl ⟨by rfl, ?_⟩) hHeld ?_ ?_
                    rotate_left
                    ·rintro w' ⟨s0, s1, s2, s3, s4, s5⟩
                     go_simp
                     with_reducible rfl
                    rotate_left
                    ·simp only [Act.put, List.setIfInBounds_toArray, List.set_cons_zero, List.set_cons_succ, i64_w, i32_w]
                     rfl
                    refine take_ (i := 14) (N := some 130) (v := ?_) (a' := ?_) #[true, true, true, true, true, true, true, true, true, true, true, true, true, true, true, false, false, false] rfl rfl (take_ofW HT_.out HW_.out (by kernel_rfl)) (fun _ _ _ h => h) (Or.inl ⟨by rfl, ?_⟩) hHeld ?_ ?_
                    rotate_left
                    ·rintro w' ⟨s0, s1, s2, s3, s4, s5⟩
                     go_simp
                     with_reducible rfl
                    rotate_left
                    ·simp only [Act.put, List.setIfInBounds_toArray, List.set_cons_zero, List.set_cons_succ, i64_w, i32_w]
                     rfl
                    refine pure_ (i := 15) (N := some 131) (v := ?_) (a' := ?_) #[true, true, true, true, true, true, true, true, true, true, true, true, true, true, true, true, false, false] rfl rfl (any_of HT_.out (by kernel_rfl)) (fun _ _ _ h => h) (Or.inl ⟨by rfl, ?_⟩) ?_ ?_
                    rotate_left
                    ·intro w'
                     go_simp
                     with_reducible rfl
                    rotate_left
                    ·simp only [Act.put, List.setIfInBounds_toArray, List.set_cons_zero, List.set_cons_succ, i64_w, i32_w]
                     rfl
                    refine pure_ (i := 16) (N := some 132) (v := ?_) (a' := ?_) #[true, true, true, true, true, true, true, true, true, true, true, true, true, true, true, true, true, false] rfl rfl (any_of HT_.out (by kernel_rfl)) (fun _ _ _ h => h) (Or.inl ⟨by rfl, ?_⟩) ?_ ?_
                    rotate_left
                    ·intro w'
                     go_simp
                     with_reducible rfl
                    rotate_left
                    ·simp only [Act.put, List.setIfInBounds_toArray, List.set_cons_zero, List.set_cons_succ, i64_w, i32_w]
                     rfl
                    refine pure_ (i := 17) (N := some 133) (v := ?_) (a' := ?_) #[true, true, true, true, true, true, true, true, true, true, true, true, true, true, true, true, true, true] rfl rfl (any_of HT_.out (by kernel_rfl)) (fun _ _ _ h => h) (Or.inl ⟨by rfl, ?_⟩) ?_ ?_
                    rotate_left
                    ·intro w'
                     go_simp
                     with_reducible rfl
                    rotate_left
                    ·simp only [Act.put, List.setIfInBounds_toArray, List.set_cons_zero, List.set_cons_succ, i64_w, i32_w]
                     rfl
                    refine done_ (done_of HT_.out (by kernel_rfl)) ?_
                    try go_wp2
                    go_meet
                    case rel => exact ⟨_, (decide (((rd_T42 t783 x111_4).f0) ≤ ((rd_T42 t783 (ji72)).f0))), (by first | rfl | (simp; done) | (simp only [← hji72] <;> (first | rfl | simp)) | (simp [*]; done)), H', ⟨by have := HJ5.out; have := HJ27.out; have := HJ46.out; have := HK4.out; first | exact Nat.le_refl _ | omega⟩, ⟨by (with_reducible repeat (first | apply Kd.R_alloc | apply Kd.R_drewN | apply Kd.R_drew)); exact HO_11.out⟩, ⟨by (with_reducible repeat (first | apply Kd.R_alloc | apply Kd.R_drewN | apply Kd.R_drew)); exact HO_17.out⟩, ⟨by (with_reducible repeat (first | apply Kd.R_alloc | apply Kd.R_drewN | apply Kd.R_drew)); exact HO_109.out⟩, ⟨GS.bqX BK748.out⟩, ⟨GS.bqX BK788.out⟩, ⟨GS.lB HB.out⟩⟩
                   ·rw [if_neg c74] at H
                    exact absurd H (by simp)
                  ·rw [if_neg c73] at H
                   exact absurd H (by simp)
                 ·rw [if_neg c71] at H
                  have c71b0 : decide (0 < x111_4) = false := decide_eq_false c71
                  clear c71
                  have H' := Aside0.mk H
                  clear H
                  try go_wp2
                  have n0_ : Aside0 (Kd.R (Kd.int .i64) 3 (((w67.setCell ⟨gb788, 0, none⟩ (.int .i64 ((rd_T42 t783 x111_4).f0))).setCell ⟨gb788, 1, none⟩ (.int .i64 ((rd_T42 t783 x111_4).f1))).setCell ⟨gb788, 2, none⟩ (.int .i64 ((rd_T42 t783 x111_4).f2))) w.heap.size (fun _ => True) v760 t759) := ⟨by (with_reducible repeat (first | apply Kd.R_alloc | apply Kd.R_drewN | apply Kd.R_drew)); exact Kd.R_mono (Kd.R_far (p := ⟨gb788, 2, none⟩) (Kd.R_far (p := ⟨gb788, 1, none⟩) (Kd.R_far (p := ⟨gb788, 0, none⟩) (Kd.R_types HO_11.out BK788.out (by decide)) (fun _ hk => hk.2) (.int .i64 ((rd_T42 t783 x111_4).f0))) (fun _ hk => hk.2) (.int .i64 ((rd_T42 t783 x111_4).f1))) (fun _ hk => hk.2) (.int .i64 ((rd_T42 t783 x111_4).f2))) (fun _ hk => trivial)⟩
                  have n1_ : Aside0 (Kd.R k42 42 (((w67.setCell ⟨gb788, 0, none⟩ (.int .i64 ((rd_T42 t783 x111_4).f0))).setCell ⟨gb788, 1, none⟩ (.int .i64 ((rd_T42 t783 x111_4).f1))).setCell ⟨gb788, 2, none⟩ (.int .i64 ((rd_T42 t783 x111_4).f2))) w.heap.size (fun k_ => k_ ≠ gb788) (.slice (some ad787) t783.length co62) t783) := ⟨by (with_reducible repeat (first | apply Kd.R_alloc | apply Kd.R_drewN | apply Kd.R_drew)); exact Kd.R_mono (Kd.R_far (p := ⟨gb788, 2, none⟩) (Kd.R_far (p := ⟨gb788, 1, none⟩) (Kd.R_far (p := ⟨gb788, 0, none⟩) (Kd.R_mono HO_17.out (fun k_ hk => (⟨hk, GS.cj hk⟩ : _ ∧ k_ ≠ gb788))) (fun _ hk => hk.2) (.int .i64 ((rd_T42 t783 x111_4).f0))) (fun _ hk => hk.2) (.int .i64 ((rd_T42 t783 x111_4).f1))) (fun _ hk => hk.2) (.int .i64 ((rd_T42 t783 x111_4).f2))) (fun _ hk => GS.cj hk)⟩
                  have n2_ : Aside0 (Kd.R k42 42 (((w67.setCell ⟨gb788, 0, none⟩ (.int .i64 ((rd_T42 t783 x111_4).f0))).setCell ⟨gb788, 1, none⟩ (.int .i64 ((rd_T42 t783 x111_4).f1))).setCell ⟨gb788, 2, none⟩ (.int .i64 ((rd_T42 t783 x111_4).f2))) w.heap.size (fun k_ => k_ ≠ gb788) (.slice (some ad787) t783.length co62) t783) := ⟨by (with_reducible repeat (first | apply Kd.R_alloc | apply Kd.R_drewN | apply Kd.R_drew)); exact Kd.R_mono (Kd.R_far (p := ⟨gb788, 2, none⟩) (Kd.R_far (p := ⟨gb788, 1, none⟩) (Kd.R_far (p := ⟨gb788, 0, none⟩) (Kd.R_mono HO_109.out (fun k_ hk => (⟨hk, GS.cj hk⟩ : _ ∧ k_ ≠ gb788))) (fun _ hk => hk.2) (.int .i64 ((rd_T42 t783 x111_4).f0))) (fun _ hk => hk.2) (.int .i64 ((rd_T42 t783 x111_4).f1))) (fun _ hk => hk.2) (.int .i64 ((rd_T42 t783 x111_4).f2))) (fun _ hk => GS.cj hk)⟩
                  have n3_ : Aside0 ((((w67.setCell ⟨gb788, 0, none⟩ (.int .i64 ((rd_T42 t783 x111_4).f0))).setCell ⟨gb788, 1, none⟩ (.int .i64 ((rd_T42 t783 x111_4).f1))).setCell ⟨gb788, 2, none⟩ (.int .i64 ((rd_T42 t783 x111_4).f2))).heap[gb748]? = some (.cells #[.int .i64 a0_0, .slice A0_1 l0_1.length c0_1] 24 (0, 0))) := ⟨GS.bqX BK748.out⟩
                  have n4_ : Aside0 ((((w67.setCell ⟨gb788, 0, none⟩ (.int .i64 ((rd_T42 t783 x111_4).f0))).setCell ⟨gb788, 1, none⟩ (.int .i64 ((rd_T42 t783 x111_4).f1))).setCell ⟨gb788, 2, none⟩ (.int .i64 ((rd_T42 t783 x111_4).f2))).heap[gb788]? = some (.cells #[.int .i64 ((rd_T42 t783 x111_4).f0), .int .i64 ((rd_T42 t783 x111_4).f1), .int .i64 ((rd_T42 t783 x111_4).f2)] 42 (0, 0))) := ⟨GS.bqZ BK788.out⟩
                  have n5_ : Aside0 (Below w.heap.size w (((w67.setCell ⟨gb788, 0, none⟩ (.int .i64 ((rd_T42 t783 x111_4).f0))).setCell ⟨gb788, 1, none⟩ (.int .i64 ((rd_T42 t783 x111_4).f1))).setCell ⟨gb788, 2, none⟩ (.int .i64 ((rd_T42 t783 x111_4).f2)))) := ⟨GS.lB HB.out⟩
                  (try clear HO_11)
                  (try clear HO_17)
                  (try clear HO_109)
                  (try clear BK748)
                  (try clear BK788)
                  (try clear HB)
                  generalize (((w67.setCell ⟨gb788, 0, none⟩ (.int .i64 ((rd_T42 t783 x111_4).f0))).setCell ⟨gb788, 1, none⟩ (.int .i64 ((rd_T42 t783 x111_4).f1))).setCell ⟨gb788, 2, none⟩ (.int .i64 ((rd_T42 t783 x111_4).f2))) = w77 at n0_ n1_ n2_ n3_ n4_ n5_ ⊢
                  have HO_11 := n0_
                  have HO_17 := n1_
                  have HO_109 := n2_
                  have BK748 := n3_
                  have BK788 := n4_
                  have HB := n5_
                  clear n0_ n1_ n2_ n3_ n4_ n5_
                  have n0_ := Aside0.mk (Kd.R_drew HO_11.out)
                  have n1_ := Aside0.mk (Kd.R_drew HO_17.out)
                  have n2_ := Aside0.mk (Kd.R_drew HO_109.out)
                  have n3_ := Aside0.mk (bqD BK748.out)
                  have n4_ := Aside0.mk (bqD BK788.out)
                  have n5_ := Aside0.mk (lqD HB.out)
                  clear HO_11
                  clear HO_17
                  clear HO_109
                  clear BK748
                  clear BK788
                  clear HB
                  have HO_11 := n0_
                  have HO_17 := n1_
                  have HO_109 := n2_
                  have BK748 := n3_
                  have BK788 := n4_
                  have HB := n5_
                  clear n0_ n1_ n2_ n3_ n4_ n5_
                  refine start_ (n := 18) (S := fun w' => w'.cell? ⟨gb788, 0, none⟩ = some (.int .i64 ((rd_T42 t783 x111_4).f0)) ∧ w'.cell? ⟨gb788, 1, none⟩ = some (.int .i64 ((rd_T42 t783 x111_4).f1)) ∧ w'.cell? ⟨gb788, 2, none⟩ = some (.int .i64 ((rd_T42 t783 x111_4).f2))) (ds := []) #[false, false, false, false, false, false, false, false, false, false, false, false, false, false, false, false, false, false] (by kernel_rfl) rfl rfl ⟨(bqC BK788.out 0).trans rfl, (bqC BK788.out 1).trans rfl, (bqC BK788.out 2).trans rfl⟩ (fun hHeld => ?_); refine with_tabW spilelaw51_LiabilityGrows.tab14 spilelaw51_LiabilityGrows.bits14 (fun HT_ HW_ => ?_)
                  generalize w77.drew = w78 at HO_11 HO_17 HO_109 BK748 BK788 HB hHeld ⊢
                  refine pure_ (i := 0) (N := some 116) (v := ?_) (a' := ?_) #[true, false, false, false, false, false, false, false, false, false, false, false, false, false, false, false, false, false] rfl rfl (any_of HT_.out (by kernel_rfl)) (fun _ _ _ h => h) (Or.inl ⟨by rfl, ?_⟩) ?_ ?_
                  rotate_left
                  ·intro w'
                   go_simp
                   with_reducible rfl
                  rotate_left
                  ·simp only [Act.put, List.setIfInBounds_toArray, List.set_cons_zero, List.set_cons_succ, i64_w, i32_w]
                   rfl
                  refine take_ (i := 1) (N := some 117) (v := ?_) (a' := ?_) #[true, true, false, false, false, false, false, false, false, false, false, false, false, false, false, false, false, false] rfl rfl (take_ofW HT_.out HW_.out (by kernel_rfl)) (fun _ _ _ h => h) (Or.inl ⟨by rfl, ?_⟩) hHeld ?_ ?_
                  rotate_left
                  ·rintro w' ⟨s0, s1, s2⟩
                   go_simp
                   with_reducible rfl
                  rotate_left
                  ·simp only [Act.put, List.setIfInBounds_toArray, List.set_cons_zero, List.set_cons_succ, i64_w, i32_w]
                   rfl
                  refine pure_ (i := 2) (N := some 118) (v := ?_) (a' := ?_) #[true, true, true, false, false, false, false, false, false, false, false, false, false, false, false, false, false, false] rfl rfl (any_of HT_.out (by kernel_rfl)) (fun _ _ _ h => h) (Or.inl ⟨by rfl, ?_⟩) ?_ ?_
                  rotate_left
                  ·intro w'
                   go_simp
                   with_reducible rfl
                  rotate_left
                  ·simp only [Act.put, List.setIfInBounds_toArray, List.set_cons_zero, List.set_cons_succ, i64_w, i32_w]
                   rfl
                  refine pure_ (i := 3) (N := some 119) (v := ?_) (a' := ?_) #[true, true, true, true, false, false, false, false, false, false, false, false, false, false, false, false, false, false] rfl rfl (any_of HT_.out (by kernel_rfl)) (fun _ _ _ h => h) (Or.inl ⟨by rfl, ?_⟩) ?_ ?_
                  rotate_left
                  ·intro w'
                   go_simp
                   with_reducible rfl
                  rotate_left
                  ·simp only [Act.put, List.setIfInBounds_toArray, List.set_cons_zero, List.set_cons_succ, i64_w, i32_w]
                   rfl
                  refine pure_ (i := 4) (N := some 120) (v := ?_) (a' := ?_) #[true, true, true, true, true, false, false, false, false, false, false, false, false, false, false, false, false, false] rfl rfl (any_of HT_.out (by kernel_rfl)) (fun _ _ _ h => h) (Or.inl ⟨by rfl, ?_⟩) ?_ ?_
                  rotate_left
                  ·intro w'
                   go_simp
                   with_reducible rfl
                  rotate_left
                  ·simp only [Act.put, List.setIfInBounds_toArray, List.set_cons_zero, List.set_cons_succ, i64_w, i32_w]
                   rfl
                  refine pure_ (i := 5) (N := some 121) (v := ?_) (a' := ?_) #[true, true, true, true, true, true, false, false, false, false, false, false, false, false, false, false, false, false] rfl rfl (any_of HT_.out (by kernel_rfl)) (fun _ _ _ h => h) (Or.inl ⟨by rfl, ?_⟩) ?_ ?_
                  rotate_left
                  ·intro w'
                   go_simp
                   with_reducible rfl
                  rotate_left
                  ·simp only [Act.put, List.setIfInBounds_toArray, List.set_cons_zero, List.set_cons_succ, i64_w, i32_w]
                   rfl
                  refine pure_ (i := 6) (N := some 122) (v := ?_) (a' := ?_) #[true, true, true, true, true, true, true, false, false, false, false, false, false, false, false, false, false, false] rfl rfl (any_of HT_.out (by kernel_rfl)) (fun _ _ _ h => h) (Or.inl ⟨by rfl, ?_⟩) ?_ ?_
                  rotate_left
                  ·intro w'
                   go_simp
                   with_reducible rfl
                  rotate_left
                  ·simp only [Act.put, List.setIfInBounds_toArray, List.set_cons_zero, List.set_cons_succ, i64_w, i32_w]
                   rfl
                  refine pure_ (i := 7) (N := some 123) (v := undef) (a' := ?_) #[true, true, true, true, true, true, true, true, false, false, false, false, false, false, false, false, false, false] rfl rfl (any_of HT_.out (by kernel_rfl)) (fun _ _ _ h => h) (Or.inr ⟨by rfl, rfl⟩) ?_ ?_
                  rotate_left
                  ·simp only [Act.put, List.setIfInBounds_toArray, List.set_cons_zero, List.set_cons_succ, i64_w, i32_w]
                   rfl
                  refine pure_ (i := 8) (N := some 124) (v := undef) (a' := ?_) #[true, true, true, true, true, true, true, true, true, false, false, false, false, false, false, false, false, false] rfl rfl (any_of HT_.out (by kernel_rfl)) (fun _ _ _ h => h) (Or.inr ⟨by rfl, rfl⟩) ?_ ?_
                  rotate_left
                  ·simp only [Act.put, List.setIfInBounds_toArray, List.set_cons_zero, List.set_cons_succ, i64_w, i32_w]
                   rfl
                  refine pure_ (i := 9) (N := some 125) (v := undef) (a' := ?_) #[true, true, true, true, true, true, true, true, true, true, false, false, false, false, false, false, false, false] rfl rfl (any_of HT_.out (by kernel_rfl)) (fun _ _ _ h => h) (Or.inr ⟨by rfl, rfl⟩) ?_ ?_
                  rotate_left
                  ·simp only [Act.put, List.setIfInBounds_toArray, List.set_cons_zero, List.set_cons_succ, i64_w, i32_w]
                   rfl
                  refine pure_ (i := 10) (N := some 126) (v := undef) (a' := ?_) #[true, true, true, true, true, true, true, true, true, true, true, false, false, false, false, false, false, false] rfl rfl (any_of HT_.out (by kernel_rfl)) (fun _ _ _ h => h) (Or.inr ⟨by rfl, rfl⟩) ?_ ?_
                  rotate_left
                  ·simp only [Act.put, List.setIfInBounds_toArray, List.set_cons_zero, List.set_cons_succ, i64_w, i32_w]
                   rfl
                  refine pure_ (i := 11) (N := some 127) (v := undef) (a' := ?_) #[true, true, true, true, true, true, true, true, true, true, true, true, false, false, false, false, false, false] rfl rfl (any_of HT_.out (by kernel_rfl)) (fun _ _ _ h => h) (Or.inr ⟨by rfl, rfl⟩) ?_ ?_
                  rotate_left
                  ·simp only [Act.put, List.setIfInBounds_toArray, List.set_cons_zero, List.set_cons_succ, i64_w, i32_w]
                   rfl
                  refine pure_ (i := 12) (N := some 128) (v := undef) (a' := ?_) #[true, true, true, true, true, true, true, true, true, true, true, true, true, false, false, false, false, false] rfl rfl (any_of HT_.out (by kernel_rfl)) (fun _ _ _ h => h) (Or.inr ⟨by rfl, rfl⟩) ?_ ?_
                  rotate_left
                  ·simp only [Act.put, List.setIfInBounds_toArray, List.set_cons_zero, List.set_cons_succ, i64_w, i32_w]
                   rfl
                  refine pure_ (i := 13) (N := some 129) (v := undef) (a' := ?_) #[true, true, true, true, true, true, true, true, true, true, true, true, true, true, false, false, false, false] rfl rfl (any_of HT_.out (by kernel_rfl)) (fun _ _ _ h => h) (Or.inr ⟨by rfl, rfl⟩) ?_ ?_
                  rotate_left
                  ·simp only [Act.put, List.setIfInBounds_toArray, List.set_cons_zero, List.set_cons_succ, i64_w, i32_w]
                   rfl
                  refine pure_ (i := 14) (N := some 130) (v := undef) (a' := ?_) #[true, true, true, true, true, true, true, true, true, true, true, true, true, true, true, false, false, false] rfl rfl (any_of HT_.out (by kernel_rfl)) (fun _ _ _ h => h) (Or.inr ⟨by rfl, rfl⟩) ?_ ?_
                  rotate_left
                  ·simp only [Act.put, List.setIfInBounds_toArray, List.set_cons_zero, List.set_cons_succ, i64_w, i32_w]
                   rfl
                  refine pure_ (i := 15) (N := some 131) (v := undef) (a' := ?_) #[true, true, true, true, true, true, true, true, true, true, true, true, true, true, true, true, false, false] rfl rfl (any_of HT_.out (by kernel_rfl)) (fun _ _ _ h => h) (Or.inr ⟨by rfl, rfl⟩) ?_ ?_
                  rotate_left
                  ·simp only [Act.put, List.setIfInBounds_toArray, List.set_cons_zero, List.set_cons_succ, i64_w, i32_w]
                   rfl
                  refine pure_ (i := 16) (N := some 132) (v := ?_) (a' := ?_) #[true, true, true, true, true, true, true, true, true, true, true, true, true, true, true, true, true, false] rfl rfl (any_of HT_.out (by kernel_rfl)) (fun _ _ _ h => h) (Or.inl ⟨by rfl, ?_⟩) ?_ ?_
                  rotate_left
                  ·intro w'
                   go_simp
                   with_reducible rfl
                  rotate_left
                  ·simp only [Act.put, List.setIfInBounds_toArray, List.set_cons_zero, List.set_cons_succ, i64_w, i32_w]
                   rfl
                  refine pure_ (i := 17) (N := some 133) (v := ?_) (a' := ?_) #[true, true, true, true, true, true, true, true, true, true, true, true, true, true, true, true, true, true] rfl rfl (any_of HT_.out (by kernel_rfl)) (fun _ _ _ h => h) (Or.inl ⟨by rfl, ?_⟩) ?_ ?_
                  rotate_left
                  ·intro w'
                   go_simp
                   with_reducible rfl
                  rotate_left
                  ·simp only [Act.put, List.setIfInBounds_toArray, List.set_cons_zero, List.set_cons_succ, i64_w, i32_w]
                   rfl
                  refine done_ (done_of HT_.out (by kernel_rfl)) ?_
                  try go_wp2
                  go_meet
                  case rel => exact ⟨_, (false), (by first | rfl | (simp; done) | (simp [*]; done)), H', ⟨by have := HJ5.out; have := HJ27.out; have := HJ46.out; have := HK4.out; first | exact Nat.le_refl _ | omega⟩, ⟨by (with_reducible repeat (first | apply Kd.R_alloc | apply Kd.R_drewN | apply Kd.R_drew)); exact HO_11.out⟩, ⟨by (with_reducible repeat (first | apply Kd.R_alloc | apply Kd.R_drewN | apply Kd.R_drew)); exact HO_17.out⟩, ⟨by (with_reducible repeat (first | apply Kd.R_alloc | apply Kd.R_drewN | apply Kd.R_drew)); exact HO_109.out⟩, ⟨GS.bqX BK748.out⟩, ⟨GS.bqX BK788.out⟩, ⟨GS.lB HB.out⟩⟩
                ·rw [if_neg c70] at H
                 exact absurd H (by simp)
               case rest => as_aux_lemma =>
                clear HC66
                try clear c1
                try clear p2
                try clear c4
                try clear c5
                try clear c6
                try clear p6
                try clear c7
                try clear p7
                try clear q7
                try clear hx7
                try clear c8
                try clear c9
                try clear c11
                try clear c12
                try clear c13
                try clear c15
                try clear c19
                try clear c41
                try clear c41b0
                try clear c41b1
                try clear c42
                try clear c43
                try clear c43b0
                try clear c43b1
                try clear c44
                try clear c44b0
                try clear c44b1
                try clear c45
                try clear c45b0
                try clear c45b1
                try clear c46
                try clear c46b0
                try clear c46b1
                try clear c48
                try clear c48b0
                try clear c48b1
                try clear c48b2
                try clear c49
                try clear c49b0
                try clear c49b1
                try clear c49b2
                try clear c52
                try clear c63
                try clear c63b0
                try clear c64
                try clear c64b0
                try clear p64
                try clear c65
                try clear c65b0
                try clear c68
                try clear c70
                try clear c70b0
                try clear c70b1
                try clear c71
                try clear c71b0
                try clear c73
                try clear c73b0
                try clear c74
                try clear c74b0
                try clear p78
                try clear q78
                try clear hx78
                try clear hcz13_0
                try clear hcz13_1
                try clear hcz16_0
                try clear hcz16_1
                try clear hcz29_0
                try clear hcz29_1
                try clear hcz35_0
                try clear hcz35_1
                try clear hcz56_0
                try clear hcz56_1
                try clear hcz69_0
                try clear hcz69_1
                try clear hcz69_2
                try clear hfz13_0
                try clear hfz13_1
                try clear hfz16_0
                try clear hfz16_1
                try clear hfz29_0
                try clear hfz29_1
                try clear hfz35_0
                try clear hfz35_1
                try clear hfz56_0
                try clear hfz56_1
                try clear hfz69_0
                try clear hfz69_1
                try clear hfz69_2
                try clear hx787_0
                try clear hx787_1
                try clear hx787_2
                try clear hx789_0
                try clear hx789_1
                try clear hx789_2
                try clear p2
                try clear p787
                try clear p789
                try clear q787
                try clear q789
                obtain ⟨kq, x133_65, rfl, HA, HJ65, HO_11, HO_17, HO_109, BK748, BK788, HB⟩ := hcut
                cases kq with
                | zero => exact absurd HA.out (by simp [spilelaw51_LiabilityGrows.j4])
                | succ kj65 =>
                 have H := HA.out
                 clear HA
                 simp only [spilelaw51_LiabilityGrows.j4] at H
                 by_cases c79 : x133_65 = true
                 ·subst c79
                  have H1 : (none) = some r := by rw [if_pos rfl] at H; exact H
                  clear H
                  have H := H1
                  clear H1
                  exact absurd H (by simp)
                 ·replace c79 := Bool.eq_false_iff.mpr c79
                  subst c79
                  have H1 : (spilelaw51_LiabilityGrows.l0 kj65 l1 a2 a4 t759 t762 t783 t786 (wrap64 (x19_4 + ((rd_T42 t783 x111_4).f2))) t783 (t783.length : Int) (wrap64 (x111_4 + 1)) a0_0 l0_1) = some r := by rw [if_neg (show ¬ (false = true) by decide)] at H; exact H
                  clear H
                  have H := H1
                  clear H1
                  have H' := Aside0.mk H
                  clear H
                  have hnb80 := NB788_748.out
                  have hnc80 := NB748_788.out
                  obtain ⟨hcz81_0, hcz81_1, hcz81_2, hfz81_0, hfz81_1, hfz81_2⟩ := GS.c3 BK788.out
                  go_wp2
                  go_roundg kj65
                  case measure => have := HJ5.out; have := HJ27.out; have := HJ46.out; have := HK4.out; have := HJ65.out; omega
                  case rel => exact ⟨(wrap64 (x19_4 + ((rd_T42 t783 x111_4).f2))), (wrap64 (x111_4 + 1)), (by first | rfl | (simp; done) | (simp [*]; done)), (by first | rfl | (simp; done) | (simp [*]; done)), H', ⟨by have := HJ5.out; have := HJ27.out; have := HJ46.out; have := HK4.out; have := HJ65.out; omega⟩, ⟨by (with_reducible repeat (first | apply Kd.R_alloc | apply Kd.R_drewN | apply Kd.R_drew)); exact HO_11.out⟩, ⟨by (with_reducible repeat (first | apply Kd.R_alloc | apply Kd.R_drewN | apply Kd.R_drew)); exact Kd.R_mono HO_17.out (fun _ hk => trivial)⟩, ⟨by (with_reducible repeat (first | apply Kd.R_alloc | apply Kd.R_drewN | apply Kd.R_drew)); exact Kd.R_mono HO_109.out (fun _ hk => trivial)⟩, ⟨GS.bqX BK748.out⟩, ⟨GS.lB HB.out⟩⟩
              ·rw [if_neg c65] at H
               exact absurd H (by simp)
             ·rw [if_neg c64] at H
              exact absurd H (by simp)
            ·rw [if_neg c63] at H
             have c63b0 : decide (x111_4 < (t783.length : Int)) = false := decide_eq_false c63
             clear c63
             have HC82 := Aside0.mk H
             clear H
             go_upto_region 18 with (fail)
             go_cut [150] (fun v150 wc => ∃ (kq : Nat) (x150_81 : Bool), v150 = .bool x150_81 ∧ Aside0 (spilelaw51_LiabilityGrows.j5 kq l1 a2 a4 t759 t762 t786 x19_4 x150_81 a0_0 l0_1 = some r) ∧ Aside0 (kq ≤ k4) ∧ Aside0 (Kd.R (Kd.int .i64) 3 wc w.heap.size (fun _ => True) v760 t759) ∧ Aside0 (wc.heap[gb748]? = some (.cells #[.int .i64 a0_0, (.slice A0_1 l0_1.length c0_1)] 24 (0, 0))) ∧ Aside0 (Below w.heap.size w wc))
             case first => as_aux_lemma =>
              have H := HC82.out
              clear HC82
              by_cases c83 : t786 = 0
              ·rw [if_pos c83] at H
               have c83b0 : (t786 == 0) = true := beq_iff_eq.mpr c83
               try simp only [beq_self_eq_true, Bool.not_true, Bool.false_or, Bool.true_and] at c83b0
               have c83b1 : (t786 != 0) = false := bne_eq_false_iff_eq.mpr c83
               clear c83
               (first | rw [c83b0] | (simp only [i64_w, i32_w]; rw [c83b0]) | skip)
               by_cases c84 : x19_4 = t762
               ·rw [if_pos c84] at H
                have c84b0 : (x19_4 == t762) = true := beq_iff_eq.mpr c84
                try simp only [beq_self_eq_true, Bool.not_true, Bool.false_or, Bool.true_and] at c84b0
                have c84b1 : (x19_4 != t762) = false := bne_eq_false_iff_eq.mpr c84
                clear c84
                have H' := Aside0.mk H
                clear H
                go_wp2
                go_meet
                case rel => exact ⟨_, (((l1.length : Int) == 0)), (by first | rfl | (simp; done) | (simp [*]; done)), H', ⟨by have := HJ5.out; have := HJ27.out; have := HJ46.out; have := HK4.out; first | exact Nat.le_refl _ | omega⟩, ⟨by (with_reducible repeat (first | apply Kd.R_alloc | apply Kd.R_drewN | apply Kd.R_drew)); exact HO_11.out⟩, ⟨GS.bqX BK748.out⟩, ⟨GS.lB HB.out⟩⟩
               ·rw [if_neg c84] at H
                have c84b0 : (x19_4 == t762) = false := beq_eq_false_iff_ne.mpr c84
                try simp only [beq_self_eq_true, Bool.not_true, Bool.false_or, Bool.true_and] at c84b0
                have c84b1 : (x19_4 != t762) = true := bne_iff_ne.mpr c84
                have H' := Aside0.mk H
                clear H
                go_wp2
                go_meet
                case rel => exact ⟨_, (true), (by first | rfl | (simp; done) | (simp [*]; done)), H', ⟨by have := HJ5.out; have := HJ27.out; have := HJ46.out; have := HK4.out; first | exact Nat.le_refl _ | omega⟩, ⟨by (with_reducible repeat (first | apply Kd.R_alloc | apply Kd.R_drewN | apply Kd.R_drew)); exact HO_11.out⟩, ⟨GS.bqX BK748.out⟩, ⟨GS.lB HB.out⟩⟩
              ·rw [if_neg c83] at H
               have c83b0 : (t786 == 0) = false := beq_eq_false_iff_ne.mpr c83
               try simp only [beq_self_eq_true, Bool.not_true, Bool.false_or, Bool.true_and] at c83b0
               have c83b1 : (t786 != 0) = true := bne_iff_ne.mpr c83
               (first | rw [c83b0] | (simp only [i64_w, i32_w]; rw [c83b0]) | skip)
               have H' := Aside0.mk H
               clear H
               go_wp2
               go_meet
               case rel => exact ⟨_, (true), (by first | rfl | (simp; done) | (simp [*]; done)), H', ⟨by have := HJ5.out; have := HJ27.out; have := HJ46.out; have := HK4.out; first | exact Nat.le_refl _ | omega⟩, ⟨by (with_reducible repeat (first | apply Kd.R_alloc | apply Kd.R_drewN | apply Kd.R_drew)); exact HO_11.out⟩, ⟨GS.bqX BK748.out⟩, ⟨GS.lB HB.out⟩⟩
             case rest => as_aux_lemma =>
              clear HC82
              try clear c1
              try clear p2
              try clear c4
              try clear c5
              try clear c6
              try clear p6
              try clear c7
              try clear p7
              try clear q7
              try clear hx7
              try clear c8
              try clear c9
              try clear c11
              try clear c12
              try clear c13
              try clear c15
              try clear c19
              try clear c41
              try clear c41b0
              try clear c41b1
              try clear c42
              try clear c43
              try clear c43b0
              try clear c43b1
              try clear c44
              try clear c44b0
              try clear c44b1
              try clear c45
              try clear c45b0
              try clear c45b1
              try clear c46
              try clear c46b0
              try clear c46b1
              try clear c48
              try clear c48b0
              try clear c48b1
              try clear c48b2
              try clear c49
              try clear c49b0
              try clear c49b1
              try clear c49b2
              try clear c52
              try clear c63
              try clear c63b0
              try clear c64
              try clear c64b0
              try clear p64
              try clear c65
              try clear c65b0
              try clear c68
              try clear c70
              try clear c70b0
              try clear c70b1
              try clear c71
              try clear c71b0
              try clear c73
              try clear c73b0
              try clear c74
              try clear c74b0
              try clear p78
              try clear q78
              try clear hx78
              try clear c79
              try clear c80
              try clear c83
              try clear c83b0
              try clear c83b1
              try clear c84
              try clear c84b0
              try clear c84b1
              try clear hcz13_0
              try clear hcz13_1
              try clear hcz16_0
              try clear hcz16_1
              try clear hcz29_0
              try clear hcz29_1
              try clear hcz35_0
              try clear hcz35_1
              try clear hcz56_0
              try clear hcz56_1
              try clear hcz69_0
              try clear hcz69_1
              try clear hcz69_2
              try clear hcz81_0
              try clear hcz81_1
              try clear hcz81_2
              try clear hfz13_0
              try clear hfz13_1
              try clear hfz16_0
              try clear hfz16_1
              try clear hfz29_0
              try clear hfz29_1
              try clear hfz35_0
              try clear hfz35_1
              try clear hfz56_0
              try clear hfz56_1
              try clear hfz69_0
              try clear hfz69_1
              try clear hfz69_2
              try clear hfz81_0
              try clear hfz81_1
              try clear hfz81_2
              try clear hx787_0
              try clear hx787_1
              try clear hx787_2
              try clear hx789_0
              try clear hx789_1
              try clear hx789_2
              try clear p2
              try clear p6
              try clear p64
              try clear p7
              try clear p78
              try clear p787
              try clear p789
              try clear q7
              try clear q78
              try clear q787
              try clear q789
              obtain ⟨kq, x150_81, rfl, HA, HJ81, HO_11, BK748, HB⟩ := hcut
              cases kq with
              | zero => exact absurd HA.out (by simp [spilelaw51_LiabilityGrows.j5])
              | succ kj81 =>
               have H := HA.out
               clear HA
               simp only [spilelaw51_LiabilityGrows.j5] at H
               by_cases c85 : x150_81 = true
               ·subst c85
                have H1 : (if t786 = 0 then (some (x19_4 == t762)) else (none)) = some r := by rw [if_pos rfl] at H; exact H
                clear H
                have H := H1
                clear H1
                by_cases c86 : t786 = 0
                ·rw [if_pos c86] at H
                 have c86b0 : (t786 == 0) = true := beq_iff_eq.mpr c86
                 try simp only [beq_self_eq_true, Bool.not_true, Bool.false_or, Bool.true_and] at c86b0
                 have c86b1 : (t786 != 0) = false := bne_eq_false_iff_eq.mpr c86
                 clear c86
                 obtain rfl := Option.some.inj H
                 go_wp2
                 go_ret
                 exact ⟨by first | rfl | (simp [errW_none, errW_some] <;> rfl) | (simp [*, errW_none, errW_some] <;> rfl), GS.lB HB.out⟩
                ·rw [if_neg c86] at H
                 exact absurd H (by simp)
               ·replace c85 := Bool.eq_false_iff.mpr c85
                subst c85
                have H1 : ((spilelaw51_ct.f a0_0 l0_1).bind fun bt790 => (if 1 ≤ (l1.length : Int) then ((clone13.f (l1.drop 1)).bind fun t798 => ((liability_Greatest.f kj81 bt790.1 bt790.2 t798 a2).bind fun bt801 => (if bt801.2.2 = 0 then (if 0 < (t759.length : Int) then (if bt801.2.1 = (wrap64 (t762 - (rd t759 0))) then (if a4 < 0 then (spilelaw51_LiabilityGrows.j6 kj81 l1 a2 a4 t759 t762 bt801.2.1 bt801.2.2 true a0_0 l0_1) else (if 0 < (l1.length : Int) then (spilelaw51_LiabilityGrows.j6 kj81 l1 a2 a4 t759 t762 bt801.2.1 bt801.2.2 (decide (((rd_T35 l1 0).f4) > (wrap64 (10737418240000 - a4)))) a0_0 l0_1) else (none))) else (spilelaw51_LiabilityGrows.j6 kj81 l1 a2 a4 t759 t762 bt801.2.1 bt801.2.2 true a0_0 l0_1)) else (none)) else (spilelaw51_LiabilityGrows.j6 kj81 l1 a2 a4 t759 t762 bt801.2.1 bt801.2.2 true a0_0 l0_1)))) else (none))) = some r := by rw [if_neg (show ¬ (false = true) by decide)] at H; exact H
                clear H
                have H := H1
                clear H1
                replace H := Option.bind_eq_some_iff.mp H
                obtain ⟨⟨t790, t791⟩, A870, H⟩ := H
                replace H : (if 1 ≤ (l1.length : Int) then ((clone13.f (l1.drop 1)).bind fun t798 => ((liability_Greatest.f kj81 t790 t791 t798 a2).bind fun bt801 => (if bt801.2.2 = 0 then (if 0 < (t759.length : Int) then (if bt801.2.1 = (wrap64 (t762 - (rd t759 0))) then (if a4 < 0 then (spilelaw51_LiabilityGrows.j6 kj81 l1 a2 a4 t759 t762 bt801.2.1 bt801.2.2 true a0_0 l0_1) else (if 0 < (l1.length : Int) then (spilelaw51_LiabilityGrows.j6 kj81 l1 a2 a4 t759 t762 bt801.2.1 bt801.2.2 (decide (((rd_T35 l1 0).f4) > (wrap64 (10737418240000 - a4)))) a0_0 l0_1) else (none))) else (spilelaw51_LiabilityGrows.j6 kj81 l1 a2 a4 t759 t762 bt801.2.1 bt801.2.2 true a0_0 l0_1)) else (none)) else (spilelaw51_LiabilityGrows.j6 kj81 l1 a2 a4 t759 t762 bt801.2.1 bt801.2.2 true a0_0 l0_1)))) else (none)) = some r := H
                have A87 := Aside0.mk A870
                clear A870
                by_cases c88 : 1 ≤ (l1.length : Int)
                ·rw [if_pos c88] at H
                 have c88b0 := eq_true c88
                 have c88b1 : decide (1 ≤ (l1.length : Int)) = true := decide_eq_true c88
                 clear c88
                 obtain ⟨y794, hy794⟩ : ∃ y_ : List (S35), y_ = (l1.drop 1) := ⟨_, rfl⟩
                 replace H : ((clone13.f y794).bind fun t798 => ((liability_Greatest.f kj81 t790 t791 t798 a2).bind fun bt801 => (if bt801.2.2 = 0 then (if 0 < (t759.length : Int) then (if bt801.2.1 = (wrap64 (t762 - (rd t759 0))) then (if a4 < 0 then (spilelaw51_LiabilityGrows.j6 kj81 l1 a2 a4 t759 t762 bt801.2.1 bt801.2.2 true a0_0 l0_1) else (if 0 < (l1.length : Int) then (spilelaw51_LiabilityGrows.j6 kj81 l1 a2 a4 t759 t762 bt801.2.1 bt801.2.2 (decide (((rd_T35 l1 0).f4) > (wrap64 (10737418240000 - a4)))) a0_0 l0_1) else (none))) else (spilelaw51_LiabilityGrows.j6 kj81 l1 a2 a4 t759 t762 bt801.2.1 bt801.2.2 true a0_0 l0_1)) else (none)) else (spilelaw51_LiabilityGrows.j6 kj81 l1 a2 a4 t759 t762 bt801.2.1 bt801.2.2 true a0_0 l0_1)))) = some r := by first | (rw [hy794]; with_reducible exact H) | (have H2_ := (Option.bind_some _ _).symm.trans H; rw [hy794]; with_reducible exact H2_) | (have H2_ := (Option.bind_some _ _).symm.trans H; with_reducible exact H2_) | with_reducible exact H | (rw [hy794]; exact H) | exact H
                 have Ny794 := Aside0.mk hy794
                 clear hy794
                 replace H := Option.bind_eq_some_iff.mp H
                 obtain ⟨t798, A890, H⟩ := H
                 replace H : ((liability_Greatest.f kj81 t790 t791 t798 a2).bind fun bt801 => (if bt801.2.2 = 0 then (if 0 < (t759.length : Int) then (if bt801.2.1 = (wrap64 (t762 - (rd t759 0))) then (if a4 < 0 then (spilelaw51_LiabilityGrows.j6 kj81 l1 a2 a4 t759 t762 bt801.2.1 bt801.2.2 true a0_0 l0_1) else (if 0 < (l1.length : Int) then (spilelaw51_LiabilityGrows.j6 kj81 l1 a2 a4 t759 t762 bt801.2.1 bt801.2.2 (decide (((rd_T35 l1 0).f4) > (wrap64 (10737418240000 - a4)))) a0_0 l0_1) else (none))) else (spilelaw51_LiabilityGrows.j6 kj81 l1 a2 a4 t759 t762 bt801.2.1 bt801.2.2 true a0_0 l0_1)) else (none)) else (spilelaw51_LiabilityGrows.j6 kj81 l1 a2 a4 t759 t762 bt801.2.1 bt801.2.2 true a0_0 l0_1))) = some r := H
                 have A89 := Aside0.mk A890
                 clear A890
                 replace H := Option.bind_eq_some_iff.mp H
                 obtain ⟨⟨t801, t804, t805⟩, A900, H⟩ := H
                 replace H : (if t805 = 0 then (if 0 < (t759.length : Int) then (if t804 = (wrap64 (t762 - (rd t759 0))) then (if a4 < 0 then (spilelaw51_LiabilityGrows.j6 kj81 l1 a2 a4 t759 t762 t804 t805 true a0_0 l0_1) else (if 0 < (l1.length : Int) then (spilelaw51_LiabilityGrows.j6 kj81 l1 a2 a4 t759 t762 t804 t805 (decide (((rd_T35 l1 0).f4) > (wrap64 (10737418240000 - a4)))) a0_0 l0_1) else (none))) else (spilelaw51_LiabilityGrows.j6 kj81 l1 a2 a4 t759 t762 t804 t805 true a0_0 l0_1)) else (none)) else (spilelaw51_LiabilityGrows.j6 kj81 l1 a2 a4 t759 t762 t804 t805 true a0_0 l0_1)) = some r := H
                 have A90 := Aside0.mk A900
                 clear A900
                 have HC91 := Aside0.mk H
                 clear H
                 try go_wp2
                 have n0_ := Aside0.mk (Kd.R_drew HO_11.out)
                 have n1_ := Aside0.mk (bqD BK748.out)
                 have n2_ := Aside0.mk (lqD HB.out)
                 clear HO_11
                 clear BK748
                 clear HB
                 have HO_11 := n0_
                 have BK748 := n1_
                 have HB := n2_
                 clear n0_ n1_ n2_
                 have q93 : (1 : Int) ≤ ((l1.length : Int) : Int) := of_decide_eq_true (by first | (with_reducible assumption) | assumption)
                 obtain ⟨i093, hi093, _, hsz93, _⟩ := info_parts info35
                 have hroom93 : l1.length ≤ c1 := HC1.out
                 have hC93 : Kd.C k35 _ A1 l1.length l1 := HR1.out
                 have hcut93 := cut_from (P := Try.prog) 25 35 .i64 Try.underlying25 hi093 5 hsz93 A1 l1.length c1 1 (by decide) q93
                 have hr93 := Kd.C_drop (m := (1 : Int).toNat) (c := c1) hC93 (Int.toNat_le.mpr q93) hroom93
                 obtain ⟨A93, hA93⟩ : ∃ A_, A_ = (if c1 = (1 : Int).toNat then A1 else (A1 : Option Addr).map (·.add ((1 : Int).toNat * 5))) := ⟨_, rfl⟩
                 obtain ⟨c93, hc93⟩ : ∃ c_, c_ = c1 - (1 : Int).toNat := ⟨_, rfl⟩
                 have hy93 : y794.length = l1.length - (1 : Int).toNat := (by rw [Ny794.out, List.length_drop] <;> rfl)
                 rw [show (l1).drop (1 : Int).toNat = y794 from Ny794.out.symm] at hr93
                 replace hr93 : Kd.C k35 _ A93 y794.length y794 := (by rw [hA93]; exact hr93)
                 rw [← hy93, ← hA93, ← hc93] at hcut93
                 have HR797 := Aside0.mk hr93
                 have HC797 := Aside0.mk (show y794.length ≤ c93 from by rw [hy93, hc93]; exact Nat.sub_le_sub_right hroom93 _)
                 clear hr93 hC93 hroom93 hi093 hsz93 hc93
                 have KY93 := Aside0.mk hy93
                 have KA93 := Aside0.mk hA93
                 clear hy93 hA93
                 replace q93 := eq_true q93
                 refine start_ (n := 14) (S := fun w' => w'.cell? ⟨gb748, 0, none⟩ = some (.int .i64 a0_0) ∧ w'.cell? ⟨gb748, 1, none⟩ = some (.slice A0_1 l0_1.length c0_1)) (ds := []) #[false, false, false, false, false, false, false, false, false, false, false, false, false, false] (by kernel_rfl) rfl rfl ⟨(bqC BK748.out 0).trans rfl, (bqC BK748.out 1).trans rfl⟩ (fun hHeld => ?_); refine with_tabW spilelaw51_LiabilityGrows.tab20 spilelaw51_LiabilityGrows.bits20 (fun HT_ HW_ => ?_)
                 generalize wc.drew = w92 at HO_11 BK748 HB HR797 hHeld ⊢
                 refine pure_ (i := 2) (N := some 161) (v := ?_) (a' := ?_) #[false, false, true, false, false, false, false, false, false, false, false, false, false, false] rfl rfl (any_of HT_.out (by kernel_rfl)) (fun _ _ _ h => h) (Or.inl ⟨by rfl, ?_⟩) ?_ ?_
                 rotate_left
                 ·intro w'
                  go_simp
                  with_reducible rfl
                 rotate_left
                 ·simp only [Act.put, List.setIfInBounds_toArray, List.set_cons_zero, List.set_cons_succ, i64_w, i32_w]
                  rfl
                 refine pure_ (i := 3) (N := some 162) (v := ?_) (a' := ?_) #[false, false, true, true, false, false, false, false, false, false, false, false, false, false] rfl rfl (any_of HT_.out (by kernel_rfl)) (fun _ _ _ h => h) (Or.inl ⟨by rfl, ?_⟩) ?_ ?_
                 rotate_left
                 ·intro w'
                  go_simp
                  with_reducible rfl
                 rotate_left
                 ·simp only [Act.put, List.setIfInBounds_toArray, List.set_cons_zero, List.set_cons_succ, i64_w, i32_w]
                  rfl
                 refine pure_ (i := 5) (N := some 164) (v := ?_) (a' := ?_) #[false, false, true, true, false, true, false, false, false, false, false, false, false, false] rfl rfl (any_of HT_.out (by kernel_rfl)) (fun _ _ _ h => h) (Or.inl ⟨by rfl, ?_⟩) ?_ ?_
                 rotate_left
                 ·intro w'
                  go_simp
                  with_reducible rfl
                 rotate_left
                 ·simp only [Act.put, List.setIfInBounds_toArray, List.set_cons_zero, List.set_cons_succ, i64_w, i32_w]
                  rfl
                 refine take_ (i := 0) (N := some 159) (v := ?_) (a' := ?_) #[true, false, true, true, false, true, false, false, false, false, false, false, false, false] rfl rfl (take_ofW HT_.out HW_.out (by kernel_rfl)) (fun _ _ _ h => h) (Or.inl ⟨by rfl, ?_⟩) hHeld ?_ ?_
                 rotate_left
                 ·rintro w' ⟨s0, s1⟩
                  go_simp
                  with_reducible rfl
                 rotate_left
                 ·simp only [Act.put, List.setIfInBounds_toArray, List.set_cons_zero, List.set_cons_succ, i64_w, i32_w]
                  rfl
                 refine one_ (i := 1) (N := some 160) #[true, true, true, true, false, true, false, false, false, false, false, false, false, false] rfl rfl (one_of HT_.out (by kernel_rfl)) (by decide) (fun K hK => ?_)
                 refine goes_ Try.func12 (by kernel_rfl) rfl #[.agg #[.int .i64 a0_0, .slice A0_1 l0_1.length c0_1]] (by rfl) rfl rfl (by (try simp only [List.map_toArray, List.map_cons, List.map_nil]); first | done | rfl | (simp only [List.length_drop, List.length_take]; rfl)) ?_
                 with_reducible refine (spilelaw51_ct.calls a0_0 _ _ l0_1 t790 t791 _ ?side1 ?side2 A87.out).mono ?_
                 (case side1 => exact GS.rC (Kd.C_below HR0_1.out HB.out))
                 (case side2 => exact HC0_1.out)
                 rintro e w94 ⟨v792, rfl, ho0, hb⟩
                 refine ⟨_, rfl, ?_⟩
                 have n0_ := Aside0.mk (Kd.R_below (GS.rR HO_11.out) hb)
                 have n1_ := Aside0.mk (Kd.R_lower ho0 (lqZ (GS.lB HB.out)))
                 have n2_ := Aside0.mk (bqB (GS.bqX BK748.out) hb)
                 have n3_ := Aside0.mk (lqT (GS.lB HB.out) hb)
                 clear HO_11
                 clear BK748
                 clear HB
                 have HO_11 := n0_
                 have HO793 := n1_
                 have BK748 := n2_
                 have HB := n3_
                 clear n0_ n1_ n2_ n3_
                 (try clear hb)
                 (try clear hb2)
                 (try clear hk)
                 (try clear hi)
                 (try clear ho0)
                 refine hK.out _ _ ⟨(bqC BK748.out 0).trans rfl, (bqC BK748.out 1).trans rfl⟩ (fun hHeld => ?_)
                 clear hK K
                 refine norm_ (a' := ?_) ?_ ?_
                 rotate_left
                 ·show Act.put _ (some 160) _ = _
                  simp only [Act.put, List.setIfInBounds_toArray, List.set_cons_zero, List.set_cons_succ, i64_w, i32_w]
                  rfl
                 refine one_ (i := 4) (N := some 163) #[true, true, true, true, true, true, false, false, false, false, false, false, false, false] rfl rfl (one_of HT_.out (by kernel_rfl)) (by decide) (fun K hK => ?_)
                 refine goes_ Try.func13 (by kernel_rfl) rfl #[.slice A93 y794.length c93] (by rfl) rfl rfl (by (try simp only [List.map_toArray, List.map_cons, List.map_nil]); first | done | rfl | (simp only [List.length_drop, List.length_take]; rfl)) ?_
                 with_reducible refine (clone13.calls _ _ y794 t798 _ ?side1 ?side2 A89.out).mono ?_
                 (case side1 => exact GS.rC (Kd.C_below HR797.out HB.out))
                 (case side2 => exact HC797.out)
                 rintro e w95 ⟨v799, rfl, ho0, hb⟩
                 refine ⟨_, rfl, ?_⟩
                 have n0_ := Aside0.mk (Kd.R_below (GS.rR HO_11.out) hb)
                 have n1_ := Aside0.mk (Kd.R_below (GS.rR HO793.out) hb)
                 have n2_ := Aside0.mk (Kd.R_lower ho0 (lqZ (GS.lB HB.out)))
                 have n3_ := Aside0.mk (bqB (GS.bqX BK748.out) hb)
                 have n4_ := Aside0.mk (lqT (GS.lB HB.out) hb)
                 clear HO_11
                 clear HO793
                 clear BK748
                 clear HB
                 have HO_11 := n0_
                 have HO793 := n1_
                 have HO800 := n2_
                 have BK748 := n3_
                 have HB := n4_
                 clear n0_ n1_ n2_ n3_ n4_
                 (try clear hb)
                 (try clear hb2)
                 (try clear hk)
                 (try clear hi)
                 (try clear ho0)
                 obtain ⟨Ao96, co96, eo96⟩ := Kd.R_slice HO793.out
                 (first | subst eo96 | (injection eo96 with f1_ f2_ f3_; have f4_ := f1_.symm; have f5_ := f3_.symm; clear f1_ f2_ f3_; subst f4_; subst f5_))
                 obtain ⟨Ao97, co97, eo97⟩ := Kd.R_slice HO800.out
                 (first | subst eo97 | (injection eo97 with f1_ f2_ f3_; have f4_ := f1_.symm; have f5_ := f3_.symm; clear f1_ f2_ f3_; subst f4_; subst f5_))
                 refine hK.out _ _ ⟨(bqC BK748.out 0).trans rfl, (bqC BK748.out 1).trans rfl⟩ (fun hHeld => ?_)
                 clear hK K
                 refine norm_ (a' := ?_) ?_ ?_
                 rotate_left
                 ·show Act.put _ (some 163) _ = _
                  simp only [Act.put, List.setIfInBounds_toArray, List.set_cons_zero, List.set_cons_succ, i64_w, i32_w]
                  rfl
                 refine one_ (i := 6) (N := some 165) #[true, true, true, true, true, true, true, false, false, false, false, false, false, false] rfl rfl (one_of HT_.out (by kernel_rfl)) (by decide) (fun K hK => ?_)
                 refine goes_ Try.func11 (by kernel_rfl) rfl #[.agg #[.int .i64 t790, .slice Ao96 t791.length co96], .slice Ao97 t798.length co97, .int .i64 a2] (by rfl) rfl rfl (by (try simp only [List.map_toArray, List.map_cons, List.map_nil]); first | done | rfl | (simp only [List.length_drop, List.length_take]; rfl)) ?_
                 with_reducible refine (liability_Greatest.calls kj81 t790 _ _ t791 _ _ t798 a2 t801 t804 t805 _ ?side1 ?side2 ?side3 ?side4 A90.out).mono ?_
                 (case side1 => repeat (first | exact (Kd.R_reads' HO793.out).2.2 | (with_reducible refine Kd.C_alloc ?_ _) | (with_reducible refine Kd.C_drewN ?_ _) | (with_reducible refine Kd.C_drew ?_)))
                 (case side2 => exact (Kd.R_reads' HO793.out).2.1)
                 (case side3 => repeat (first | exact (Kd.R_reads' HO800.out).2.2 | (with_reducible refine Kd.C_alloc ?_ _) | (with_reducible refine Kd.C_drewN ?_ _) | (with_reducible refine Kd.C_drew ?_)))
                 (case side4 => exact (Kd.R_reads' HO800.out).2.1)
                 rintro e w98 ⟨v802, rfl, ho0, hb⟩
                 refine ⟨_, rfl, ?_⟩
                 have n0_ := Aside0.mk (Kd.R_elder' (GS.rR HO_11.out) (Kd.R_base ho0) hb)
                 have n1_ := Aside0.mk (Kd.R_below (GS.rR HO793.out) hb)
                 have n2_ := Aside0.mk (Kd.R_below (GS.rR HO800.out) hb)
                 have n3_ := Aside0.mk (Kd.R_lower (Kd.R_new' ho0 (Kd.R_lt (GS.rR HO_11.out))) (lqZ (GS.lB HB.out)))
                 have n4_ := Aside0.mk (bqB (GS.bqX BK748.out) hb)
                 have n5_ := Aside0.mk (lqT (GS.lB HB.out) hb)
                 clear HO_11
                 clear HO793
                 clear HO800
                 clear BK748
                 clear HB
                 have HO_11 := n0_
                 have HO793 := n1_
                 have HO800 := n2_
                 have HO803 := n3_
                 have BK748 := n4_
                 have HB := n5_
                 clear n0_ n1_ n2_ n3_ n4_ n5_
                 (try clear hb)
                 (try clear hb2)
                 (try clear hk)
                 (try clear hi)
                 (try clear ho0)
                 refine hK.out _ _ ⟨(bqC BK748.out 0).trans rfl, (bqC BK748.out 1).trans rfl⟩ (fun hHeld => ?_)
                 clear hK K
                 refine norm_ (a' := ?_) ?_ ?_
                 rotate_left
                 ·show Act.put _ (some 165) _ = _
                  simp only [Act.put, List.setIfInBounds_toArray, List.set_cons_zero, List.set_cons_succ, i64_w, i32_w]
                  rfl
                 refine pure_ (i := 7) (N := some 158) (v := ?_) (a' := ?_) #[true, true, true, true, true, true, true, true, false, false, false, false, false, false] rfl rfl (any_of HT_.out (by kernel_rfl)) (fun _ _ _ h => h) (Or.inl ⟨by rfl, ?_⟩) ?_ ?_
                 rotate_left
                 ·intro w'
                  go_simp
                  with_reducible rfl
                 rotate_left
                 ·simp only [Act.put, List.setIfInBounds_toArray, List.set_cons_zero, List.set_cons_succ, i64_w, i32_w]
                  rfl
                 refine pure_ (i := 8) (N := some 166) (v := ?_) (a' := ?_) #[true, true, true, true, true, true, true, true, true, false, false, false, false, false] rfl rfl (any_of HT_.out (by kernel_rfl)) (fun _ _ _ h => h) (Or.inl ⟨by rfl, ?_⟩) ?_ ?_
                 rotate_left
                 ·intro w'
                  go_simp
                  with_reducible rfl
                 rotate_left
                 ·simp only [Act.put, List.setIfInBounds_toArray, List.set_cons_zero, List.set_cons_succ, i64_w, i32_w]
                  rfl
                 refine pure_ (i := 9) (N := some 167) (v := ?_) (a' := ?_) #[true, true, true, true, true, true, true, true, true, true, false, false, false, false] rfl rfl (any_of HT_.out (by kernel_rfl)) (fun _ _ _ h => h) (Or.inl ⟨by rfl, ?_⟩) ?_ ?_
                 rotate_left
                 ·intro w'
                  go_simp
                  with_reducible rfl
                 rotate_left
                 ·simp only [Act.put, List.setIfInBounds_toArray, List.set_cons_zero, List.set_cons_succ, i64_w, i32_w]
                  rfl
                 refine pure_ (i := 10) (N := some 168) (v := ?_) (a' := ?_) #[true, true, true, true, true, true, true, true, true, true, true, false, false, false] rfl rfl (any_of HT_.out (by kernel_rfl)) (fun _ _ _ h => h) (Or.inl ⟨by rfl, ?_⟩) ?_ ?_
                 rotate_left
                 ·intro w'
                  go_simp
                  with_reducible rfl
                 rotate_left
                 ·simp only [Act.put, List.setIfInBounds_toArray, List.set_cons_zero, List.set_cons_succ, i64_w, i32_w]
                  rfl
                 refine pure_ (i := 11) (N := some 22) (v := ?_) (a' := ?_) #[true, true, true, true, true, true, true, true, true, true, true, true, false, false] rfl rfl (any_of HT_.out (by kernel_rfl)) (fun _ _ _ h => h) (Or.inl ⟨by rfl, ?_⟩) ?_ ?_
                 rotate_left
                 ·intro w'
                  go_simp
                  with_reducible rfl
                 rotate_left
                 ·simp only [Act.put, List.setIfInBounds_toArray, List.set_cons_zero, List.set_cons_succ, i64_w, i32_w]
                  rfl
                 refine pure_ (i := 12) (N := some 23) (v := ?_) (a' := ?_) #[true, true, true, true, true, true, true, true, true, true, true, true, true, false] rfl rfl (any_of HT_.out (by kernel_rfl)) (fun _ _ _ h => h) (Or.inl ⟨by rfl, ?_⟩) ?_ ?_
                 rotate_left
                 ·intro w'
                  go_simp
                  with_reducible rfl
                 rotate_left
                 ·simp only [Act.put, List.setIfInBounds_toArray, List.set_cons_zero, List.set_cons_succ, i64_w, i32_w]
                  rfl
                 refine pure_ (i := 13) (N := some 24) (v := ?_) (a' := ?_) #[true, true, true, true, true, true, true, true, true, true, true, true, true, true] rfl rfl (any_of HT_.out (by kernel_rfl)) (fun _ _ _ h => h) (Or.inl ⟨by rfl, ?_⟩) ?_ ?_
                 rotate_left
                 ·intro w'
                  go_simp
                  with_reducible rfl
                 rotate_left
                 ·simp only [Act.put, List.setIfInBounds_toArray, List.set_cons_zero, List.set_cons_succ, i64_w, i32_w]
                  rfl
                 refine done_ (done_of HT_.out (by kernel_rfl)) ?_
                 go_upto_region 21 with (fail)
                 go_cut [192] (fun v192 wc => ∃ (kq : Nat) (x192_90 : Bool), v192 = .bool x192_90 ∧ Aside0 (spilelaw51_LiabilityGrows.j6 kq l1 a2 a4 t759 t762 t804 t805 x192_90 a0_0 l0_1 = some r) ∧ Aside0 (kq ≤ kj81) ∧ Aside0 (Kd.R (Kd.int .i64) 3 wc w.heap.size (fun _ => True) v760 t759) ∧ Aside0 (wc.heap[gb748]? = some (.cells #[.int .i64 a0_0, (.slice A0_1 l0_1.length c0_1)] 24 (0, 0))) ∧ Aside0 (Below w.heap.size w wc))
                 case first => as_aux_lemma =>
                  have H := HC91.out
                  clear HC91
                  by_cases c99 : t805 = 0
                  ·rw [if_pos c99] at H
                   have c99b0 : (t805 == 0) = true := beq_iff_eq.mpr c99
                   try simp only [beq_self_eq_true, Bool.not_true, Bool.false_or, Bool.true_and] at c99b0
                   have c99b1 : (t805 != 0) = false := bne_eq_false_iff_eq.mpr c99
                   clear c99
                   (first | rw [c99b0] | (simp only [i64_w, i32_w]; rw [c99b0]) | skip)
                   by_cases c100 : 0 < (t759.length : Int)
                   ·rw [if_pos c100] at H
                    have c100b0 : decide (0 < (t759.length : Int)) = true := decide_eq_true c100
                    have c100b1 : decide (0 < t759.length) = true := decide_eq_true (by omega)
                    clear c100
                    by_cases c101 : t804 = (wrap64 (t762 - (rd t759 0)))
                    ·rw [if_pos c101] at H
                     have c101b0 : (t804 == (wrap64 (t762 - (rd t759 0)))) = true := beq_iff_eq.mpr c101
                     try simp only [beq_self_eq_true, Bool.not_true, Bool.false_or, Bool.true_and] at c101b0
                     have c101b1 : (t804 != (wrap64 (t762 - (rd t759 0)))) = false := bne_eq_false_iff_eq.mpr c101
                     clear c101
                     by_cases c102 : a4 < 0
                     ·rw [if_pos c102] at H
                      have c102b0 : decide (a4 < 0) = true := decide_eq_true c102
                      clear c102
                      have H' := Aside0.mk H
                      clear H
                      obtain ⟨Ao103, co103, eo103⟩ := Kd.R_slice HO_11.out
                      subst eo103
                      have p806 : 0 ≤ (0 : Int) := (by omega)
                      have q806 : 0 < (t759.length : Int) := of_decide_eq_true (by first | (with_reducible assumption) | assumption)
                      obtain ⟨ad806, e806, hx806_0⟩ := Kd.at_int (Kd.R_reads' HO_11.out).2.2 0 p806 q806
                      cases e806
                      have qi806 : (0 < t759.length) = True := eq_true (by omega)
                      (try rw [show ((0 : Int)).toNat = 0 from rfl] at hx806_0)
                      (try rw [Addr.add_zero'] at hx806_0)
                      replace p806 := eq_true p806
                      replace q806 := eq_true q806
                      go_wp2
                      go_meet
                      case rel => exact ⟨_, (true), (by first | rfl | (simp; done) | (simp [*]; done)), H', ⟨by have := HJ5.out; have := HJ27.out; have := HJ46.out; have := HK4.out; have := HJ81.out; first | exact Nat.le_refl _ | omega⟩, ⟨by (with_reducible repeat (first | apply Kd.R_alloc | apply Kd.R_drewN | apply Kd.R_drew)); exact Kd.R_mono HO_11.out (fun _ hk => trivial)⟩, ⟨GS.bqX BK748.out⟩, ⟨GS.lB HB.out⟩⟩
                     ·rw [if_neg c102] at H
                      have c102b0 : decide (a4 < 0) = false := decide_eq_false c102
                      clear c102
                      by_cases c104 : 0 < (l1.length : Int)
                      ·rw [if_pos c104] at H
                       have c104b0 : decide (0 < (l1.length : Int)) = true := decide_eq_true c104
                       have c104b1 : decide (0 < l1.length) = true := decide_eq_true (by omega)
                       clear c104
                       have H' := Aside0.mk H
                       clear H
                       obtain ⟨Ao105, co105, eo105⟩ := Kd.R_slice HO_11.out
                       subst eo105
                       have p806 : 0 ≤ (0 : Int) := (by omega)
                       have q806 : 0 < (t759.length : Int) := of_decide_eq_true (by first | (with_reducible assumption) | assumption)
                       obtain ⟨ad806, e806, hx806_0⟩ := Kd.at_int (Kd.R_reads' HO_11.out).2.2 0 p806 q806
                       cases e806
                       have qi806 : (0 < t759.length) = True := eq_true (by omega)
                       (try rw [show ((0 : Int)).toNat = 0 from rfl] at hx806_0)
                       (try rw [Addr.add_zero'] at hx806_0)
                       replace p806 := eq_true p806
                       replace q806 := eq_true q806
                       have p807 : 0 ≤ (0 : Int) := (by omega)
                       have q807 : 0 < (l1.length : Int) := of_decide_eq_true (by first | (with_reducible assumption) | assumption)
                       obtain ⟨ad807, e807, hx807_0, hx807_1, hx807_2, hx807_3, hx807_4⟩ := at_T35 HR1.out 0 p807 q807
                       cases e807
                       have qi807 : (0 < l1.length) = True := eq_true (by omega)
                       (try rw [show ((0 : Int)).toNat = 0 from rfl] at hx807_0)
                       (try rw [show 0 * 5 = 0 from rfl] at hx807_0)
                       (try rw [Addr.add_zero'] at hx807_0)
                       (try rw [show ((0 : Int)).toNat = 0 from rfl] at hx807_1)
                       (try rw [show 0 * 5 = 0 from rfl] at hx807_1)
                       (try rw [Addr.add_zero'] at hx807_1)
                       (try rw [show ((0 : Int)).toNat = 0 from rfl] at hx807_2)
                       (try rw [show 0 * 5 = 0 from rfl] at hx807_2)
                       (try rw [Addr.add_zero'] at hx807_2)
                       (try rw [show ((0 : Int)).toNat = 0 from rfl] at hx807_3)
                       (try rw [show 0 * 5 = 0 from rfl] at hx807_3)
                       (try rw [Addr.add_zero'] at hx807_3)
                       (try rw [show ((0 : Int)).toNat = 0 from rfl] at hx807_4)
                       (try rw [show 0 * 5 = 0 from rfl] at hx807_4)
                       (try rw [Addr.add_zero'] at hx807_4)
                       replace hx807_0 := (HB.out.cell (World.block_lt_of_cell? w _ hx807_0)).trans hx807_0
                       replace hx807_1 := (HB.out.cell (World.block_lt_of_cell? w _ hx807_1)).trans hx807_1
                       replace hx807_2 := (HB.out.cell (World.block_lt_of_cell? w _ hx807_2)).trans hx807_2
                       replace hx807_3 := (HB.out.cell (World.block_lt_of_cell? w _ hx807_3)).trans hx807_3
                       replace hx807_4 := (HB.out.cell (World.block_lt_of_cell? w _ hx807_4)).trans hx807_4
                       replace p807 := eq_true p807
                       replace q807 := eq_true q807
                       go_wp2
                       go_meet
                       case rel => exact ⟨_, (decide (((rd_T35 l1 0).f4) > (wrap64 (10737418240000 - a4)))), (by first | rfl | (simp; done) | (simp [*]; done)), H', ⟨by have := HJ5.out; have := HJ27.out; have := HJ46.out; have := HK4.out; have := HJ81.out; first | exact Nat.le_refl _ | omega⟩, ⟨by (with_reducible repeat (first | apply Kd.R_alloc | apply Kd.R_drewN | apply Kd.R_drew)); exact Kd.R_mono HO_11.out (fun _ hk => trivial)⟩, ⟨GS.bqX BK748.out⟩, ⟨GS.lB HB.out⟩⟩
                      ·rw [if_neg c104] at H
                       exact absurd H (by simp)
                    ·rw [if_neg c101] at H
                     have c101b0 : (t804 == (wrap64 (t762 - (rd t759 0)))) = false := beq_eq_false_iff_ne.mpr c101
                     try simp only [beq_self_eq_true, Bool.not_true, Bool.false_or, Bool.true_and] at c101b0
                     have c101b1 : (t804 != (wrap64 (t762 - (rd t759 0)))) = true := bne_iff_ne.mpr c101
                     have H' := Aside0.mk H
                     clear H
                     obtain ⟨Ao106, co106, eo106⟩ := Kd.R_slice HO_11.out
                     subst eo106
                     have p806 : 0 ≤ (0 : Int) := (by omega)
                     have q806 : 0 < (t759.length : Int) := of_decide_eq_true (by first | (with_reducible assumption) | assumption)
                     obtain ⟨ad806, e806, hx806_0⟩ := Kd.at_int (Kd.R_reads' HO_11.out).2.2 0 p806 q806
                     cases e806
                     have qi806 : (0 < t759.length) = True := eq_true (by omega)
                     (try rw [show ((0 : Int)).toNat = 0 from rfl] at hx806_0)
                     (try rw [Addr.add_zero'] at hx806_0)
                     replace p806 := eq_true p806
                     replace q806 := eq_true q806
                     go_wp2
                     go_meet
                     case rel => exact ⟨_, (true), (by first | rfl | (simp; done) | (simp [*]; done)), H', ⟨by have := HJ5.out; have := HJ27.out; have := HJ46.out; have := HK4.out; have := HJ81.out; first | exact Nat.le_refl _ | omega⟩, ⟨by (with_reducible repeat (first | apply Kd.R_alloc | apply Kd.R_drewN | apply Kd.R_drew)); exact Kd.R_mono HO_11.out (fun _ hk => trivial)⟩, ⟨GS.bqX BK748.out⟩, ⟨GS.lB HB.out⟩⟩
                   ·rw [if_neg c100] at H
                    exact absurd H (by simp)
                  ·rw [if_neg c99] at H
                   have c99b0 : (t805 == 0) = false := beq_eq_false_iff_ne.mpr c99
                   try simp only [beq_self_eq_true, Bool.not_true, Bool.false_or, Bool.true_and] at c99b0
                   have c99b1 : (t805 != 0) = true := bne_iff_ne.mpr c99
                   (first | rw [c99b0] | (simp only [i64_w, i32_w]; rw [c99b0]) | skip)
                   have H' := Aside0.mk H
                   clear H
                   go_wp2
                   go_meet
                   case rel => exact ⟨_, (true), (by first | rfl | (simp; done) | (simp [*]; done)), H', ⟨by have := HJ5.out; have := HJ27.out; have := HJ46.out; have := HK4.out; have := HJ81.out; first | exact Nat.le_refl _ | omega⟩, ⟨by (with_reducible repeat (first | apply Kd.R_alloc | apply Kd.R_drewN | apply Kd.R_drew)); exact Kd.R_mono HO_11.out (fun _ hk => trivial)⟩, ⟨GS.bqX BK748.out⟩, ⟨GS.lB HB.out⟩⟩
                 case rest => as_aux_lemma =>
                  clear HC91
                  try clear c1
                  try clear p2
                  try clear c4
                  try clear c5
                  try clear c6
                  try clear p6
                  try clear c7
                  try clear p7
                  try clear q7
                  try clear hx7
                  try clear c8
                  try clear p8
                  try clear q8
                  try clear hx8
                  try clear qi8
                  try clear c9
                  try clear q9
                  try clear c10
                  try clear c11
                  try clear c12
                  try clear c13
                  try clear c15
                  try clear c19
                  try clear c41
                  try clear c41b0
                  try clear c41b1
                  try clear c42
                  try clear c43
                  try clear c43b0
                  try clear c43b1
                  try clear c44
                  try clear c44b0
                  try clear c44b1
                  try clear c45
                  try clear c45b0
                  try clear c45b1
                  try clear c46
                  try clear c46b0
                  try clear c46b1
                  try clear c48
                  try clear c48b0
                  try clear c48b1
                  try clear c48b2
                  try clear c49
                  try clear c49b0
                  try clear c49b1
                  try clear c49b2
                  try clear c52
                  try clear c63
                  try clear c63b0
                  try clear c64
                  try clear c64b0
                  try clear p64
                  try clear c65
                  try clear c65b0
                  try clear c68
                  try clear c70
                  try clear c70b0
                  try clear c70b1
                  try clear c71
                  try clear c71b0
                  try clear c73
                  try clear c73b0
                  try clear c74
                  try clear c74b0
                  try clear p78
                  try clear q78
                  try clear hx78
                  try clear c79
                  try clear c80
                  try clear p80
                  try clear q80
                  try clear hx80
                  try clear qi80
                  try clear c83
                  try clear c83b0
                  try clear c83b1
                  try clear c84
                  try clear c84b0
                  try clear c84b1
                  try clear c85
                  try clear c86
                  try clear c86b0
                  try clear c86b1
                  try clear c88
                  try clear c88b0
                  try clear c88b1
                  try clear c93
                  try clear q93
                  try clear c99
                  try clear c99b0
                  try clear c99b1
                  try clear c100
                  try clear c100b0
                  try clear c100b1
                  try clear c101
                  try clear c101b0
                  try clear c101b1
                  try clear c102
                  try clear c102b0
                  try clear c104
                  try clear c104b0
                  try clear c104b1
                  try clear hcz13_0
                  try clear hcz13_1
                  try clear hcz16_0
                  try clear hcz16_1
                  try clear hcz29_0
                  try clear hcz29_1
                  try clear hcz35_0
                  try clear hcz35_1
                  try clear hcz56_0
                  try clear hcz56_1
                  try clear hcz69_0
                  try clear hcz69_1
                  try clear hcz69_2
                  try clear hcz81_0
                  try clear hcz81_1
                  try clear hcz81_2
                  try clear hfz13_0
                  try clear hfz13_1
                  try clear hfz16_0
                  try clear hfz16_1
                  try clear hfz29_0
                  try clear hfz29_1
                  try clear hfz35_0
                  try clear hfz35_1
                  try clear hfz56_0
                  try clear hfz56_1
                  try clear hfz69_0
                  try clear hfz69_1
                  try clear hfz69_2
                  try clear hfz81_0
                  try clear hfz81_1
                  try clear hfz81_2
                  try clear hx787_0
                  try clear hx787_1
                  try clear hx787_2
                  try clear hx789_0
                  try clear hx789_1
                  try clear hx789_2
                  try clear hx806_0
                  try clear hx807_0
                  try clear hx807_1
                  try clear hx807_2
                  try clear hx807_3
                  try clear hx807_4
                  try clear p2
                  try clear p6
                  try clear p64
                  try clear p7
                  try clear p78
                  try clear p787
                  try clear p789
                  try clear p806
                  try clear p807
                  try clear q7
                  try clear q78
                  try clear q787
                  try clear q789
                  try clear q806
                  try clear q807
                  try clear q93
                  obtain ⟨kq, x192_90, rfl, HA, HJ90, HO_11, BK748, HB⟩ := hcut
                  cases kq with
                  | zero => exact absurd HA.out (by simp [spilelaw51_LiabilityGrows.j6])
                  | succ kj90 =>
                   have H := HA.out
                   clear HA
                   simp only [spilelaw51_LiabilityGrows.j6] at H
                   by_cases c107 : x192_90 = true
                   ·subst c107
                    have H1 : (if t805 = 0 then (if 0 < (t759.length : Int) then (some (t804 == (wrap64 (t762 - (rd t759 0))))) else (none)) else (none)) = some r := by rw [if_pos rfl] at H; exact H
                    clear H
                    have H := H1
                    clear H1
                    by_cases c108 : t805 = 0
                    ·rw [if_pos c108] at H
                     have c108b0 : (t805 == 0) = true := beq_iff_eq.mpr c108
                     try simp only [beq_self_eq_true, Bool.not_true, Bool.false_or, Bool.true_and] at c108b0
                     have c108b1 : (t805 != 0) = false := bne_eq_false_iff_eq.mpr c108
                     clear c108
                     by_cases c109 : 0 < (t759.length : Int)
                     ·rw [if_pos c109] at H
                      have c109b0 : decide (0 < (t759.length : Int)) = true := decide_eq_true c109
                      have c109b1 : decide (0 < t759.length) = true := decide_eq_true (by omega)
                      clear c109
                      obtain rfl := Option.some.inj H
                      obtain ⟨Ao110, co110, eo110⟩ := Kd.R_slice HO_11.out
                      subst eo110
                      have p808 : 0 ≤ (0 : Int) := (by omega)
                      have q808 : 0 < (t759.length : Int) := of_decide_eq_true (by first | (with_reducible assumption) | assumption)
                      obtain ⟨ad808, e808, hx808_0⟩ := Kd.at_int (Kd.R_reads' HO_11.out).2.2 0 p808 q808
                      cases e808
                      have qi808 : (0 < t759.length) = True := eq_true (by omega)
                      (try rw [show ((0 : Int)).toNat = 0 from rfl] at hx808_0)
                      (try rw [Addr.add_zero'] at hx808_0)
                      replace p808 := eq_true p808
                      replace q808 := eq_true q808
                      go_wp2
                      go_ret
                      exact ⟨by first | rfl | (simp [errW_none, errW_some] <;> rfl) | (simp [*, errW_none, errW_some] <;> rfl), GS.lB HB.out⟩
                     ·rw [if_neg c109] at H
                      exact absurd H (by simp)
                    ·rw [if_neg c108] at H
                     exact absurd H (by simp)
                   ·replace c107 := Bool.eq_false_iff.mpr c107
                    subst c107
                    have H1 : ((clone13.f l1).bind fun t809 => (if 0 < (t809.length : Int) then ((spilelaw51_ct.f a0_0 l0_1).bind fun bt814 => ((liability_Greatest.f kj90 bt814.1 bt814.2 (t809.set (0 : Int).toNat (⟨(rd_T35 t809 0).f0, (rd_T35 t809 0).f1, (rd_T35 t809 0).f2, (rd_T35 t809 0).f3, wrap64 (((rd_T35 t809 0).f4) + a4)⟩ : S35)) a2).bind fun bt818 => (if bt818.2.2 = 0 then (some (decide (bt818.2.1 ≥ t762))) else (none)))) else (none))) = some r := by rw [if_neg (show ¬ (false = true) by decide)] at H; exact H
                    clear H
                    have H := H1
                    clear H1
                    replace H := Option.bind_eq_some_iff.mp H
                    obtain ⟨t809, A1110, H⟩ := H
                    replace H : (if 0 < (t809.length : Int) then ((spilelaw51_ct.f a0_0 l0_1).bind fun bt814 => ((liability_Greatest.f kj90 bt814.1 bt814.2 (t809.set (0 : Int).toNat (⟨(rd_T35 t809 0).f0, (rd_T35 t809 0).f1, (rd_T35 t809 0).f2, (rd_T35 t809 0).f3, wrap64 (((rd_T35 t809 0).f4) + a4)⟩ : S35)) a2).bind fun bt818 => (if bt818.2.2 = 0 then (some (decide (bt818.2.1 ≥ t762))) else (none)))) else (none)) = some r := H
                    have A111 := Aside0.mk A1110
                    clear A1110
                    by_cases c112 : 0 < (t809.length : Int)
                    ·rw [if_pos c112] at H
                     have c112b0 : decide (0 < (t809.length : Int)) = true := decide_eq_true c112
                     have c112b1 : decide (0 < t809.length) = true := decide_eq_true (by omega)
                     clear c112
                     obtain ⟨y813, hy813⟩ : ∃ y_ : List (S35), y_ = (t809.set (0 : Int).toNat (⟨(rd_T35 t809 0).f0, (rd_T35 t809 0).f1, (rd_T35 t809 0).f2, (rd_T35 t809 0).f3, wrap64 (((rd_T35 t809 0).f4) + a4)⟩ : S35)) := ⟨_, rfl⟩
                     replace H : ((spilelaw51_ct.f a0_0 l0_1).bind fun bt814 => ((liability_Greatest.f kj90 bt814.1 bt814.2 y813 a2).bind fun bt818 => (if bt818.2.2 = 0 then (some (decide (bt818.2.1 ≥ t762))) else (none)))) = some r := by first | (rw [hy813]; with_reducible exact H) | (have H2_ := (Option.bind_some _ _).symm.trans H; rw [hy813]; with_reducible exact H2_) | (have H2_ := (Option.bind_some _ _).symm.trans H; with_reducible exact H2_) | with_reducible exact H | (rw [hy813]; exact H) | exact H
                     have Ny813 := Aside0.mk hy813
                     clear hy813
                     replace H := Option.bind_eq_some_iff.mp H
                     obtain ⟨⟨t814, t815⟩, A1140, H⟩ := H
                     replace H : ((liability_Greatest.f kj90 t814 t815 y813 a2).bind fun bt818 => (if bt818.2.2 = 0 then (some (decide (bt818.2.1 ≥ t762))) else (none))) = some r := H
                     have A114 := Aside0.mk A1140
                     clear A1140
                     replace H := Option.bind_eq_some_iff.mp H
                     obtain ⟨⟨t818, t821, t822⟩, A1150, H⟩ := H
                     replace H : (if t822 = 0 then (some (decide (t821 ≥ t762))) else (none)) = some r := H
                     have A115 := Aside0.mk A1150
                     clear A1150
                     by_cases c116 : t822 = 0
                     ·rw [if_pos c116] at H
                      have c116b0 : (t822 == 0) = true := beq_iff_eq.mpr c116
                      try simp only [beq_self_eq_true, Bool.not_true, Bool.false_or, Bool.true_and] at c116b0
                      have c116b1 : (t822 != 0) = false := bne_eq_false_iff_eq.mpr c116
                      clear c116
                      obtain rfl := Option.some.inj H
                      go_wp2_with (first | ((with_reducible refine gqC (f := 13) rfl ?_); refine GS.gL (some 205) Try.func13 #[.slice A1 l1.length c1] ?_; (with_reducible refine (clone13.calls _ _ l1 t809 _ ?side1 ?side2 A111.out).mono ?_); (case side1 => exact GS.rC (Kd.C_below HR1.out HB.out)); (case side2 => exact HC1.out); rintro e w117 ⟨v810, rfl, ho0, hb⟩; refine ⟨_, rfl, ?_⟩; have n0_ := Aside0.mk (Kd.R_below (GS.rR HO_11.out) hb); have n1_ := Aside0.mk (Kd.R_lower ho0 (lqZ (GS.lB HB.out))); have n2_ := Aside0.mk (bqB (GS.bqX BK748.out) hb); have n3_ := Aside0.mk (lqT (GS.lB HB.out) hb); clear HO_11; clear BK748; clear HB; have HO_11 := n0_; have HO811 := n1_; have BK748 := n2_; have HB := n3_; clear n0_ n1_ n2_ n3_; (try clear hb); (try clear hb2); (try clear hk); (try clear hi); (try clear ho0); obtain ⟨Ao118, co118, eo118⟩ := Kd.R_slice HO811.out; subst eo118; have p812 : 0 ≤ (0 : Int) := (by omega); have q812 : 0 < (t809.length : Int) := of_decide_eq_true (by first | (with_reducible assumption) | assumption); obtain ⟨ad812, e812, hx812_0, hx812_1, hx812_2, hx812_3, hx812_4⟩ := at_T35 (Kd.R_reads' HO811.out).2.2 0 p812 q812; cases e812; have qi812 : (0 < t809.length) = True := eq_true (by omega); (try rw [show ((0 : Int)).toNat = 0 from rfl] at hx812_0); (try rw [show 0 * 5 = 0 from rfl] at hx812_0); (try rw [Addr.add_zero'] at hx812_0); (try rw [show ((0 : Int)).toNat = 0 from rfl] at hx812_1); (try rw [show 0 * 5 = 0 from rfl] at hx812_1); (try rw [Addr.add_zero'] at hx812_1); (try rw [show ((0 : Int)).toNat = 0 from rfl] at hx812_2); (try rw [show 0 * 5 = 0 from rfl] at hx812_2); (try rw [Addr.add_zero'] at hx812_2); (try rw [show ((0 : Int)).toNat = 0 from rfl] at hx812_3); (try rw [show 0 * 5 = 0 from rfl] at hx812_3); (try rw [Addr.add_zero'] at hx812_3); (try rw [show ((0 : Int)).toNat = 0 from rfl] at hx812_4); (try rw [show 0 * 5 = 0 from rfl] at hx812_4); (try rw [Addr.add_zero'] at hx812_4); replace p812 := eq_true p812; replace q812 := eq_true q812; have p113 : 0 ≤ (0 : Int) := (by omega); have q113 : (0 : Int) < ((t809.length : Int) : Int) := of_decide_eq_true (by first | (with_reducible assumption) | assumption); have qi113 : (0 < t809.length) = True := eq_true (by omega); obtain ⟨go113, co113, eo113, gb113, gl113, cl113, HG113⟩ := Kd.R_form HO811.out (by omega); (first | cases eo113 | (injection eo113 with ea_ en_ ec_; (first | subst ea_ | (injection ea_ with ea_; subst ea_)); subst ec_; clear en_)); have GB113 := Aside0.mk gb113; have GG113 := Aside0.mk HG113; clear gb113 gl113 HG113; (first | simp only [add_plain] at hx812_0 | skip); (first | simp only [add_plain] at hx812_1 | skip); (first | simp only [add_plain] at hx812_2 | skip); (first | simp only [add_plain] at hx812_3 | skip); (first | simp only [add_plain] at hx812_4 | skip); obtain ⟨ce113, hcl113, hM113, hcc113, hfr113⟩ := Kd.R_elem HO811.out z35 (0 : Int) p113 q113; obtain rfl := k35_openM hM113; have hx113_0 : w117.cell? ⟨go113, (0 : Int).toNat * 5, none⟩ = some (.int .i64 ((rd_T35 t809 0).f0)) := hcc113 0 _ rfl; have hx113_1 : w117.cell? ⟨go113, (0 : Int).toNat * 5 + 1, none⟩ = some (.int .i64 ((rd_T35 t809 0).f1)) := hcc113 1 _ rfl; have hx113_2 : w117.cell? ⟨go113, (0 : Int).toNat * 5 + 2, none⟩ = some (.int .i64 ((rd_T35 t809 0).f2)) := hcc113 2 _ rfl; have hx113_3 : w117.cell? ⟨go113, (0 : Int).toNat * 5 + 3, none⟩ = some (.int .i64 ((rd_T35 t809 0).f3)) := hcc113 3 _ rfl; have hx113_4 : w117.cell? ⟨go113, (0 : Int).toNat * 5 + 4, none⟩ = some (.int .i64 ((rd_T35 t809 0).f4)) := hcc113 4 _ rfl; have hf113_0 : w117.frozen? ⟨go113, (0 : Int).toNat * 5, none⟩ = false := hfr113 0; have hf113_1 : w117.frozen? ⟨go113, (0 : Int).toNat * 5 + 1, none⟩ = false := hfr113 1; have hf113_2 : w117.frozen? ⟨go113, (0 : Int).toNat * 5 + 2, none⟩ = false := hfr113 2; have hf113_3 : w117.frozen? ⟨go113, (0 : Int).toNat * 5 + 3, none⟩ = false := hfr113 3; have hf113_4 : w117.frozen? ⟨go113, (0 : Int).toNat * 5 + 4, none⟩ = false := hfr113 4; clear hcl113 hcc113 hfr113 hM113; (try rw [show ((0 : Int)).toNat = 0 from rfl] at hx113_0); (try simp only [Nat.reduceMul, Nat.zero_mul, Nat.zero_add, Nat.reduceAdd] at hx113_0); (try rw [show ((0 : Int)).toNat = 0 from rfl] at hf113_0); (try simp only [Nat.reduceMul, Nat.zero_mul, Nat.zero_add, Nat.reduceAdd] at hf113_0); (try rw [show ((0 : Int)).toNat = 0 from rfl] at hx113_1); (try simp only [Nat.reduceMul, Nat.zero_mul, Nat.zero_add, Nat.reduceAdd] at hx113_1); (try rw [show ((0 : Int)).toNat = 0 from rfl] at hf113_1); (try simp only [Nat.reduceMul, Nat.zero_mul, Nat.zero_add, Nat.reduceAdd] at hf113_1); (try rw [show ((0 : Int)).toNat = 0 from rfl] at hx113_2); (try simp only [Nat.reduceMul, Nat.zero_mul, Nat.zero_add, Nat.reduceAdd] at hx113_2); (try rw [show ((0 : Int)).toNat = 0 from rfl] at hf113_2); (try simp only [Nat.reduceMul, Nat.zero_mul, Nat.zero_add, Nat.reduceAdd] at hf113_2); (try rw [show ((0 : Int)).toNat = 0 from rfl] at hx113_3); (try simp only [Nat.reduceMul, Nat.zero_mul, Nat.zero_add, Nat.reduceAdd] at hx113_3); (try rw [show ((0 : Int)).toNat = 0 from rfl] at hf113_3); (try simp only [Nat.reduceMul, Nat.zero_mul, Nat.zero_add, Nat.reduceAdd] at hf113_3); (try rw [show ((0 : Int)).toNat = 0 from rfl] at hx113_4); (try simp only [Nat.reduceMul, Nat.zero_mul, Nat.zero_add, Nat.reduceAdd] at hx113_4); (try rw [show ((0 : Int)).toNat = 0 from rfl] at hf113_4); (try simp only [Nat.reduceMul, Nat.zero_mul, Nat.zero_add, Nat.reduceAdd] at hf113_4); replace p113 := eq_true p113; replace q113 := eq_true q113; have HX119 := Aside0.mk (show Kd.R k35 35 w117 w.heap.size (fun _ => True) (.slice (some ⟨go113, 0, none⟩) t809.length co118) t809 from (GS.rR HO811.out)); obtain ⟨ce119, hcl119, hM119, hcc119, hfr119⟩ := Kd.R_elem HX119.out z35 (0 : Int) (by omega) (by have h_ : (0 : Int) < ((t809.length : Int) : Int) := of_decide_eq_true (by first | (with_reducible assumption) | assumption); first | exact h_ | (have e_ := (Kd.R_reads' HO811.out).1; omega) | simpa using h_); obtain rfl := k35_openM hM119; have HP119 := Kd.R_seg HX119.out (0 : Int) (by omega) (by have h_ : (0 : Int) < ((t809.length : Int) : Int) := of_decide_eq_true (by first | (with_reducible assumption) | assumption); first | exact h_ | (have e_ := (Kd.R_reads' HO811.out).1; omega) | simpa using h_) (seg := [.int .i64 (wrap64 (((rd_T35 t809 0).f4) + a4))]) (j := 4) hcl119 hcc119 (show 5 ≤ 5 from by decide) (x' := (⟨(rd_T35 t809 0).f0, (rd_T35 t809 0).f1, (rd_T35 t809 0).f2, (rd_T35 t809 0).f3, wrap64 (((rd_T35 t809 0).f4) + a4)⟩ : S35)) (k35_mkM _ _ _ (⟨(rd_T35 t809 0).f0, (rd_T35 t809 0).f1, (rd_T35 t809 0).f2, (rd_T35 t809 0).f3, wrap64 (((rd_T35 t809 0).f4) + a4)⟩ : S35) ) (fun _ hk => hk); have hx119_4 := hcc119 4 _ rfl; (try simp only [show (k35).sz = 5 from rfl, Nat.mul_one, Nat.add_zero] at hx119_4); (try rw [show ((0 : Int)).toNat = 0 from rfl] at hx119_4); (try simp only [Nat.reduceMul, Nat.zero_mul, Nat.zero_add, Nat.reduceAdd] at hx119_4); have hf119_4 := hfr119 4; (try simp only [show (k35).sz = 5 from rfl, Nat.mul_one, Nat.add_zero] at hf119_4); (try rw [show ((0 : Int)).toNat = 0 from rfl] at hf119_4); (try simp only [Nat.reduceMul, Nat.zero_mul, Nat.zero_add, Nat.reduceAdd] at hf119_4); clear hcl119 hcc119 hfr119 hM119) | ((with_reducible refine gate_store (t := 3) (p := 213) rfl ?_); refine store_event (t := 3) (p := 213) (v := ?vo_w120) (w1 := (w117.setCell ⟨go113, 4, none⟩ (.int .i64 (wrap64 (((rd_T35 t809 0).f4) + a4))))) ?hg ?ho ?hn ?hr ?_; (case ho => rfl); (case hg => rfl); (case hn => rfl); (case hr => first | (go_simp; done) | (go_simp; rfl)); intro w120 hw; have hg : w117.grownBy w120 (some go113) := (by rw [hw]; exact HP119.2); have hp_ : Kd.R k35 35 w120 w.heap.size (fun _ => True) (.slice (some ⟨go113, 0, none⟩) t809.length co118) y813 := (by rw [hw, Ny813.out]; exact HP119.1); clear HP119; have n0_ := Aside0.mk (Kd.R_over' (v := (.slice (some ⟨go113, 0, none⟩) t809.length co118)) (GS.rR HO_11.out) (Kd.R_typed HO811.out) (by decide) hg); have n1_ := Aside0.mk (blk_grown (GS.bqX BK748.out) hg (Kd.R_ne HO811.out BK748.out (by decide))); have n2_ := Aside0.mk (hp_); have n3_ := Aside0.mk ((by rw [hw]; exact lqS (HB.out) GB113.out : Below w.heap.size w w120)); clear HO_11; clear BK748; clear HO811; clear HB; have HO_11 := n0_; have BK748 := n1_; have HO811 := n2_; have HB := n3_; clear n0_ n1_ n2_ n3_; clear hg hw hp_; obtain ⟨hcz121_0, hcz121_1, hfz121_0, hfz121_1⟩ := GS.c2 BK748.out) | ((with_reducible refine gqC (f := 12) rfl ?_); refine GS.gL (some 216) Try.func12 #[.agg #[.int .i64 a0_0, .slice A0_1 l0_1.length c0_1]] ?_; (with_reducible refine (spilelaw51_ct.calls a0_0 _ _ l0_1 t814 t815 _ ?side1 ?side2 A114.out).mono ?_); (case side1 => exact GS.rC (Kd.C_below HR0_1.out HB.out)); (case side2 => exact HC0_1.out); rintro e w122 ⟨v816, rfl, ho0, hb⟩; refine ⟨_, rfl, ?_⟩; have n0_ := Aside0.mk (Kd.R_below (GS.rR HO_11.out) hb); have n1_ := Aside0.mk (Kd.R_below (GS.rR HO811.out) hb); have n2_ := Aside0.mk (Kd.R_lower ho0 (lqZ (GS.lB HB.out))); have n3_ := Aside0.mk (bqB (GS.bqX BK748.out) hb); have n4_ := Aside0.mk (lqT (GS.lB HB.out) hb); clear HO_11; clear HO811; clear BK748; clear HB; have HO_11 := n0_; have HO811 := n1_; have HO817 := n2_; have BK748 := n3_; have HB := n4_; clear n0_ n1_ n2_ n3_ n4_; (try clear hb); (try clear hb2); (try clear hk); (try clear hi); (try clear ho0); obtain ⟨Ao123, co123, eo123⟩ := Kd.R_slice HO817.out; subst eo123) | ((with_reducible refine gqC (f := 11) rfl ?_); refine goesL_ (some 219) rfl rfl Try.func11 (by kernel_rfl) rfl #[.agg #[.int .i64 t814, .slice Ao123 t815.length co123], .slice (some ⟨go113, 0, none⟩) y813.length co118, .int .i64 a2] rfl (by (try simp only [List.map_toArray, List.map_cons, List.map_nil]); first | done | (rw [show y813.length = t809.length from (Kd.R_reads' HO811.out).1.symm] <;> rfl) | rfl | (simp only [List.length_drop, List.length_take]; rfl)) ?_; (with_reducible refine (liability_Greatest.calls kj90 t814 _ _ t815 _ _ y813 a2 t818 t821 t822 _ ?side1 ?side2 ?side3 ?side4 A115.out).mono ?_); (case side1 => repeat (first | exact (Kd.R_reads' HO817.out).2.2 | (with_reducible refine Kd.C_alloc ?_ _) | (with_reducible refine Kd.C_drewN ?_ _) | (with_reducible refine Kd.C_drew ?_))); (case side2 => exact (Kd.R_reads' HO817.out).2.1); (case side3 => repeat (first | exact (Kd.R_reads' HO811.out).2.2 | (with_reducible refine Kd.C_alloc ?_ _) | (with_reducible refine Kd.C_drewN ?_ _) | (with_reducible refine Kd.C_drew ?_))); (case side4 => rw [show y813.length = t809.length from (Kd.R_reads' HO811.out).1.symm]; exact (Kd.R_reads' HO811.out).2.1); rintro e w124 ⟨v819, rfl, ho0, hb⟩; refine ⟨_, rfl, ?_⟩; have n0_ := Aside0.mk (Kd.R_elder' (GS.rR HO_11.out) (Kd.R_base ho0) hb); have n1_ := Aside0.mk (Kd.R_below (GS.rR HO811.out) hb); have n2_ := Aside0.mk (Kd.R_below (GS.rR HO817.out) hb); have n3_ := Aside0.mk (Kd.R_lower (Kd.R_new' ho0 (Kd.R_lt (GS.rR HO_11.out))) (lqZ (GS.lB HB.out))); have n4_ := Aside0.mk (bqB (GS.bqX BK748.out) hb); have n5_ := Aside0.mk (lqT (GS.lB HB.out) hb); clear HO_11; clear HO811; clear HO817; clear BK748; clear HB; have HO_11 := n0_; have HO811 := n1_; have HO817 := n2_; have HO820 := n3_; have BK748 := n4_; have HB := n5_; clear n0_ n1_ n2_ n3_ n4_ n5_; (try clear hb); (try clear hb2); (try clear hk); (try clear hi); (try clear ho0)))
                      go_ret
                      exact ⟨by first | rfl | (simp [errW_none, errW_some] <;> rfl) | (simp [*, errW_none, errW_some] <;> rfl), GS.lB HB.out⟩
                     ·rw [if_neg c116] at H
                      exact absurd H (by simp)
                    ·rw [if_neg c112] at H
                     exact absurd H (by simp)
                ·rw [if_neg c88] at H
                 exact absurd H (by simp)

end Go.Proofs.Ythboaobgipodiaa.K
