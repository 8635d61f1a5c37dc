-- PRINTED by print.py (a twelfth state) out of the translation. Not trusted: Lean checks it.
import Derived.Test.YtfhmjleimampeaaK0
import Derived.Test.YtfhmjleimampeaaGPu
import Derived.Test.YtfhmjleimampeaaGSym
import Derived.Test.YtfhmjleimampeaaGShort
import Derived.Test.YtfhmjleimampeaaK15a
import Derived.Test.YtfhmjleimampeaaK16
namespace Go.Proofs.Ytfhmjleimampeaa.K
open Go.RowKit Go.Proofs.YtfhmjleimampeaaW.PrintWords Go.Proofs.YtfhmjleimampeaaW.PrintLast Go.Proofs.YtfhmjleimampeaaW.PrintMore
attribute [local go_sem] max2_int min2_int max_two min_two max_three min_three max_four min_four   -- for this text's walks alone
set_option linter.unusedVariables false
set_option linter.unusedSimpArgs false

/-! ### spileref33_AtLeast: function 46 -/
mutual
def spileref33_AtLeast.l0 : Nat → List Int → List Int → Int → Int → List (List Int) → Int → Option (Int × Int × Int)
 | 0, _, _, _, _, _, _ => none
 | k + 1, x0, x7, x9, x10, x11, x12 => if x12 ≤ (x0.length : Int) then (if 0 ≤ (wrap64 (x10 + 1)) then (if (wrap64 (x10 + 1) : Int).toNat ≤ 35184372088832 then (if x11.length < 5864062014805 then (spileref33_AtLeast.l0 k x0 x7 x9 x10 (x11 ++ [(List.replicate (wrap64 (x10 + 1) : Int).toNat 0)]) (wrap64 (x12 + 1))) else (none)) else (none)) else (none)) else (if 0 < (x11.length : Int) then (if 0 < ((rd_L3 x11 0).length : Int) then (spileref33_AtLeast.l1 k x0 x7 x9 x10 (x11.set (0 : Int).toNat ((rd_L3 x11 0).set (0 : Int).toNat 1)) 0) else (none)) else (none))
def spileref33_AtLeast.l1 : Nat → List Int → List Int → Int → Int → List (List Int) → Int → Option (Int × Int × Int)
 | 0, _, _, _, _, _, _ => none
 | k + 1, x0, x7, x9, x10, x11, x13 => if x13 < (x7.length : Int) then (spileref33_AtLeast.l2 k x0 x7 x9 x10 x11 x13 (x0.length : Int)) else (spileref33_AtLeast.l4 k x0 x7 x10 x11 0 x9)
def spileref33_AtLeast.l2 : Nat → List Int → List Int → Int → Int → List (List Int) → Int → Int → Option (Int × Int × Int)
 | 0, _, _, _, _, _, _, _ => none
 | k + 1, x0, x7, x9, x10, x11, x13, x14 => if x14 > 0 then (spileref33_AtLeast.l3 k x0 x7 x9 x10 x11 x13 x14 x10) else (spileref33_AtLeast.l1 k x0 x7 x9 x10 x11 (wrap64 (x13 + 1)))
def spileref33_AtLeast.l3 : Nat → List Int → List Int → Int → Int → List (List Int) → Int → Int → Int → Option (Int × Int × Int)
 | 0, _, _, _, _, _, _, _, _ => none
 | k + 1, x0, x7, x9, x10, x11, x13, x14, x15 => if 0 ≤ x13 then (if x13 < (x7.length : Int) then (if x15 ≥ (rd x7 x13) then (if 0 ≤ x14 then (if x14 < (x11.length : Int) then (if 0 ≤ x15 then (if x15 < ((rd_L3 x11 x14).length : Int) then (if 0 ≤ (wrap64 (x14 - 1)) then (if (wrap64 (x14 - 1)) < (x11.length : Int) then (if 0 ≤ (wrap64 (x15 - (rd x7 x13))) then (if (wrap64 (x15 - (rd x7 x13))) < ((rd_L3 x11 (wrap64 (x14 - 1))).length : Int) then (spileref33_AtLeast.l3 k x0 x7 x9 x10 (x11.set (x14 : Int).toNat ((rd_L3 x11 x14).set (x15 : Int).toNat (wrap64 ((rd (rd_L3 x11 x14) x15) + (rd (rd_L3 x11 (wrap64 (x14 - 1))) (wrap64 (x15 - (rd x7 x13)))))))) x13 x14 (wrap64 (x15 - 1))) else (none)) else (none)) else (none)) else (none)) else (none)) else (none)) else (none)) else (none)) else (spileref33_AtLeast.l2 k x0 x7 x9 x10 x11 x13 (wrap64 (x14 - 1)))) else (none)) else (none)
def spileref33_AtLeast.l4 : Nat → List Int → List Int → Int → List (List Int) → Int → Int → Option (Int × Int × Int)
 | 0, _, _, _, _, _, _ => none
 | k + 1, x0, x7, x10, x11, x16, x17 => if x17 ≤ x10 then (if 0 ≤ (x0.length : Int) then (if (x0.length : Int) < (x11.length : Int) then (if 0 ≤ x17 then (if x17 < ((rd_L3 x11 (x0.length : Int)).length : Int) then (spileref33_AtLeast.l4 k x0 x7 x10 x11 (wrap64 (x16 + (rd (rd_L3 x11 (x0.length : Int)) x17))) (wrap64 (x17 + 1))) else (none)) else (none)) else (none)) else (none)) else ((spileref33_ways.f k (x7.length : Int) (x0.length : Int)).bind fun t450 => (some (x16, t450, 0)))
end
def spileref33_AtLeast.f (k : Nat) (l0 : List Int) (l1 : List Int) : Option (Int × Int × Int) := (spileref33_start.f k l0 l1).bind fun bt415 => (if bt415.2 = 0 then (if 0 ≤ (l0.length : Int) then (if (l0.length : Int) ≤ (bt415.1.length : Int) then ((spileref33_total.f k (bt415.1.take ((l0.length : Int) : Int).toNat)).bind fun t423 => ((spileref33_total.f k bt415.1).bind fun t424 => (spileref33_AtLeast.l0 k l0 bt415.1 t423 t424 (([] : List (List Int))) 0))) else (none)) else (none)) else (some (0, 0, bt415.2)))
theorem spileref33_AtLeast.mono_l : ∀ k, (∀ y0 y1 y2 y3 y4 y5, LeO (spileref33_AtLeast.l0 k y0 y1 y2 y3 y4 y5) (spileref33_AtLeast.l0 (k + 1) y0 y1 y2 y3 y4 y5)) ∧ (∀ y0 y1 y2 y3 y4 y5, LeO (spileref33_AtLeast.l1 k y0 y1 y2 y3 y4 y5) (spileref33_AtLeast.l1 (k + 1) y0 y1 y2 y3 y4 y5)) ∧ (∀ y0 y1 y2 y3 y4 y5 y6, LeO (spileref33_AtLeast.l2 k y0 y1 y2 y3 y4 y5 y6) (spileref33_AtLeast.l2 (k + 1) y0 y1 y2 y3 y4 y5 y6)) ∧ (∀ y0 y1 y2 y3 y4 y5 y6 y7, LeO (spileref33_AtLeast.l3 k y0 y1 y2 y3 y4 y5 y6 y7) (spileref33_AtLeast.l3 (k + 1) y0 y1 y2 y3 y4 y5 y6 y7)) ∧ (∀ y0 y1 y2 y3 y4 y5, LeO (spileref33_AtLeast.l4 k y0 y1 y2 y3 y4 y5) (spileref33_AtLeast.l4 (k + 1) y0 y1 y2 y3 y4 y5))
 | 0 => ⟨fun _ _ _ _ _ _ r h => by simp [spileref33_AtLeast.l0] at h, fun _ _ _ _ _ _ r h => by simp [spileref33_AtLeast.l1] at h, fun _ _ _ _ _ _ _ r h => by simp [spileref33_AtLeast.l2] at h, fun _ _ _ _ _ _ _ _ r h => by simp [spileref33_AtLeast.l3] at h, fun _ _ _ _ _ _ r h => by simp [spileref33_AtLeast.l4] at h⟩
 | k + 1 => by
  obtain ⟨ih0, ih1, ih2, ih3, ih4⟩ := spileref33_AtLeast.mono_l k
  refine ⟨?_, ?_, ?_, ?_, ?_⟩
  ·intro y0 y1 y2 y3 y4 y5
   unfold spileref33_AtLeast.l0
   repeat' first
   | (with_reducible exact ih0 _ _ _ _ _ _)
   | (with_reducible exact ih1 _ _ _ _ _ _)
   | (with_reducible exact ih2 _ _ _ _ _ _ _)
   | (with_reducible exact ih3 _ _ _ _ _ _ _ _)
   | (with_reducible exact ih4 _ _ _ _ _ _)
   | (with_reducible exact spileref33_start.mono _ _ _)
   | (with_reducible exact spileref33_total.mono _ _)
   | (with_reducible exact spileref33_ways.mono _ _ _)
   | (with_reducible exact LeO.refl _)
   | (with_reducible exact LeO.none _)
   | (with_reducible refine LeO.ite ?_ ?_)
   | (with_reducible refine LeO.bind ?_ (fun _ => ?_))
   | exact ih0 _ _ _ _ _ _
   | exact ih1 _ _ _ _ _ _
   | exact ih2 _ _ _ _ _ _ _
   | exact ih3 _ _ _ _ _ _ _ _
   | exact ih4 _ _ _ _ _ _
   | exact spileref33_start.mono _ _ _
   | exact spileref33_total.mono _ _
   | exact spileref33_ways.mono _ _ _
   | exact LeO.none _
   | refine LeO.ite ?_ ?_
   | refine LeO.bind ?_ (fun _ => ?_)
  ·intro y0 y1 y2 y3 y4 y5
   unfold spileref33_AtLeast.l1
   repeat' first
   | (with_reducible exact ih0 _ _ _ _ _ _)
   | (with_reducible exact ih1 _ _ _ _ _ _)
   | (with_reducible exact ih2 _ _ _ _ _ _ _)
   | (with_reducible exact ih3 _ _ _ _ _ _ _ _)
   | (with_reducible exact ih4 _ _ _ _ _ _)
   | (with_reducible exact spileref33_start.mono _ _ _)
   | (with_reducible exact spileref33_total.mono _ _)
   | (with_reducible exact spileref33_ways.mono _ _ _)
   | (with_reducible exact LeO.refl _)
   | (with_reducible exact LeO.none _)
   | (with_reducible refine LeO.ite ?_ ?_)
   | (with_reducible refine LeO.bind ?_ (fun _ => ?_))
   | exact ih0 _ _ _ _ _ _
   | exact ih1 _ _ _ _ _ _
   | exact ih2 _ _ _ _ _ _ _
   | exact ih3 _ _ _ _ _ _ _ _
   | exact ih4 _ _ _ _ _ _
   | exact spileref33_start.mono _ _ _
   | exact spileref33_total.mono _ _
   | exact spileref33_ways.mono _ _ _
   | exact LeO.none _
   | refine LeO.ite ?_ ?_
   | refine LeO.bind ?_ (fun _ => ?_)
  ·intro y0 y1 y2 y3 y4 y5 y6
   unfold spileref33_AtLeast.l2
   repeat' first
   | (with_reducible exact ih0 _ _ _ _ _ _)
   | (with_reducible exact ih1 _ _ _ _ _ _)
   | (with_reducible exact ih2 _ _ _ _ _ _ _)
   | (with_reducible exact ih3 _ _ _ _ _ _ _ _)
   | (with_reducible exact ih4 _ _ _ _ _ _)
   | (with_reducible exact spileref33_start.mono _ _ _)
   | (with_reducible exact spileref33_total.mono _ _)
   | (with_reducible exact spileref33_ways.mono _ _ _)
   | (with_reducible exact LeO.refl _)
   | (with_reducible exact LeO.none _)
   | (with_reducible refine LeO.ite ?_ ?_)
   | (with_reducible refine LeO.bind ?_ (fun _ => ?_))
   | exact ih0 _ _ _ _ _ _
   | exact ih1 _ _ _ _ _ _
   | exact ih2 _ _ _ _ _ _ _
   | exact ih3 _ _ _ _ _ _ _ _
   | exact ih4 _ _ _ _ _ _
   | exact spileref33_start.mono _ _ _
   | exact spileref33_total.mono _ _
   | exact spileref33_ways.mono _ _ _
   | exact LeO.none _
   | refine LeO.ite ?_ ?_
   | refine LeO.bind ?_ (fun _ => ?_)
  ·intro y0 y1 y2 y3 y4 y5 y6 y7
   unfold spileref33_AtLeast.l3
   repeat' first
   | (with_reducible exact ih0 _ _ _ _ _ _)
   | (with_reducible exact ih1 _ _ _ _ _ _)
   | (with_reducible exact ih2 _ _ _ _ _ _ _)
   | (with_reducible exact ih3 _ _ _ _ _ _ _ _)
   | (with_reducible exact ih4 _ _ _ _ _ _)
   | (with_reducible exact spileref33_start.mono _ _ _)
   | (with_reducible exact spileref33_total.mono _ _)
   | (with_reducible exact spileref33_ways.mono _ _ _)
   | (with_reducible exact LeO.refl _)
   | (with_reducible exact LeO.none _)
   | (with_reducible refine LeO.ite ?_ ?_)
   | (with_reducible refine LeO.bind ?_ (fun _ => ?_))
   | exact ih0 _ _ _ _ _ _
   | exact ih1 _ _ _ _ _ _
   | exact ih2 _ _ _ _ _ _ _
   | exact ih3 _ _ _ _ _ _ _ _
   | exact ih4 _ _ _ _ _ _
   | exact spileref33_start.mono _ _ _
   | exact spileref33_total.mono _ _
   | exact spileref33_ways.mono _ _ _
   | exact LeO.none _
   | refine LeO.ite ?_ ?_
   | refine LeO.bind ?_ (fun _ => ?_)
  ·intro y0 y1 y2 y3 y4 y5
   unfold spileref33_AtLeast.l4
   repeat' first
   | (with_reducible exact ih0 _ _ _ _ _ _)
   | (with_reducible exact ih1 _ _ _ _ _ _)
   | (with_reducible exact ih2 _ _ _ _ _ _ _)
   | (with_reducible exact ih3 _ _ _ _ _ _ _ _)
   | (with_reducible exact ih4 _ _ _ _ _ _)
   | (with_reducible exact spileref33_start.mono _ _ _)
   | (with_reducible exact spileref33_total.mono _ _)
   | (with_reducible exact spileref33_ways.mono _ _ _)
   | (with_reducible exact LeO.refl _)
   | (with_reducible exact LeO.none _)
   | (with_reducible refine LeO.ite ?_ ?_)
   | (with_reducible refine LeO.bind ?_ (fun _ => ?_))
   | exact ih0 _ _ _ _ _ _
   | exact ih1 _ _ _ _ _ _
   | exact ih2 _ _ _ _ _ _ _
   | exact ih3 _ _ _ _ _ _ _ _
   | exact ih4 _ _ _ _ _ _
   | exact spileref33_start.mono _ _ _
   | exact spileref33_total.mono _ _
   | exact spileref33_ways.mono _ _ _
   | exact LeO.none _
   | refine LeO.ite ?_ ?_
   | refine LeO.bind ?_ (fun _ => ?_)
theorem spileref33_AtLeast.mono : ∀ a0 a1 k, LeO (spileref33_AtLeast.f k a0 a1) (spileref33_AtLeast.f (k + 1) a0 a1) := by
 intro a0 a1 k
 obtain ⟨ih0, ih1, ih2, ih3, ih4⟩ := spileref33_AtLeast.mono_l k
 unfold spileref33_AtLeast.f
 repeat' first
   | (with_reducible exact ih0 _ _ _ _ _ _)
   | (with_reducible exact ih1 _ _ _ _ _ _)
   | (with_reducible exact ih2 _ _ _ _ _ _ _)
   | (with_reducible exact ih3 _ _ _ _ _ _ _ _)
   | (with_reducible exact ih4 _ _ _ _ _ _)
   | (with_reducible exact spileref33_start.mono _ _ _)
   | (with_reducible exact spileref33_total.mono _ _)
   | (with_reducible exact spileref33_ways.mono _ _ _)
   | (with_reducible exact LeO.refl _)
   | (with_reducible exact LeO.none _)
   | (with_reducible refine LeO.ite ?_ ?_)
   | (with_reducible refine LeO.bind ?_ (fun _ => ?_))
   | exact ih0 _ _ _ _ _ _
   | exact ih1 _ _ _ _ _ _
   | exact ih2 _ _ _ _ _ _ _
   | exact ih3 _ _ _ _ _ _ _ _
   | exact ih4 _ _ _ _ _ _
   | exact spileref33_start.mono _ _ _
   | exact spileref33_total.mono _ _
   | exact spileref33_ways.mono _ _ _
   | exact LeO.none _
   | refine LeO.ite ?_ ?_
   | refine LeO.bind ?_ (fun _ => ?_)
def spileref33_AtLeast.T20 : Bool × List (List Nat × List Nat) := (true, [([], []), ([], []), ([0, 1], [0, 1]), ([2], [2]), ([], []), ([], []), ([], []), ([5, 6], [5, 6]), ([7], [7]), ([], []), ([8, 9], [8, 9]), ([10], [10]), ([], []), ([], []), ([13], [13]), ([12, 14], [12, 14]), ([15], [15]), ([], []), ([], []), ([], []), ([18, 19], [18, 19]), ([20], [20]), ([17, 21], [17, 21]), ([16, 22], [16, 22]), ([23], [23]), ([11, 24], [11, 24]), ([3, 4, 0, 1, 2, 3, 4, 5, 6, 7, 8, 9, 10, 11, 12, 13, 14, 15, 16, 17, 18, 19, 20, 21, 22, 23, 24, 25], [3, 4]), ([26, 25, 0, 1, 2, 3, 4, 5, 6, 7, 8, 9, 10, 11, 12, 13, 14, 15, 16, 17, 18, 19, 20, 21, 22, 23, 24, 25], [25, 26])])
def spileref33_AtLeast.B20 : List Nat := [0, 0, 3, 7, 0, 0, 0, 96, 224, 0, 992, 2016, 0, 0, 8192, 28672, 61440, 0, 0, 0, 786432, 1835008, 4063232, 8384512, 16773120, 33554400, 67108863, 134217727]
theorem spileref33_AtLeast.tab20 : rtab .any (opsOf Try.f46 20) = spileref33_AtLeast.T20 := by kernel_rfl
theorem spileref33_AtLeast.bits20 : waitsOk spileref33_AtLeast.T20.2 spileref33_AtLeast.B20 = true := by kernel_rfl
set_option maxHeartbeats 8000000 in
set_option maxRecDepth 100000 in
theorem spileref33_AtLeast.calls (k : Nat) (A0 : Option Addr) (c0 : Nat) (l0 : List Int) (A1 : Option Addr) (c1 : Nat) (l1 : List Int) (r1 : Int) (r2 : Int) (r3 : Int) (w : World) (hr0 : Kd.C (Kd.int .i64) w A0 l0.length l0) (hc0 : l0.length ≤ c0) (hr1 : Kd.C (Kd.int .i64) w A1 l1.length l1) (hc1 : l1.length ≤ c1) (h : spileref33_AtLeast.f k l0 l1 = some (r1, r2, r3)) :
  Calls Try.prog 46 #[.slice A0 l0.length c0, .slice A1 l1.length c1] w fun e w' => e = .returned (.tuple #[.int .i64 r1, .int .i64 r2, .int .i64 r3]) ∧ Below w.heap.size w w' := by
 have HR0 := Aside0.mk hr0
 have HC0 := Aside0.mk hc0
 clear hr0 hc0
 have HR1 := Aside0.mk hr1
 have HC1 := Aside0.mk hc1
 clear hr1 hc1
 have HB := Aside0.mk (Below.refl w.heap.size w)
 have H : ((spileref33_start.f k l0 l1).bind fun bt415 => (if bt415.2 = 0 then (if 0 ≤ (l0.length : Int) then (if (l0.length : Int) ≤ (bt415.1.length : Int) then ((spileref33_total.f k (bt415.1.take ((l0.length : Int) : Int).toNat)).bind fun t423 => ((spileref33_total.f k bt415.1).bind fun t424 => (spileref33_AtLeast.l0 k l0 bt415.1 t423 t424 (([] : List (List Int))) 0))) else (none)) else (none)) else (some (0, 0, bt415.2)))) = some (r1, r2, r3) := h
 clear h
 replace H := Option.bind_eq_some_iff.mp H
 obtain ⟨⟨t415, t416⟩, A30, H⟩ := H
 replace H : (if t416 = 0 then (if 0 ≤ (l0.length : Int) then (if (l0.length : Int) ≤ (t415.length : Int) then ((spileref33_total.f k (t415.take ((l0.length : Int) : Int).toNat)).bind fun t423 => ((spileref33_total.f k t415).bind fun t424 => (spileref33_AtLeast.l0 k l0 t415 t423 t424 (([] : List (List Int))) 0))) else (none)) else (none)) else (some (0, 0, t416))) = some (r1, r2, r3) := H
 have A3 := Aside0.mk A30
 clear A30
 by_cases c4 : t416 = 0
 ·rw [if_pos c4] at H
  have c4b0 : (t416 == 0) = true := beq_iff_eq.mpr c4
  try simp only [beq_self_eq_true, Bool.not_true, Bool.false_or, Bool.true_and] at c4b0
  have c4b1 : (t416 != 0) = false := bne_eq_false_iff_eq.mpr c4
  clear c4
  by_cases c5 : 0 ≤ (l0.length : Int)
  ·rw [if_pos c5] at H
   have c5b0 := eq_true c5
   have c5b1 : decide (0 ≤ (l0.length : Int)) = true := decide_eq_true c5
   clear c5
   by_cases c6 : (l0.length : Int) ≤ (t415.length : Int)
   ·rw [if_pos c6] at H
    have c6b0 := eq_true c6
    have c6b1 : decide ((l0.length : Int) ≤ (t415.length : Int)) = true := decide_eq_true c6
    clear c6
    obtain ⟨y419, hy419⟩ : ∃ y_ : List Int, y_ = (t415.take ((l0.length : Int) : Int).toNat) := ⟨_, rfl⟩
    replace H : ((spileref33_total.f k y419).bind fun t423 => ((spileref33_total.f k t415).bind fun t424 => (spileref33_AtLeast.l0 k l0 t415 t423 t424 (([] : List (List Int))) 0))) = some (r1, r2, r3) := by first | (rw [hy419]; with_reducible exact H) | (have H2_ := (Option.bind_some _ _).symm.trans H; rw [hy419]; with_reducible exact H2_) | (have H2_ := (Option.bind_some _ _).symm.trans H; with_reducible exact H2_) | with_reducible exact H | (rw [hy419]; exact H) | exact H
    have Ny419 := Aside0.mk hy419
    clear hy419
    replace H := Option.bind_eq_some_iff.mp H
    obtain ⟨t423, A70, H⟩ := H
    replace H : ((spileref33_total.f k t415).bind fun t424 => (spileref33_AtLeast.l0 k l0 t415 t423 t424 (([] : List (List Int))) 0)) = some (r1, r2, r3) := H
    have A7 := Aside0.mk A70
    clear A70
    replace H := Option.bind_eq_some_iff.mp H
    obtain ⟨t424, A80, H⟩ := H
    replace H : (spileref33_AtLeast.l0 k l0 t415 t423 t424 (([] : List (List Int))) 0) = some (r1, r2, r3) := H
    have A8 := Aside0.mk A80
    clear A80
    obtain ⟨y425, hy425⟩ : ∃ y_ : List (List Int), y_ = (([] : List (List Int))) := ⟨_, rfl⟩
    replace H : (spileref33_AtLeast.l0 k l0 t415 t423 t424 y425 0) = some (r1, r2, r3) := by first | (rw [hy425]; with_reducible exact H) | (have H2_ := (Option.bind_some _ _).symm.trans H; rw [hy425]; with_reducible exact H2_) | (have H2_ := (Option.bind_some _ _).symm.trans H; with_reducible exact H2_) | with_reducible exact H | (rw [hy425]; exact H) | exact H
    have Ny425 := Aside0.mk hy425
    clear hy425
    have H' := Aside0.mk H
    clear H
    go_enter Try.func46, Try.ntmps46
    go_wp2_with (first | ((with_reducible refine gqC (f := 64) rfl ?_); refine GS.gL (some 21) Try.func64 #[.slice A0 l0.length c0, .slice A1 l1.length c1] ?_; (with_reducible refine (spileref33_start.calls k _ _ l0 _ _ l1 t415 t416 _ ?side1 ?side2 ?side3 ?side4 A3.out).mono ?_); (case side1 => exact GS.rC HR0.out); (case side2 => exact HC0.out); (case side3 => exact GS.rC HR1.out); (case side4 => exact HC1.out); rintro e w9 ⟨v417, rfl, ho0, hb⟩; refine ⟨_, rfl, ?_⟩; have n0_ := Aside0.mk (Kd.R_lower ho0 (lqZ (GS.lB HB.out))); have n1_ := Aside0.mk (lqT (GS.lB HB.out) hb); clear HB; have HO418 := n0_; have HB := n1_; clear n0_ n1_; (try clear hb); (try clear hb2); (try clear hk); (try clear hi); (try clear ho0); obtain ⟨Ao11, co11, eo11⟩ := Kd.R_slice HO418.out; subst eo11; have q10 : ((l0.length : Int) : Int) ≤ ((t415.length : Int) : Int) := of_decide_eq_true (by first | (with_reducible assumption) | assumption); obtain ⟨i010, hi010, _, hsz10, _⟩ := info_parts info3; have hroom10 : t415.length ≤ co11 := (Kd.R_reads' HO418.out).2.1; have hC10 : Kd.C (Kd.int .i64) _ Ao11 t415.length t415 := (Kd.R_reads' HO418.out).2.2; have hcut10 := cut_to (P := Try.prog) 31 3 .i64 Try.underlying31 hi010 Ao11 t415.length co11 (l0.length : Int) (of_decide_eq_true (by first | (with_reducible assumption) | assumption)) q10 hroom10; have hr10 := Kd.C_take (m := ((l0.length : Int) : Int).toNat) hC10 (by omega); have hy10 : y419.length = ((l0.length : Int) : Int).toNat := (by rw [Ny419.out, List.length_take]; omega); rw [← Ny419.out] at hr10; rw [← hy10] at hcut10; have HR422 := Aside0.mk hr10; have HC422 := Aside0.mk (show y419.length ≤ co11 from by omega); clear hr10 hC10 hroom10 hi010 hsz10; have KY10 := Aside0.mk hy10; clear hy10; have KL10 := Aside0.mk (show ((l0.length : Int) : Int).toNat ≤ t415.length from by omega); replace q10 := eq_true q10) | ((with_reducible refine gqC (f := 65) rfl ?_); refine GS.gL (some 31) Try.func65 #[.slice Ao11 y419.length co11] ?_; (with_reducible refine (spileref33_total.calls k _ _ y419 t423 _ ?side1 ?side2 A7.out).mono ?_); (case side1 => repeat (first | exact (by repeat (first | (with_reducible exact HR422.out) | (with_reducible refine Kd.C_alloc ?_ _) | (with_reducible refine Kd.C_drewN ?_ _) | (with_reducible refine Kd.C_drew ?_) | exact HR422.out)) | (with_reducible refine Kd.C_alloc ?_ _) | (with_reducible refine Kd.C_drewN ?_ _) | (with_reducible refine Kd.C_drew ?_))); (case side2 => exact HC422.out); rintro e w' ⟨rfl, ⟨nd, rfl⟩⟩; refine ⟨_, rfl, ?_⟩) | ((with_reducible refine gqC (f := 65) rfl ?_); refine GS.gL (some 33) Try.func65 #[.slice Ao11 t415.length co11] ?_; (with_reducible refine (spileref33_total.calls k _ _ t415 t424 _ ?side1 ?side2 A8.out).mono ?_); (case side1 => repeat (first | exact (Kd.R_reads' HO418.out).2.2 | (with_reducible refine Kd.C_alloc ?_ _) | (with_reducible refine Kd.C_drewN ?_ _) | (with_reducible refine Kd.C_drew ?_))); (case side2 => exact (Kd.R_reads' HO418.out).2.1); rintro e w' ⟨rfl, ⟨nd, rfl⟩⟩; refine ⟨_, rfl, ?_⟩) | ((with_reducible refine gqD (N := 34) rfl ?_); refine Kd.S_lit (Kd.slice 3 (Kd.int .i64)) _ 31 ?hg (N := 34) ?hd (xs := ([] : List (List Int))) (inner := []) (ok := fun _ => True) (okp := fun _ => True) ?hr ?hp (fun _ hk => hk) trivial (Below.refl _ _) (Nat.le_refl _) (by simp) ?_; (case hd => rfl); (case hg => rfl); (case hr => first | (go_simp; done) | (go_simp; rfl)); (case hp => exact (Reps.none _ _)); intro v426 w12 ho13 hb hg_ hnew_; clear hg_ hnew_; (first | rw [← Ny425.out] at ho13 | (simp only [Int.reduceToNat] at ho13; rw [← Ny425.out] at ho13)); have n0_ := Aside0.mk (Kd.R_below (GS.rR HO418.out) hb); have n1_ := Aside0.mk (Kd.S_lower (Kd.S_new' ho13 (Kd.R_lt (GS.rR HO418.out))) (lqZ (GS.lB HB.out))); have n2_ := Aside0.mk (Kd.C_below (by repeat (first | (with_reducible exact HR422.out) | (with_reducible refine Kd.C_alloc ?_ _) | (with_reducible refine Kd.C_drewN ?_ _) | (with_reducible refine Kd.C_drew ?_) | exact HR422.out)) hb); have n3_ := Aside0.mk (lqT (GS.lB HB.out) hb); clear HO418; clear HR422; clear HB; have HO418 := n0_; have HO427 := n1_; have HR422 := n2_; have HB := n3_; clear n0_ n1_ n2_ n3_; clear hb ho13))
    go_loopg [11, 12] k (fun kq v11 v12 w' => ∃ (x11_1 : List (List Int)) (x12_1 : Int), v12 = .int .i64 x12_1 ∧ Aside0 (spileref33_AtLeast.l0 kq l0 t415 t423 t424 x11_1 x12_1 = some (r1, r2, r3)) ∧ Aside0 (kq ≤ k) ∧ Aside0 (Kd.R (Kd.int .i64) 3 w' w.heap.size (fun _ => True) (.slice Ao11 t415.length co11) t415) ∧ Aside0 (Kd.S (Kd.slice 3 (Kd.int .i64)) 31 w' w.heap.size (fun k_ => some k_ ≠ ((.slice Ao11 t415.length co11) : Value).ownBlock) v11 x11_1) ∧ Aside0 (Below w.heap.size w w'))
    case atStart => exact ⟨(y425), (0), (by first | rfl | (simp; done) | (simp [*]; done)), H', ⟨Nat.le_refl _⟩, ⟨by (with_reducible repeat (first | apply Kd.R_alloc | apply Kd.R_drewN | apply Kd.R_drew)); exact HO418.out⟩, ⟨by (with_reducible repeat (first | apply Kd.S_alloc | apply Kd.S_drewN | apply Kd.S_drew)); exact Kd.S_mono HO427.out (fun _ hk => GS.cj hk)⟩, ⟨GS.lB HB.out⟩⟩
    case round =>
     clear H'
     try clear c1
     try clear q1
     try clear p2
     try clear c4
     try clear c4b0
     try clear c4b1
     try clear c5
     try clear c5b0
     try clear c5b1
     try clear c6
     try clear c6b0
     try clear c6b1
     try clear q10
     try clear q10
     obtain ⟨x11_1, x12_1, rfl, HA, HK1, HO_7, HO_11, HB⟩ := hrel
     cases gk with
     | zero => exact absurd HA.out (by simp [spileref33_AtLeast.l0])
     | succ k1 =>
      have H := HA.out
      clear HA
      simp only [spileref33_AtLeast.l0] at H
      by_cases c14 : x12_1 ≤ (l0.length : Int)
      ·rw [if_pos c14] at H
       have c14b0 : decide (x12_1 ≤ (l0.length : Int)) = true := decide_eq_true c14
       clear c14
       obtain ⟨ji15, hji15⟩ : ∃ j_ : Int, (wrap64 (t424 + 1)) = j_ := ⟨_, rfl⟩
       replace H : (if 0 ≤ (ji15) then (if (ji15 : Int).toNat ≤ 35184372088832 then (if x11_1.length < 5864062014805 then (spileref33_AtLeast.l0 k1 l0 t415 t423 t424 (x11_1 ++ [(List.replicate (ji15 : Int).toNat 0)]) (wrap64 (x12_1 + 1))) else (none)) else (none)) else (none)) = some (r1, r2, r3) := by first | (rw [hji15] at H; exact H) | (simp only [hji15] at H ⊢; exact H)
       have hji15w : (IntKind.i64.wrap (t424 + 1)) = ji15 := (i64_w _).trans hji15
       by_cases c16 : 0 ≤ (ji15)
       ·rw [if_pos c16] at H
        have c16b0 := eq_true c16
        have c16b1 : decide (0 ≤ (ji15)) = true := decide_eq_true c16
        clear c16
        by_cases c17 : (ji15 : Int).toNat ≤ 35184372088832
        ·rw [if_pos c17] at H
         have c17b0 := eq_true c17
         have c17b1 : decide ((ji15 : Int).toNat ≤ 35184372088832) = true := decide_eq_true c17
         clear c17
         obtain ⟨y428, hy428⟩ : ∃ y_ : List Int, y_ = (List.replicate (ji15 : Int).toNat 0) := ⟨_, rfl⟩
         replace H : (if x11_1.length < 5864062014805 then (spileref33_AtLeast.l0 k1 l0 t415 t423 t424 (x11_1 ++ [y428]) (wrap64 (x12_1 + 1))) else (none)) = some (r1, r2, r3) := by first | (rw [hy428]; with_reducible exact H) | (have H2_ := (Option.bind_some _ _).symm.trans H; rw [hy428]; with_reducible exact H2_) | (have H2_ := (Option.bind_some _ _).symm.trans H; with_reducible exact H2_) | with_reducible exact H | (rw [hy428]; exact H) | exact H
         have Ny428 := Aside0.mk hy428
         clear hy428
         by_cases c18 : x11_1.length < 5864062014805
         ·rw [if_pos c18] at H
          have LMc18 := Aside0.mk c18
          clear c18
          obtain ⟨y431, hy431⟩ : ∃ y_ : List (List Int), y_ = (x11_1 ++ [y428]) := ⟨_, rfl⟩
          replace H : (spileref33_AtLeast.l0 k1 l0 t415 t423 t424 y431 (wrap64 (x12_1 + 1))) = some (r1, r2, r3) := by first | (rw [hy431]; with_reducible exact H) | (have H2_ := (Option.bind_some _ _).symm.trans H; rw [hy431]; with_reducible exact H2_) | (have H2_ := (Option.bind_some _ _).symm.trans H; with_reducible exact H2_) | with_reducible exact H | (rw [hy431]; exact H) | exact H
          have Ny431 := Aside0.mk hy431
          clear hy431
          have H' := Aside0.mk H
          clear H
          go_wp2_with (first | ((with_reducible refine gqD (N := 44) rfl ?_); refine Kd.R_make (Kd.int .i64) _ 3 rfl (N := 44) rfl 31 _ _ rfl ji15 rfl rfl Try.underlying31 (.int .i64 0) 8 info3 rfl (by decide) (by omega) 0 (ok := fun _ => True) (okp := fun _ => True) rfl (fun _ hk => hk) trivial (of_decide_eq_true (by first | (with_reducible assumption) | assumption)) (Nat.le_trans (Nat.mul_le_mul_right _ (of_decide_eq_true (by first | (with_reducible assumption) | assumption) : ji15.toNat ≤ 35184372088832)) (by omega)) (Below.refl _ _) (Nat.le_refl _) ?_; intro v429 w19 ho20 hb hg_ hnew_; clear hg_ hnew_; (first | rw [← Ny428.out] at ho20 | (simp only [Int.reduceToNat] at ho20; rw [← Ny428.out] at ho20)); have n0_ := Aside0.mk (Kd.R_elder' (GS.rR HO_7.out) (Kd.R_base ho20) hb); have n1_ := Aside0.mk (Kd.S_elder' (by (with_reducible repeat (first | apply Kd.S_alloc | apply Kd.S_drewN | apply Kd.S_drew)); exact HO_11.out) (Kd.R_base ho20) hb); have n2_ := Aside0.mk (Kd.R_lower (Kd.R_new' ho20 (Kd.R_lt (GS.rR HO_7.out))) (lqZ (GS.lB HB.out))); have n3_ := Aside0.mk (lqT (GS.lB HB.out) hb); clear HO_7; clear HO_11; clear HB; have HO_7 := n0_; have HO_11 := n1_; have HO430 := n2_; have HB := n3_; clear n0_ n1_ n2_ n3_; clear hb ho20; obtain ⟨Ao22, co22, eo22⟩ := Kd.R_slice HO430.out; subst eo22) | ((with_reducible refine gate_builtin (b := .append) (xs := #[.tmp 41, .tmp 45]) rfl ?_); at_builtin; refine Kd.S_append (Kd.slice 3 (Kd.int .i64)) (w0 := w) w.heap.size rfl (.tmp 41) (.tmp 45) 86 31 (.slice none 0 0) 24 rfl Try.underlying86 info31 rfl (by decide) (by omega) u11 x11_1 y428 [.slice Ao22 y428.length co22] (fun k_ => some k_ ≠ (.slice Ao11 t415.length co11 : Value).ownBlock) (fun k_ => some k_ = (.slice Ao22 y428.length co22 : Value).ownBlock) rfl rfl ?aP (fun k_ hk_ => ((Kd.R_mono (ok' := fun k_ => ((fun k_ => some k_ ≠ (.slice Ao11 t415.length co11 : Value).ownBlock)) k_ ∧ some k_ ≠ (u11 : Value).ownBlock) (Kd.R_apart' (HO430.out) (Kd.S_typed HO_11.out) (by decide)) (fun k_ hk => ⟨hk.1.2, hk.2⟩))).1 k_ hk_.symm) ?aF ?aO ?aB ?aS ?aL ?_; (case aP => exact Kd.M_row (Kd.R_mono (Kd.R_tight rfl (Kd.R_mono (ok' := fun k_ => ((fun k_ => some k_ ≠ (.slice Ao11 t415.length co11 : Value).ownBlock)) k_ ∧ some k_ ≠ (u11 : Value).ownBlock) (Kd.R_apart' (HO430.out) (Kd.S_typed HO_11.out) (by decide)) (fun k_ hk => ⟨hk.1.2, hk.2⟩))) (fun _ h_ => h_))); (case aB => exact (GS.lB HB.out)); (case aF => exact (fun k_ hk => Kd.fresh' (Kd.R_lt (GS.rR HO_7.out)) k_ hk)); (case aO => exact (by (with_reducible repeat (first | apply Kd.S_alloc | apply Kd.S_drewN | apply Kd.S_drew)); exact Kd.S_mono HO_11.out (fun k_ hk => ⟨hk.1, fun e_ => hk.2 e_⟩))); (case aS => exact (lqZ (GS.lB HB.out))); (case aL => have := LMc18.out; omega); intro v432 w21 ho hb hg hat; rw [← Ny431.out] at ho; have n0_ := Aside0.mk (Kd.R_over' (GS.rR HO_7.out) (Kd.S_typed (by (with_reducible repeat (first | apply Kd.S_alloc | apply Kd.S_drewN | apply Kd.S_drew)); exact HO_11.out)) (by decide) hg); have n1_ := Aside0.mk (hb); have n2_ := Aside0.mk (ho); clear HO_7; clear HB; clear HO_11; clear HO430; have HO_7 := n0_; have HB := n1_; have HO433 := n2_; clear n0_ n1_ n2_; clear ho hb hg hat))
          go_roundg k1
          case measure => have := HK1.out; omega
          case rel => exact ⟨(y431), (wrap64 (x12_1 + 1)), (by first | rfl | (simp; done) | (simp [*]; done)), H', ⟨by have := HK1.out; omega⟩, ⟨by (with_reducible repeat (first | apply Kd.R_alloc | apply Kd.R_drewN | apply Kd.R_drew)); exact Kd.R_mono HO_7.out (fun _ hk => trivial)⟩, ⟨by (with_reducible repeat (first | apply Kd.S_alloc | apply Kd.S_drewN | apply Kd.S_drew)); exact HO433.out⟩, ⟨GS.lB HB.out⟩⟩
         ·rw [if_neg c18] at H
          exact absurd H (by simp)
        ·rw [if_neg c17] at H
         exact absurd H (by simp)
       ·rw [if_neg c16] at H
        exact absurd H (by simp)
      ·rw [if_neg c14] at H
       have c14b0 : decide (x12_1 ≤ (l0.length : Int)) = false := decide_eq_false c14
       clear c14
       by_cases c23 : 0 < (x11_1.length : Int)
       ·rw [if_pos c23] at H
        have c23b0 : decide (0 < (x11_1.length : Int)) = true := decide_eq_true c23
        have c23b1 : decide (0 < x11_1.length) = true := decide_eq_true (by omega)
        clear c23
        by_cases c24 : 0 < ((rd_L3 x11_1 0).length : Int)
        ·rw [if_pos c24] at H
         have c24b0 : decide (0 < ((rd_L3 x11_1 0).length : Int)) = true := decide_eq_true c24
         have c24b1 : decide (0 < (rd_L3 x11_1 0).length) = true := decide_eq_true (by omega)
         clear c24
         obtain ⟨y435, hy435⟩ : ∃ y_ : List Int, y_ = ((rd_L3 x11_1 0).set (0 : Int).toNat 1) := ⟨_, rfl⟩
         replace H : (spileref33_AtLeast.l1 k1 l0 t415 t423 t424 (x11_1.set (0 : Int).toNat y435) 0) = some (r1, r2, r3) := by first | (rw [hy435]; with_reducible exact H) | (have H2_ := (Option.bind_some _ _).symm.trans H; rw [hy435]; with_reducible exact H2_) | (have H2_ := (Option.bind_some _ _).symm.trans H; with_reducible exact H2_) | with_reducible exact H | (rw [hy435]; exact H) | exact H
         have Ny435 := Aside0.mk hy435
         clear hy435
         obtain ⟨y437, hy437⟩ : ∃ y_ : List (List Int), y_ = (x11_1.set (0 : Int).toNat y435) := ⟨_, rfl⟩
         replace H : (spileref33_AtLeast.l1 k1 l0 t415 t423 t424 y437 0) = some (r1, r2, r3) := by first | (rw [hy437]; with_reducible exact H) | (have H2_ := (Option.bind_some _ _).symm.trans H; rw [hy437]; with_reducible exact H2_) | (have H2_ := (Option.bind_some _ _).symm.trans H; with_reducible exact H2_) | with_reducible exact H | (rw [hy437]; exact H) | exact H
         have Ny437 := Aside0.mk hy437
         clear hy437
         have H' := Aside0.mk H
         clear H
         obtain ⟨Ao26, co26, eo26⟩ := Kd.S_slice HO_11.out
         subst eo26
         have p434 : 0 ≤ (0 : Int) := (by omega)
         have q434 : 0 < (x11_1.length : Int) := of_decide_eq_true (by first | (with_reducible assumption) | assumption)
         obtain ⟨ad434, A434_0, c434_0, e434, hx434_0, hl434_0, hi434_0⟩ := at_L3 (Kd.S_reads' HO_11.out).2.2 0 p434 q434
         cases e434
         obtain ⟨ce434, hce434, hMe434, hcc434⟩ := Kd.S_get HO_11.out [] 0 p434 (by first | exact q434 | exact of_decide_eq_true (by first | (with_reducible assumption) | assumption) | (have e_ := (Kd.S_reads' HO_11.out).1; omega))
         obtain ⟨ve434_0, rfl, ge434_0⟩ := hMe434
         have hv434_0 := hcc434 0 _ rfl
         rw [Nat.add_zero, show ((Kd.slice 3 (Kd.int .i64))).sz = 1 from rfl, Nat.mul_one] at hv434_0
         replace hv434_0 := Option.some.inj (hv434_0.symm.trans hx434_0)
         rw [hv434_0] at ge434_0
         have HL434_0 := Aside0.mk (show Kd.R (Kd.int .i64) 3 _ _ _ _ (rd_L3 x11_1 0) from ge434_0)
         clear hv434_0 ge434_0
         have HX434_0 := Aside0.mk hx434_0
         clear hcc434 hce434
         have qi434 : (0 < x11_1.length) = True := eq_true (by omega)
         (try rw [show ((0 : Int)).toNat = 0 from rfl] at hx434_0)
         (try rw [Addr.add_zero'] at hx434_0)
         have HR434_0 := Aside0.mk hi434_0
         have HC434_0 := Aside0.mk hl434_0
         clear hi434_0 hl434_0
         replace p434 := eq_true p434
         replace q434 := eq_true q434
         have p25 : 0 ≤ (0 : Int) := (by omega)
         have q25 : (0 : Int) < (((rd_L3 x11_1 0).length : Int) : Int) := of_decide_eq_true (by first | (with_reducible assumption) | assumption)
         have qi25 : (0 < (rd_L3 x11_1 0).length) = True := eq_true (by omega)
         obtain ⟨go25, co25, eo25, gb25, gl25, cl25, HG25⟩ := Kd.R_form HL434_0.out (by omega)
         (first | cases eo25 | (injection eo25 with ea_ en_ ec_; (first | subst ea_ | (injection ea_ with ea_; subst ea_)); subst ec_; clear en_))
         have GB25 := Aside0.mk gb25
         have GG25 := Aside0.mk HG25
         clear gb25 gl25 HG25
         obtain ⟨hx25_0, hf25_0⟩ := Kd.R_celln 0 HL434_0.out (0 : Int) p25 q25
         (try rw [show ((0 : Int)).toNat = 0 from rfl] at hx25_0)
         (try simp only [Nat.reduceMul, Nat.zero_mul, Nat.zero_add, Nat.reduceAdd] at hx25_0)
         (try rw [show ((0 : Int)).toNat = 0 from rfl] at hf25_0)
         (try simp only [Nat.reduceMul, Nat.zero_mul, Nat.zero_add, Nat.reduceAdd] at hf25_0)
         replace p25 := eq_true p25
         replace q25 := eq_true q25
         have hq27 : (0 : Int) < (x11_1.length : Int) := (by have h_ : (0 : Int) < ((x11_1.length : Int) : Int) := of_decide_eq_true (by first | (with_reducible assumption) | assumption); first | exact h_ | (have e_ := (Kd.S_reads' HO_11.out).1; omega) | simpa only [List.length_set, List.length_set] using h_)
         obtain ⟨oki27, ce27, hcl27, hM27, hcc27, hok27, hbk27⟩ := Kd.S_borrow HO_11.out [] (0 : Int) (by omega) hq27
         obtain ⟨ve27_0, rfl, ge27_0⟩ := hM27
         have hv27 := hcc27 0 _ rfl
         rw [Nat.add_zero, show ((Kd.slice 3 (Kd.int .i64))).sz = 1 from rfl, Nat.mul_one] at hv27
         replace hv27 := Option.some.inj (hv27.symm.trans HX434_0.out)
         subst hv27
         clear hcc27 hcl27
         replace ge27_0 := (show Kd.R (Kd.int .i64) 3 _ _ _ _ (rd_L3 x11_1 0) from ge27_0)
         have HP27 := Kd.R_putg ge27_0 (0 : Int) 1
         go_wp2_with (first | ((with_reducible refine gate_store (t := 3) (p := 50) rfl ?_); refine store_event (t := 3) (p := 50) (v := ?vo_w28) (w1 := (wr.setCell ⟨go25, 0, none⟩ (.int .i64 1))) ?hg ?ho ?hn ?hr ?_; (case ho => rfl); (case hg => rfl); (case hn => rfl); (case hr => first | (go_simp; done) | (go_simp; rfl)); intro w28 hw; have hg : wr.grownBy w28 (some go25) := (by rw [hw]; exact HP27.2); have hz_ : Kd.R (Kd.int .i64) 3 w28 w.heap.size oki27 (.slice (some ⟨go25, 0, none⟩) (rd_L3 x11_1 0).length c434_0) y435 := (by rw [hw, Ny435.out]; exact HP27.1); have hp_ : Kd.S (Kd.slice 3 (Kd.int .i64)) 31 w28 w.heap.size (fun k_ => some k_ ≠ (.slice Ao11 t415.length co11 : Value).ownBlock) (.slice (some ad434) x11_1.length co26) y437 := (by rw [Ny437.out]; exact hbk27 hg (fun k_ e_ => by injection e_ with e_; subst e_; exact ge27_0.1 _ rfl) (Kd.M_row hz_)); have hm_ := Kd.R_mono hz_ hok27; clear HP27 hbk27; have n0_ := Aside0.mk (Kd.R_grown1 (GS.rR HO_7.out) rfl hg ((HL434_0.out.1 _ rfl).1)); have n1_ := Aside0.mk (hp_); have n2_ := Aside0.mk ((by rw [hw]; exact lqS (HB.out) GB25.out : Below w.heap.size w w28)); have n3_ := Aside0.mk (hm_); have n4_ := Aside0.mk ((Kd.R_reads' hm_).2.1); clear HO_7; clear HO_11; clear HB; clear HL434_0; have HO_7 := n0_; have HO_11 := n1_; have HB := n2_; have HL451 := n3_; have HC436 := n4_; clear n0_ n1_ n2_ n3_ n4_; clear hg hw hp_ hz_ hm_ hok27))
         go_loopg [13] k1 (fun kq v13 w' => ∃ (x7_2 : List Int) (x11_2 : List (List Int)) (x13_2 : Int), v13 = .int .i64 x13_2 ∧ Aside0 (spileref33_AtLeast.l1 kq l0 x7_2 t423 t424 x11_2 x13_2 = some (r1, r2, r3)) ∧ Aside0 (kq ≤ k1) ∧ Aside0 (Kd.R (Kd.int .i64) 3 w' w.heap.size (fun _ => True) (.slice Ao11 t415.length co11) x7_2) ∧ Aside0 (Kd.S (Kd.slice 3 (Kd.int .i64)) 31 w' w.heap.size (fun k_ => some k_ ≠ ((.slice Ao11 t415.length co11) : Value).ownBlock) (.slice (some ad434) x11_1.length co26) x11_2) ∧ Aside0 (Below w.heap.size w w'))
         case atStart => exact ⟨(t415), (y437), (0), (by first | rfl | (simp; done) | (simp [*]; done)), H', ⟨Nat.le_refl _⟩, ⟨by (with_reducible repeat (first | apply Kd.R_alloc | apply Kd.R_drewN | apply Kd.R_drew)); exact HO_7.out⟩, ⟨by (with_reducible repeat (first | apply Kd.S_alloc | apply Kd.S_drewN | apply Kd.S_drew)); exact HO_11.out⟩, ⟨GS.lB HB.out⟩⟩
         case round =>
          clear H'
          try clear c1
          try clear q1
          try clear c2
          try clear p2
          try clear q2
          try clear hx2
          try clear qi2
          try clear hf2
          try clear c4
          try clear c4b0
          try clear c4b1
          try clear p4
          try clear q4
          try clear hx4
          try clear qi4
          try clear c5
          try clear c5b0
          try clear c5b1
          try clear c6
          try clear c6b0
          try clear c6b1
          try clear p6
          try clear q10
          try clear c14
          try clear c14b0
          try clear c16
          try clear c16b0
          try clear c16b1
          try clear c17
          try clear c17b0
          try clear c17b1
          try clear c18
          try clear c23
          try clear c23b0
          try clear c23b1
          try clear c24
          try clear c24b0
          try clear c24b1
          try clear p25
          try clear q25
          try clear hx25
          try clear qi25
          try clear hf25
          try clear c27
          try clear q27
          try clear hx25_0
          try clear hx434_0
          try clear p2
          try clear p25
          try clear p434
          try clear q1
          try clear q10
          try clear q25
          try clear q434
          obtain ⟨x7_2, x11_2, x13_2, rfl, HA, HK2, HO_7, HO_11, HB⟩ := hrel
          have hl7_2 := (Kd.R_reads' HO_7.out).1
          rw [hl7_2] at HO_7
          (try simp only [hl7_2])
          (try simp only [hl7_2] at HO_11)
          have hl11_2 := (Kd.S_reads' HO_11.out).1
          rw [hl11_2] at HO_11
          (try simp only [hl11_2])
          (try simp only [hl11_2] at HO_7)
          cases gk with
          | zero => exact absurd HA.out (by simp [spileref33_AtLeast.l1])
          | succ k2 =>
           have H := HA.out
           clear HA
           simp only [spileref33_AtLeast.l1] at H
           by_cases c29 : x13_2 < (x7_2.length : Int)
           ·rw [if_pos c29] at H
            have c29b0 : decide (x13_2 < (x7_2.length : Int)) = true := decide_eq_true c29
            clear c29
            have H' := Aside0.mk H
            clear H
            go_wp2
            go_loopg [14] k2 (fun kq v14 w' => ∃ (x7_3 : List Int) (x11_3 : List (List Int)) (x14_3 : Int), v14 = .int .i64 x14_3 ∧ Aside0 (spileref33_AtLeast.l2 kq l0 x7_3 t423 t424 x11_3 x13_2 x14_3 = some (r1, r2, r3)) ∧ Aside0 (kq ≤ k2) ∧ Aside0 (Kd.R (Kd.int .i64) 3 w' w.heap.size (fun _ => True) (.slice Ao11 x7_2.length co11) x7_3) ∧ Aside0 (Kd.S (Kd.slice 3 (Kd.int .i64)) 31 w' w.heap.size (fun k_ => some k_ ≠ ((.slice Ao11 x7_2.length co11) : Value).ownBlock) (.slice (some ad434) x11_2.length co26) x11_3) ∧ Aside0 (Below w.heap.size w w'))
            case atStart => exact ⟨(x7_2), (x11_2), ((l0.length : Int)), (by first | rfl | (simp; done) | (simp [*]; done)), H', ⟨Nat.le_refl _⟩, ⟨by (try simp only [hl7_2]); (try simp only [hl11_2]); (with_reducible repeat (first | apply Kd.R_alloc | apply Kd.R_drewN | apply Kd.R_drew)); exact HO_7.out⟩, ⟨by (try simp only [hl7_2]); (try simp only [hl11_2]); (with_reducible repeat (first | apply Kd.S_alloc | apply Kd.S_drewN | apply Kd.S_drew)); exact HO_11.out⟩, ⟨GS.lB HB.out⟩⟩
            case round =>
             clear H'
             try clear c1
             try clear q1
             try clear c2
             try clear p2
             try clear q2
             try clear hx2
             try clear qi2
             try clear hf2
             try clear c4
             try clear c4b0
             try clear c4b1
             try clear p4
             try clear q4
             try clear hx4
             try clear qi4
             try clear c5
             try clear c5b0
             try clear c5b1
             try clear c6
             try clear c6b0
             try clear c6b1
             try clear p6
             try clear q10
             try clear c14
             try clear c14b0
             try clear c16
             try clear c16b0
             try clear c16b1
             try clear c17
             try clear c17b0
             try clear c17b1
             try clear c18
             try clear c23
             try clear c23b0
             try clear c23b1
             try clear c24
             try clear c24b0
             try clear c24b1
             try clear p25
             try clear q25
             try clear hx25
             try clear qi25
             try clear hf25
             try clear c27
             try clear q27
             try clear c29
             try clear c29b0
             try clear hx25_0
             try clear hx434_0
             try clear p2
             try clear p25
             try clear p4
             try clear p434
             try clear p6
             try clear q1
             try clear q10
             try clear q2
             try clear q25
             try clear q27
             try clear q4
             try clear q434
             obtain ⟨x7_3, x11_3, x14_3, rfl, HA, HK3, HO_7, HO_11, HB⟩ := hrel
             have hl7_3 := (Kd.R_reads' HO_7.out).1
             rw [hl7_3] at HO_7
             (try simp only [hl7_3])
             (try simp only [hl7_3] at HO_11)
             have hl11_3 := (Kd.S_reads' HO_11.out).1
             rw [hl11_3] at HO_11
             (try simp only [hl11_3])
             (try simp only [hl11_3] at HO_7)
             cases gk with
             | zero => exact absurd HA.out (by simp [spileref33_AtLeast.l2])
             | succ k3 =>
              have H := HA.out
              clear HA
              simp only [spileref33_AtLeast.l2] at H
              by_cases c30 : x14_3 > 0
              ·rw [if_pos c30] at H
               have c30b0 : decide (0 < x14_3) = true := decide_eq_true c30
               clear c30
               have H' := Aside0.mk H
               clear H
               go_wp2
               go_loopg [15] k3 (fun kq v15 w' => ∃ (x7_4 : List Int) (x11_4 : List (List Int)) (x15_4 : Int), v15 = .int .i64 x15_4 ∧ Aside0 (spileref33_AtLeast.l3 kq l0 x7_4 t423 t424 x11_4 x13_2 x14_3 x15_4 = some (r1, r2, r3)) ∧ Aside0 (kq ≤ k3) ∧ Aside0 (Kd.R (Kd.int .i64) 3 w' w.heap.size (fun _ => True) (.slice Ao11 x7_3.length co11) x7_4) ∧ Aside0 (Kd.S (Kd.slice 3 (Kd.int .i64)) 31 w' w.heap.size (fun k_ => some k_ ≠ ((.slice Ao11 x7_3.length co11) : Value).ownBlock) (.slice (some ad434) x11_3.length co26) x11_4) ∧ Aside0 (Below w.heap.size w w'))
               case atStart => exact ⟨(x7_3), (x11_3), (t424), (by first | rfl | (simp; done) | (simp [*]; done)), H', ⟨Nat.le_refl _⟩, ⟨by (try simp only [hl7_2]); (try simp only [hl11_2]); (try simp only [hl7_3]); (try simp only [hl11_3]); (with_reducible repeat (first | apply Kd.R_alloc | apply Kd.R_drewN | apply Kd.R_drew)); exact HO_7.out⟩, ⟨by (try simp only [hl7_2]); (try simp only [hl11_2]); (try simp only [hl7_3]); (try simp only [hl11_3]); (with_reducible repeat (first | apply Kd.S_alloc | apply Kd.S_drewN | apply Kd.S_drew)); exact HO_11.out⟩, ⟨GS.lB HB.out⟩⟩
               case round =>
                clear H'
                try clear c1
                try clear q1
                try clear c2
                try clear p2
                try clear q2
                try clear hx2
                try clear qi2
                try clear hf2
                try clear c3
                try clear c4
                try clear c4b0
                try clear c4b1
                try clear p4
                try clear q4
                try clear hx4
                try clear qi4
                try clear c5
                try clear c5b0
                try clear c5b1
                try clear c6
                try clear c6b0
                try clear c6b1
                try clear p6
                try clear q10
                try clear c14
                try clear c14b0
                try clear c16
                try clear c16b0
                try clear c16b1
                try clear c17
                try clear c17b0
                try clear c17b1
                try clear c18
                try clear c23
                try clear c23b0
                try clear c23b1
                try clear c24
                try clear c24b0
                try clear c24b1
                try clear p25
                try clear q25
                try clear hx25
                try clear qi25
                try clear hf25
                try clear c27
                try clear q27
                try clear c29
                try clear c29b0
                try clear c30
                try clear c30b0
                try clear hx25_0
                try clear hx434_0
                try clear p2
                try clear p25
                try clear p4
                try clear p434
                try clear p6
                try clear q1
                try clear q10
                try clear q2
                try clear q25
                try clear q27
                try clear q4
                try clear q434
                obtain ⟨x7_4, x11_4, x15_4, rfl, HA, HK4, HO_7, HO_11, HB⟩ := hrel
                have hl7_4 := (Kd.R_reads' HO_7.out).1
                rw [hl7_4] at HO_7
                (try simp only [hl7_4])
                (try simp only [hl7_4] at HO_11)
                have hl11_4 := (Kd.S_reads' HO_11.out).1
                rw [hl11_4] at HO_11
                (try simp only [hl11_4])
                (try simp only [hl11_4] at HO_7)
                cases gk with
                | zero => exact absurd HA.out (by simp [spileref33_AtLeast.l3])
                | succ k4 =>
                 have H := HA.out
                 clear HA
                 simp only [spileref33_AtLeast.l3] at H
                 by_cases c31 : 0 ≤ x13_2
                 ·rw [if_pos c31] at H
                  have c31b0 : decide (0 ≤ x13_2) = true := decide_eq_true c31
                  clear c31
                  by_cases c32 : x13_2 < (x7_4.length : Int)
                  ·rw [if_pos c32] at H
                   have c32b0 : decide (x13_2 < (x7_4.length : Int)) = true := decide_eq_true c32
                   clear c32
                   by_cases c33 : x15_4 ≥ (rd x7_4 x13_2)
                   ·rw [if_pos c33] at H
                    have c33b0 : decide ((rd x7_4 x13_2) ≤ x15_4) = true := decide_eq_true c33
                    clear c33
                    by_cases c34 : 0 ≤ x14_3
                    ·rw [if_pos c34] at H
                     have c34b0 : decide (0 ≤ x14_3) = true := decide_eq_true c34
                     clear c34
                     by_cases c35 : x14_3 < (x11_4.length : Int)
                     ·rw [if_pos c35] at H
                      have c35b0 : decide (x14_3 < (x11_4.length : Int)) = true := decide_eq_true c35
                      clear c35
                      by_cases c36 : 0 ≤ x15_4
                      ·rw [if_pos c36] at H
                       have c36b0 : decide (0 ≤ x15_4) = true := decide_eq_true c36
                       clear c36
                       by_cases c37 : x15_4 < ((rd_L3 x11_4 x14_3).length : Int)
                       ·rw [if_pos c37] at H
                        have c37b0 : decide (x15_4 < ((rd_L3 x11_4 x14_3).length : Int)) = true := decide_eq_true c37
                        clear c37
                        obtain ⟨ji38, hji38⟩ : ∃ j_ : Int, (wrap64 (x14_3 - 1)) = j_ := ⟨_, rfl⟩
                        replace H : (if 0 ≤ (ji38) then (if (ji38) < (x11_4.length : Int) then (if 0 ≤ (wrap64 (x15_4 - (rd x7_4 x13_2))) then (if (wrap64 (x15_4 - (rd x7_4 x13_2))) < ((rd_L3 x11_4 (ji38)).length : Int) then (spileref33_AtLeast.l3 k4 l0 x7_4 t423 t424 (x11_4.set (x14_3 : Int).toNat ((rd_L3 x11_4 x14_3).set (x15_4 : Int).toNat (wrap64 ((rd (rd_L3 x11_4 x14_3) x15_4) + (rd (rd_L3 x11_4 (ji38)) (wrap64 (x15_4 - (rd x7_4 x13_2)))))))) x13_2 x14_3 (wrap64 (x15_4 - 1))) else (none)) else (none)) else (none)) else (none)) = some (r1, r2, r3) := by first | (rw [hji38] at H; exact H) | (simp only [hji38] at H ⊢; exact H)
                        have hji38w : (IntKind.i64.wrap (x14_3 - 1)) = ji38 := (i64_w _).trans hji38
                        by_cases c39 : 0 ≤ (ji38)
                        ·rw [if_pos c39] at H
                         have c39b0 : decide (0 ≤ (ji38)) = true := decide_eq_true c39
                         clear c39
                         by_cases c40 : (ji38) < (x11_4.length : Int)
                         ·rw [if_pos c40] at H
                          have c40b0 : decide ((ji38) < (x11_4.length : Int)) = true := decide_eq_true c40
                          clear c40
                          obtain ⟨ji41, hji41⟩ : ∃ j_ : Int, (wrap64 (x15_4 - (rd x7_4 x13_2))) = j_ := ⟨_, rfl⟩
                          replace H : (if 0 ≤ (ji41) then (if (ji41) < ((rd_L3 x11_4 (ji38)).length : Int) then (spileref33_AtLeast.l3 k4 l0 x7_4 t423 t424 (x11_4.set (x14_3 : Int).toNat ((rd_L3 x11_4 x14_3).set (x15_4 : Int).toNat (wrap64 ((rd (rd_L3 x11_4 x14_3) x15_4) + (rd (rd_L3 x11_4 (ji38)) (ji41)))))) x13_2 x14_3 (wrap64 (x15_4 - 1))) else (none)) else (none)) = some (r1, r2, r3) := by first | (rw [hji41] at H; exact H) | (simp only [hji41] at H ⊢; exact H)
                          have hji41w : (IntKind.i64.wrap (x15_4 - (rd x7_4 x13_2))) = ji41 := (i64_w _).trans hji41
                          by_cases c42 : 0 ≤ (ji41)
                          ·rw [if_pos c42] at H
                           have c42b0 : decide (0 ≤ (ji41)) = true := decide_eq_true c42
                           clear c42
                           by_cases c43 : (ji41) < ((rd_L3 x11_4 (ji38)).length : Int)
                           ·rw [if_pos c43] at H
                            have c43b0 : decide ((ji41) < ((rd_L3 x11_4 (ji38)).length : Int)) = true := decide_eq_true c43
                            clear c43
                            obtain ⟨y445, hy445⟩ : ∃ y_ : List Int, y_ = ((rd_L3 x11_4 x14_3).set (x15_4 : Int).toNat (wrap64 ((rd (rd_L3 x11_4 x14_3) x15_4) + (rd (rd_L3 x11_4 (ji38)) (ji41))))) := ⟨_, rfl⟩
                            replace H : (spileref33_AtLeast.l3 k4 l0 x7_4 t423 t424 (x11_4.set (x14_3 : Int).toNat y445) x13_2 x14_3 (wrap64 (x15_4 - 1))) = some (r1, r2, r3) := by first | (rw [hy445]; with_reducible exact H) | (have H2_ := (Option.bind_some _ _).symm.trans H; rw [hy445]; with_reducible exact H2_) | (have H2_ := (Option.bind_some _ _).symm.trans H; with_reducible exact H2_) | with_reducible exact H | (rw [hy445]; exact H) | exact H
                            have Ny445 := Aside0.mk hy445
                            clear hy445
                            obtain ⟨y447, hy447⟩ : ∃ y_ : List (List Int), y_ = (x11_4.set (x14_3 : Int).toNat y445) := ⟨_, rfl⟩
                            replace H : (spileref33_AtLeast.l3 k4 l0 x7_4 t423 t424 y447 x13_2 x14_3 (wrap64 (x15_4 - 1))) = some (r1, r2, r3) := by first | (rw [hy447]; with_reducible exact H) | (have H2_ := (Option.bind_some _ _).symm.trans H; rw [hy447]; with_reducible exact H2_) | (have H2_ := (Option.bind_some _ _).symm.trans H; with_reducible exact H2_) | with_reducible exact H | (rw [hy447]; exact H) | exact H
                            have Ny447 := Aside0.mk hy447
                            clear hy447
                            have H' := Aside0.mk H
                            clear H
                            have p438 : 0 ≤ (x13_2 : Int) := of_decide_eq_true (by first | (with_reducible assumption) | assumption)
                            have q438 : x13_2 < (x7_4.length : Int) := of_decide_eq_true (by first | (with_reducible assumption) | assumption)
                            obtain ⟨ad438, e438, hx438_0⟩ := Kd.at_int (Kd.R_reads' HO_7.out).2.2 x13_2 p438 q438
                            cases e438
                            replace p438 := eq_true p438
                            replace q438 := eq_true q438
                            try go_wp2
                            have n0_ := Aside0.mk (Kd.R_drew HO_7.out)
                            have n1_ := Aside0.mk (Kd.S_drew HO_11.out)
                            have n2_ := Aside0.mk (lqD HB.out)
                            clear HO_7
                            clear HO_11
                            clear HB
                            have HO_7 := n0_
                            have HO_11 := n1_
                            have HB := n2_
                            clear n0_ n1_ n2_
                            have p439 : 0 ≤ (x14_3 : Int) := of_decide_eq_true (by first | (with_reducible assumption) | assumption)
                            have q439 : x14_3 < (x11_4.length : Int) := of_decide_eq_true (by first | (with_reducible assumption) | assumption)
                            obtain ⟨ad439, A439_0, c439_0, e439, hx439_0, hl439_0, hi439_0⟩ := at_L3 (Kd.S_reads' HO_11.out).2.2 x14_3 p439 q439
                            obtain rfl : ad434 = ad439 := (by injection e439)
                            obtain ⟨ce439, hce439, hMe439, hcc439⟩ := Kd.S_get HO_11.out [] x14_3 p439 (by first | exact q439 | exact of_decide_eq_true (by first | (with_reducible assumption) | assumption) | (have e_ := (Kd.S_reads' HO_11.out).1; omega))
                            obtain ⟨ve439_0, rfl, ge439_0⟩ := hMe439
                            have hv439_0 := hcc439 0 _ rfl
                            rw [Nat.add_zero, show ((Kd.slice 3 (Kd.int .i64))).sz = 1 from rfl, Nat.mul_one] at hv439_0
                            replace hv439_0 := Option.some.inj (hv439_0.symm.trans hx439_0)
                            rw [hv439_0] at ge439_0
                            have HL439_0 := Aside0.mk (show Kd.R (Kd.int .i64) 3 _ _ _ _ (rd_L3 x11_4 x14_3) from ge439_0)
                            clear hv439_0 ge439_0
                            have HX439_0 := Aside0.mk hx439_0
                            clear hcc439 hce439
                            have HR439_0 := Aside0.mk hi439_0
                            have HC439_0 := Aside0.mk hl439_0
                            clear hi439_0 hl439_0
                            replace p439 := eq_true p439
                            replace q439 := eq_true q439
                            have p440 : 0 ≤ (x14_3 : Int) := of_decide_eq_true (by first | (with_reducible assumption) | assumption)
                            have q440 : x14_3 < (x11_4.length : Int) := of_decide_eq_true (by first | (with_reducible assumption) | assumption)
                            obtain ⟨ad440, A440_0, c440_0, e440, hx440_0, hl440_0, hi440_0⟩ := at_L3 (Kd.S_reads' HO_11.out).2.2 x14_3 p440 q440
                            obtain rfl : ad434 = ad440 := (by injection e440)
                            obtain ⟨ce440, hce440, hMe440, hcc440⟩ := Kd.S_get HO_11.out [] x14_3 p440 (by first | exact q440 | exact of_decide_eq_true (by first | (with_reducible assumption) | assumption) | (have e_ := (Kd.S_reads' HO_11.out).1; omega))
                            obtain ⟨ve440_0, rfl, ge440_0⟩ := hMe440
                            have hv440_0 := hcc440 0 _ rfl
                            rw [Nat.add_zero, show ((Kd.slice 3 (Kd.int .i64))).sz = 1 from rfl, Nat.mul_one] at hv440_0
                            replace hv440_0 := Option.some.inj (hv440_0.symm.trans hx440_0)
                            rw [hv440_0] at ge440_0
                            have HL440_0 := Aside0.mk (show Kd.R (Kd.int .i64) 3 _ _ _ _ (rd_L3 x11_4 x14_3) from ge440_0)
                            clear hv440_0 ge440_0
                            have HX440_0 := Aside0.mk hx440_0
                            clear hcc440 hce440
                            have HR440_0 := Aside0.mk hi440_0
                            have HC440_0 := Aside0.mk hl440_0
                            clear hi440_0 hl440_0
                            replace p440 := eq_true p440
                            replace q440 := eq_true q440
                            have ea_ := Option.some.inj (hx439_0.symm.trans hx440_0)
                            injection ea_ with ea_ en_ ec_
                            subst ea_
                            subst ec_
                            clear en_
                            have p441 : 0 ≤ (x15_4 : Int) := of_decide_eq_true (by first | (with_reducible assumption) | assumption)
                            have q441 : x15_4 < ((rd_L3 x11_4 x14_3).length : Int) := of_decide_eq_true (by first | (with_reducible assumption) | assumption)
                            obtain ⟨ad441, e441, hx441_0⟩ := Kd.at_int (by repeat (first | (with_reducible exact HR440_0.out) | (with_reducible refine Kd.C_alloc ?_ _) | (with_reducible refine Kd.C_drewN ?_ _) | (with_reducible refine Kd.C_drew ?_) | exact HR440_0.out)) x15_4 p441 q441
                            cases e441
                            replace p441 := eq_true p441
                            replace q441 := eq_true q441
                            have p442 : 0 ≤ ((ji38) : Int) := of_decide_eq_true (by first | (with_reducible assumption) | assumption)
                            have q442 : (ji38) < (x11_4.length : Int) := of_decide_eq_true (by first | (with_reducible assumption) | assumption)
                            obtain ⟨ad442, A442_0, c442_0, e442, hx442_0, hl442_0, hi442_0⟩ := at_L3 (Kd.S_reads' HO_11.out).2.2 (ji38) p442 q442
                            obtain rfl : ad434 = ad442 := (by injection e442)
                            obtain ⟨ce442, hce442, hMe442, hcc442⟩ := Kd.S_get HO_11.out [] (ji38) p442 (by first | exact q442 | exact of_decide_eq_true (by first | (with_reducible assumption) | assumption) | (have e_ := (Kd.S_reads' HO_11.out).1; omega))
                            obtain ⟨ve442_0, rfl, ge442_0⟩ := hMe442
                            have hv442_0 := hcc442 0 _ rfl
                            rw [Nat.add_zero, show ((Kd.slice 3 (Kd.int .i64))).sz = 1 from rfl, Nat.mul_one] at hv442_0
                            replace hv442_0 := Option.some.inj (hv442_0.symm.trans hx442_0)
                            rw [hv442_0] at ge442_0
                            have HL442_0 := Aside0.mk (show Kd.R (Kd.int .i64) 3 _ _ _ _ (rd_L3 x11_4 (ji38)) from ge442_0)
                            clear hv442_0 ge442_0
                            have HX442_0 := Aside0.mk hx442_0
                            clear hcc442 hce442
                            have HR442_0 := Aside0.mk hi442_0
                            have HC442_0 := Aside0.mk hl442_0
                            clear hi442_0 hl442_0
                            replace p442 := eq_true p442
                            replace q442 := eq_true q442
                            have p443 : 0 ≤ (x13_2 : Int) := of_decide_eq_true (by first | (with_reducible assumption) | assumption)
                            have q443 : x13_2 < (x7_4.length : Int) := of_decide_eq_true (by first | (with_reducible assumption) | assumption)
                            obtain ⟨ad443, e443, hx443_0⟩ := Kd.at_int (Kd.R_reads' HO_7.out).2.2 x13_2 p443 q443
                            obtain rfl : ad438 = ad443 := (by injection e443)
                            replace p443 := eq_true p443
                            replace q443 := eq_true q443
                            have p444 : 0 ≤ ((ji41) : Int) := of_decide_eq_true (by first | (with_reducible assumption) | assumption)
                            have q444 : (ji41) < ((rd_L3 x11_4 (ji38)).length : Int) := of_decide_eq_true (by first | (with_reducible assumption) | assumption)
                            obtain ⟨ad444, e444, hx444_0⟩ := Kd.at_int (by repeat (first | (with_reducible exact HR442_0.out) | (with_reducible refine Kd.C_alloc ?_ _) | (with_reducible refine Kd.C_drewN ?_ _) | (with_reducible refine Kd.C_drew ?_) | exact HR442_0.out)) (ji41) p444 q444
                            cases e444
                            replace p444 := eq_true p444
                            replace q444 := eq_true q444
                            have p44 : 0 ≤ (x15_4 : Int) := of_decide_eq_true (by first | (with_reducible assumption) | assumption)
                            have q44 : (x15_4 : Int) < (((rd_L3 x11_4 x14_3).length : Int) : Int) := of_decide_eq_true (by first | (with_reducible assumption) | assumption)
                            obtain ⟨go44, co44, eo44, gb44, gl44, cl44, HG44⟩ := Kd.R_form HL439_0.out (by omega)
                            (first | cases eo44 | (injection eo44 with ea_ en_ ec_; (first | subst ea_ | (injection ea_ with ea_; subst ea_)); subst ec_; clear en_))
                            have GB44 := Aside0.mk gb44
                            have GG44 := Aside0.mk HG44
                            clear gb44 gl44 HG44
                            (first | simp only [add_plain] at hx441_0 | skip)
                            obtain ⟨hx44_0, hf44_0⟩ := Kd.R_celln 0 HL439_0.out (x15_4 : Int) p44 q44
                            replace p44 := eq_true p44
                            replace q44 := eq_true q44
                            have hq46 : (x14_3 : Int) < (x11_4.length : Int) := (by have h_ : (x14_3 : Int) < ((x11_4.length : Int) : Int) := of_decide_eq_true (by first | (with_reducible assumption) | assumption); first | exact h_ | (have e_ := (Kd.S_reads' HO_11.out).1; omega) | simpa only [List.length_set, List.length_set] using h_)
                            obtain ⟨oki46, ce46, hcl46, hM46, hcc46, hok46, hbk46⟩ := Kd.S_borrow HO_11.out [] (x14_3 : Int) (of_decide_eq_true (by first | (with_reducible assumption) | assumption)) hq46
                            obtain ⟨ve46_0, rfl, ge46_0⟩ := hM46
                            have hv46 := hcc46 0 _ rfl
                            rw [Nat.add_zero, show ((Kd.slice 3 (Kd.int .i64))).sz = 1 from rfl, Nat.mul_one] at hv46
                            replace hv46 := Option.some.inj (hv46.symm.trans HX439_0.out)
                            subst hv46
                            clear hcc46 hcl46
                            replace ge46_0 := (show Kd.R (Kd.int .i64) 3 _ _ _ _ (rd_L3 x11_4 x14_3) from ge46_0)
                            have HP46 := Kd.R_putg ge46_0 (x15_4 : Int) (wrap64 ((rd (rd_L3 x11_4 x14_3) x15_4) + (rd (rd_L3 x11_4 (ji38)) (ji41))))
                            rw [← Ny445.out] at HP46
                            have HS46 := hbk46 HP46.2 (fun k_ e_ => by injection e_ with e_; subst e_; exact ge46_0.1 _ rfl) (x' := y445) (Kd.M_row HP46.1)
                            rw [← Ny447.out] at HS46
                            have HQ46 := Aside0.mk HS46
                            clear HP46 HS46 hbk46 hok46
                            refine start_ (n := 28) (S := fun w' => w'.cell? (ad434.add (x14_3).toNat) = some (.slice (some ⟨go44, 0, none⟩) (rd_L3 x11_4 x14_3).length c439_0) ∧ w'.cell? (ad434.add (x14_3).toNat) = some (.slice (some ⟨go44, 0, none⟩) (rd_L3 x11_4 x14_3).length c439_0) ∧ w'.cell? ⟨go44, (x15_4).toNat, none⟩ = some (.int .i64 (rd (rd_L3 x11_4 x14_3) x15_4)) ∧ w'.cell? (ad434.add ((ji38)).toNat) = some (.slice (some ad444) (rd_L3 x11_4 (ji38)).length c442_0) ∧ w'.cell? (ad438.add (x13_2).toNat) = some (.int .i64 (rd x7_4 x13_2)) ∧ w'.cell? (ad444.add ((ji41)).toNat) = some (.int .i64 (rd (rd_L3 x11_4 (ji38)) (ji41)))) (ds := [27]) #[false, false, false, false, false, false, false, false, false, false, false, false, false, false, false, false, false, false, false, false, false, false, false, false, false, false, false, false] (by kernel_rfl) rfl rfl ⟨hx439_0, hx440_0, hx441_0, hx442_0, hx443_0, hx444_0⟩ (fun hHeld => ?_); refine with_tabW spileref33_AtLeast.tab20 spileref33_AtLeast.bits20 (fun HT_ HW_ => ?_)
                            generalize wr.drew = w45 at HO_7 HO_11 HB GG44 HL439_0 HL440_0 HL442_0 HQ46 HR439_0 HR440_0 HR442_0 HX439_0 HX440_0 HX442_0 hf44_0 hx439_0 hx440_0 hx441_0 hx442_0 hx443_0 hx444_0 hx44_0 hHeld ⊢
                            refine GS.pu 0 (some 72) HT_.out ?_
                            refine GS.pu 1 (some 73) HT_.out ?_
                            refine GS.pu 2 (some 74) HT_.out ?_
                            refine GS.pu 4 (some 76) HT_.out ?_
                            refine GS.pu 5 (some 77) HT_.out ?_
                            refine GS.pu 6 (some 78) HT_.out ?_
                            refine GS.pu 7 (some 79) HT_.out ?_
                            refine GS.pu 9 (some 81) HT_.out ?_
                            refine GS.pu 12 (some 84) HT_.out ?_
                            refine GS.pu 13 (some 85) HT_.out ?_
                            refine GS.pu 14 (some 86) HT_.out ?_
                            refine GS.pu 15 (some 87) HT_.out ?_
                            refine GS.pu 17 (some 89) HT_.out ?_
                            refine GS.pu 18 (some 90) HT_.out ?_
                            refine GS.pu 19 (some 91) HT_.out ?_
                            refine GS.pu 20 (some 92) HT_.out ?_
                            refine GS.tk 3 (some 75) HT_.out HW_.out hHeld ?_
                            refine GS.tk 8 (some 80) HT_.out HW_.out hHeld ?_
                            refine GS.pu 10 (some 82) HT_.out ?_
                            refine GS.tk 11 (some 83) HT_.out HW_.out hHeld ?_
                            refine GS.tk 16 (some 88) HT_.out HW_.out hHeld ?_
                            refine GS.tk 21 (some 93) HT_.out HW_.out hHeld ?_
                            refine GS.pu 22 (some 94) HT_.out ?_
                            refine GS.pu 23 (some 95) HT_.out ?_
                            refine GS.tk 24 (some 96) HT_.out HW_.out hHeld ?_
                            refine GS.pu 25 (some 97) HT_.out ?_
                            refine GS.pu 26 (some 98) HT_.out ?_
                            refine last_ (i := 27) (N := none) #[true, true, true, true, true, true, true, true, true, true, true, true, true, true, true, true, true, true, true, true, true, true, true, true, true, true, true, true] rfl rfl (one_of HT_.out (by kernel_rfl)) (by decide) (fun K hK => ?_)
                            refine skip_ (w1 := ?_) (by rfl) rfl ?_ ?_
                            rotate_left
                            ·go_simp
                             rfl
                            refine hK.out _ _ ?_
                            clear hK K
                            refine done_ (done_of HT_.out (by kernel_rfl)) ?_
                            try go_wp2
                            (try simp only [← hl7_4, ← hl11_4])
                            go_roundg k4
                            case measure => have := HK1.out; have := HK2.out; have := HK3.out; have := HK4.out; omega
                            case rel => exact ⟨(x7_4), (y447), (wrap64 (x15_4 - 1)), (by first | rfl | (simp; done) | (simp [*]; done)), H', ⟨by have := HK1.out; have := HK2.out; have := HK3.out; have := HK4.out; omega⟩, ⟨by (try simp only [hl7_2]); (try simp only [hl11_2]); (try simp only [hl7_3]); (try simp only [hl11_3]); (try simp only [hl7_4]); (try simp only [hl11_4]); (with_reducible repeat (first | apply Kd.R_alloc | apply Kd.R_drewN | apply Kd.R_drew)); exact Kd.R_mono (Kd.R_far (p := ⟨go44, (x15_4 : Int).toNat, none⟩) (Kd.R_far1 HO_7.out rfl ((HL439_0.out.1 _ rfl).1)) (fun _ hk => hk.2) (.int .i64 (wrap64 ((rd (rd_L3 x11_4 x14_3) x15_4) + (rd (rd_L3 x11_4 (ji38)) (ji41)))))) (fun _ hk => trivial)⟩, ⟨by (try simp only [hl7_2]); (try simp only [hl11_2]); (try simp only [hl7_3]); (try simp only [hl11_3]); (try simp only [hl7_4]); (try simp only [hl11_4]); (with_reducible repeat (first | apply Kd.S_alloc | apply Kd.S_drewN | apply Kd.S_drew)); exact HQ46.out⟩, ⟨by repeat (first | (with_reducible first | exact HB.out | apply lqA | apply lqN | apply lqD | refine lqS ?_ GB44.out) | exact HB.out)⟩⟩
                           ·rw [if_neg c43] at H
                            exact absurd H (by simp)
                          ·rw [if_neg c42] at H
                           exact absurd H (by simp)
                         ·rw [if_neg c40] at H
                          exact absurd H (by simp)
                        ·rw [if_neg c39] at H
                         exact absurd H (by simp)
                       ·rw [if_neg c37] at H
                        exact absurd H (by simp)
                      ·rw [if_neg c36] at H
                       exact absurd H (by simp)
                     ·rw [if_neg c35] at H
                      exact absurd H (by simp)
                    ·rw [if_neg c34] at H
                     exact absurd H (by simp)
                   ·rw [if_neg c33] at H
                    have c33b0 : decide ((rd x7_4 x13_2) ≤ x15_4) = false := decide_eq_false c33
                    clear c33
                    have H' := Aside0.mk H
                    clear H
                    have p438 : 0 ≤ (x13_2 : Int) := of_decide_eq_true (by first | (with_reducible assumption) | assumption)
                    have q438 : x13_2 < (x7_4.length : Int) := of_decide_eq_true (by first | (with_reducible assumption) | assumption)
                    obtain ⟨ad438, e438, hx438_0⟩ := Kd.at_int (Kd.R_reads' HO_7.out).2.2 x13_2 p438 q438
                    cases e438
                    replace p438 := eq_true p438
                    replace q438 := eq_true q438
                    go_wp2
                    (try simp only [← hl7_3, ← hl11_3, ← hl7_4, ← hl11_4])
                    go_roundg k4
                    case measure => have := HK1.out; have := HK2.out; have := HK3.out; have := HK4.out; omega
                    case rel => exact ⟨(x7_4), (x11_4), (wrap64 (x14_3 - 1)), (by first | rfl | (simp; done) | (simp [*]; done)), H', ⟨by have := HK1.out; have := HK2.out; have := HK3.out; have := HK4.out; omega⟩, ⟨by (try simp only [hl7_2]); (try simp only [hl11_2]); (try simp only [hl7_3]); (try simp only [hl11_3]); (try simp only [hl7_4]); (try simp only [hl11_4]); (with_reducible repeat (first | apply Kd.R_alloc | apply Kd.R_drewN | apply Kd.R_drew)); exact HO_7.out⟩, ⟨by (try simp only [hl7_2]); (try simp only [hl11_2]); (try simp only [hl7_3]); (try simp only [hl11_3]); (try simp only [hl7_4]); (try simp only [hl11_4]); (with_reducible repeat (first | apply Kd.S_alloc | apply Kd.S_drewN | apply Kd.S_drew)); exact HO_11.out⟩, ⟨GS.lB HB.out⟩⟩
                  ·rw [if_neg c32] at H
                   exact absurd H (by simp)
                 ·rw [if_neg c31] at H
                  exact absurd H (by simp)
              ·rw [if_neg c30] at H
               have c30b0 : decide (0 < x14_3) = false := decide_eq_false c30
               clear c30
               have H' := Aside0.mk H
               clear H
               go_wp2
               (try simp only [← hl7_2, ← hl11_2, ← hl7_3, ← hl11_3])
               go_roundg k3
               case measure => have := HK1.out; have := HK2.out; have := HK3.out; omega
               case rel => exact ⟨(x7_3), (x11_3), (wrap64 (x13_2 + 1)), (by first | rfl | (simp; done) | (simp [*]; done)), H', ⟨by have := HK1.out; have := HK2.out; have := HK3.out; omega⟩, ⟨by (try simp only [hl7_2]); (try simp only [hl11_2]); (try simp only [hl7_3]); (try simp only [hl11_3]); (with_reducible repeat (first | apply Kd.R_alloc | apply Kd.R_drewN | apply Kd.R_drew)); exact HO_7.out⟩, ⟨by (try simp only [hl7_2]); (try simp only [hl11_2]); (try simp only [hl7_3]); (try simp only [hl11_3]); (with_reducible repeat (first | apply Kd.S_alloc | apply Kd.S_drewN | apply Kd.S_drew)); exact HO_11.out⟩, ⟨GS.lB HB.out⟩⟩
           ·rw [if_neg c29] at H
            have c29b0 : decide (x13_2 < (x7_2.length : Int)) = false := decide_eq_false c29
            clear c29
            have H' := Aside0.mk H
            clear H
            go_wp2
            go_loopg [16, 17] k2 (fun kq v16 v17 w' => ∃ (x16_3 : Int) (x17_3 : Int), v16 = .int .i64 x16_3 ∧ v17 = .int .i64 x17_3 ∧ Aside0 (spileref33_AtLeast.l4 kq l0 x7_2 t424 x11_2 x16_3 x17_3 = some (r1, r2, r3)) ∧ Aside0 (kq ≤ k2) ∧ Aside0 (Kd.R (Kd.int .i64) 3 w' w.heap.size (fun _ => True) (.slice Ao11 x7_2.length co11) x7_2) ∧ Aside0 (Kd.S (Kd.slice 3 (Kd.int .i64)) 31 w' w.heap.size (fun k_ => some k_ ≠ ((.slice Ao11 x7_2.length co11) : Value).ownBlock) (.slice (some ad434) x11_2.length co26) x11_2) ∧ Aside0 (Below w.heap.size w w'))
            case atStart => exact ⟨(0), (t423), (by first | rfl | (simp; done) | (simp [*]; done)), (by first | rfl | (simp; done) | (simp [*]; done)), H', ⟨Nat.le_refl _⟩, ⟨by (try simp only [hl7_2]); (try simp only [hl11_2]); (with_reducible repeat (first | apply Kd.R_alloc | apply Kd.R_drewN | apply Kd.R_drew)); exact HO_7.out⟩, ⟨by (try simp only [hl7_2]); (try simp only [hl11_2]); (with_reducible repeat (first | apply Kd.S_alloc | apply Kd.S_drewN | apply Kd.S_drew)); exact HO_11.out⟩, ⟨GS.lB HB.out⟩⟩
            case round =>
             clear H'
             try clear c1
             try clear q1
             try clear c2
             try clear p2
             try clear q2
             try clear hx2
             try clear qi2
             try clear hf2
             try clear c3
             try clear c4
             try clear c4b0
             try clear c4b1
             try clear p4
             try clear q4
             try clear hx4
             try clear qi4
             try clear hf4
             try clear c5
             try clear c5b0
             try clear c5b1
             try clear c6
             try clear c6b0
             try clear c6b1
             try clear p6
             try clear q10
             try clear c14
             try clear c14b0
             try clear c16
             try clear c16b0
             try clear c16b1
             try clear c17
             try clear c17b0
             try clear c17b1
             try clear c18
             try clear c23
             try clear c23b0
             try clear c23b1
             try clear c24
             try clear c24b0
             try clear c24b1
             try clear p25
             try clear q25
             try clear hx25
             try clear qi25
             try clear hf25
             try clear c27
             try clear q27
             try clear c29
             try clear c29b0
             try clear c30
             try clear c30b0
             try clear c31
             try clear c31b0
             try clear c32
             try clear c32b0
             try clear c33
             try clear c33b0
             try clear c34
             try clear c34b0
             try clear c35
             try clear c35b0
             try clear c36
             try clear c36b0
             try clear c37
             try clear c37b0
             try clear c39
             try clear c39b0
             try clear c40
             try clear c40b0
             try clear c42
             try clear c42b0
             try clear c43
             try clear c43b0
             try clear p43
             try clear q43
             try clear hx43
             try clear c44
             try clear p44
             try clear q44
             try clear hx44
             try clear hf44
             try clear c46
             try clear q46
             try clear hx25_0
             try clear hx434_0
             try clear hx438_0
             try clear hx439_0
             try clear hx440_0
             try clear hx441_0
             try clear hx442_0
             try clear hx443_0
             try clear hx444_0
             try clear hx44_0
             try clear p2
             try clear p25
             try clear p4
             try clear p434
             try clear p438
             try clear p439
             try clear p44
             try clear p440
             try clear p441
             try clear p442
             try clear p443
             try clear p444
             try clear p6
             try clear q1
             try clear q10
             try clear q2
             try clear q25
             try clear q27
             try clear q4
             try clear q434
             try clear q438
             try clear q439
             try clear q44
             try clear q440
             try clear q441
             try clear q442
             try clear q443
             try clear q444
             obtain ⟨x16_3, x17_3, rfl, rfl, HA, HK3, HO_7, HO_11, HB⟩ := hrel
             cases gk with
             | zero => exact absurd HA.out (by simp [spileref33_AtLeast.l4])
             | succ k3 =>
              have H := HA.out
              clear HA
              simp only [spileref33_AtLeast.l4] at H
              by_cases c48 : x17_3 ≤ t424
              ·rw [if_pos c48] at H
               have c48b0 : decide (x17_3 ≤ t424) = true := decide_eq_true c48
               clear c48
               by_cases c49 : 0 ≤ (l0.length : Int)
               ·rw [if_pos c49] at H
                have c49b0 : decide (0 ≤ (l0.length : Int)) = true := decide_eq_true c49
                have c49b1 : decide (0 ≤ l0.length) = true := decide_eq_true (by omega)
                clear c49
                by_cases c50 : (l0.length : Int) < (x11_2.length : Int)
                ·rw [if_pos c50] at H
                 have c50b0 : decide ((l0.length : Int) < (x11_2.length : Int)) = true := decide_eq_true c50
                 have c50b1 : decide (l0.length < x11_2.length) = true := decide_eq_true (Int.ofNat_lt.mp c50)
                 clear c50
                 by_cases c51 : 0 ≤ x17_3
                 ·rw [if_pos c51] at H
                  have c51b0 : decide (0 ≤ x17_3) = true := decide_eq_true c51
                  clear c51
                  by_cases c52 : x17_3 < ((rd_L3 x11_2 (l0.length : Int)).length : Int)
                  ·rw [if_pos c52] at H
                   have c52b0 : decide (x17_3 < ((rd_L3 x11_2 (l0.length : Int)).length : Int)) = true := decide_eq_true c52
                   clear c52
                   have H' := Aside0.mk H
                   clear H
                   have p448 : 0 ≤ ((l0.length : Int) : Int) := of_decide_eq_true (by first | (with_reducible assumption) | assumption)
                   have q448 : (l0.length : Int) < (x11_2.length : Int) := of_decide_eq_true (by first | (with_reducible assumption) | assumption)
                   obtain ⟨ad448, A448_0, c448_0, e448, hx448_0, hl448_0, hi448_0⟩ := at_L3 (Kd.S_reads' HO_11.out).2.2 (l0.length : Int) p448 q448
                   obtain rfl : ad434 = ad448 := (by injection e448)
                   obtain ⟨ce448, hce448, hMe448, hcc448⟩ := Kd.S_get HO_11.out [] (l0.length : Int) p448 (by first | exact q448 | exact of_decide_eq_true (by first | (with_reducible assumption) | assumption) | (have e_ := (Kd.S_reads' HO_11.out).1; omega))
                   obtain ⟨ve448_0, rfl, ge448_0⟩ := hMe448
                   have hv448_0 := hcc448 0 _ rfl
                   rw [Nat.add_zero, show ((Kd.slice 3 (Kd.int .i64))).sz = 1 from rfl, Nat.mul_one] at hv448_0
                   replace hv448_0 := Option.some.inj (hv448_0.symm.trans hx448_0)
                   rw [hv448_0] at ge448_0
                   have HL448_0 := Aside0.mk (show Kd.R (Kd.int .i64) 3 _ _ _ _ (rd_L3 x11_2 (l0.length : Int)) from ge448_0)
                   clear hv448_0 ge448_0
                   have HX448_0 := Aside0.mk hx448_0
                   clear hcc448 hce448
                   have HR448_0 := Aside0.mk hi448_0
                   have HC448_0 := Aside0.mk hl448_0
                   clear hi448_0 hl448_0
                   (try simp only [Go.IntWalk.toNatUp] at hx448_0)
                   (try simp only [hl7_2, hl11_2] at p448)
                   (try simp only [hl7_2, hl11_2] at q448)
                   (try simp only [hl7_2, hl11_2] at hx448_0)
                   replace p448 := eq_true p448
                   replace q448 := eq_true q448
                   have p449 : 0 ≤ (x17_3 : Int) := of_decide_eq_true (by first | (with_reducible assumption) | assumption)
                   have q449 : x17_3 < ((rd_L3 x11_2 (l0.length : Int)).length : Int) := of_decide_eq_true (by first | (with_reducible assumption) | assumption)
                   obtain ⟨ad449, e449, hx449_0⟩ := Kd.at_int (by repeat (first | (with_reducible exact HR448_0.out) | (with_reducible refine Kd.C_alloc ?_ _) | (with_reducible refine Kd.C_drewN ?_ _) | (with_reducible refine Kd.C_drew ?_) | exact HR448_0.out)) x17_3 p449 q449
                   cases e449
                   replace p449 := eq_true p449
                   replace q449 := eq_true q449
                   go_wp2
                   go_roundg k3
                   case measure => have := HK1.out; have := HK2.out; have := HK3.out; omega
                   case rel => exact ⟨(wrap64 (x16_3 + (rd (rd_L3 x11_2 (l0.length : Int)) x17_3))), (wrap64 (x17_3 + 1)), (by first | rfl | (simp; done) | (simp [*]; done)), (by first | rfl | (simp; done) | (simp [*]; done)), H', ⟨by have := HK1.out; have := HK2.out; have := HK3.out; omega⟩, ⟨by (try simp only [hl7_2]); (try simp only [hl11_2]); (with_reducible repeat (first | apply Kd.R_alloc | apply Kd.R_drewN | apply Kd.R_drew)); exact HO_7.out⟩, ⟨by (try simp only [hl7_2]); (try simp only [hl11_2]); (with_reducible repeat (first | apply Kd.S_alloc | apply Kd.S_drewN | apply Kd.S_drew)); exact HO_11.out⟩, ⟨GS.lB HB.out⟩⟩
                  ·rw [if_neg c52] at H
                   exact absurd H (by simp)
                 ·rw [if_neg c51] at H
                  exact absurd H (by simp)
                ·rw [if_neg c50] at H
                 exact absurd H (by simp)
               ·rw [if_neg c49] at H
                exact absurd H (by simp)
              ·rw [if_neg c48] at H
               have c48b0 : decide (x17_3 ≤ t424) = false := decide_eq_false c48
               clear c48
               replace H := Option.bind_eq_some_iff.mp H
               obtain ⟨t450, A530, H⟩ := H
               replace H : (some (x16_3, t450, 0)) = some (r1, r2, r3) := H
               have A53 := Aside0.mk A530
               clear A530
               simp only [Option.some.injEq, Prod.mk.injEq] at H
               obtain ⟨rfl, rfl, rfl⟩ := H
               go_wp2_with (first | ((with_reducible refine gqC (f := 66) rfl ?_); refine GS.gL (some 120) Try.func66 #[.int .i64 (x7_2.length : Int), .int .i64 (l0.length : Int)] ?_; (with_reducible refine (spileref33_ways.calls k3 (x7_2.length : Int) (l0.length : Int) t450 _ A53.out).mono ?_); rintro e w54 ⟨rfl, hb⟩; refine ⟨_, rfl, ?_⟩; have n0_ := Aside0.mk (Kd.R_below (GS.rR HO_7.out) hb); have n1_ := Aside0.mk (Kd.S_below (by (with_reducible repeat (first | apply Kd.S_alloc | apply Kd.S_drewN | apply Kd.S_drew)); exact HO_11.out) hb); have n2_ := Aside0.mk (lqT (GS.lB HB.out) hb); clear HO_7; clear HO_11; clear HB; have HO_7 := n0_; have HO_11 := n1_; have HB := n2_; clear n0_ n1_ n2_; (try clear hb); (try clear hb2); (try clear hk); (try clear hi)))
               go_ret3
               exact ⟨by first | rfl | (simp [errW_none, errW_some] <;> rfl) | (simp [*, errW_none, errW_some] <;> rfl), GS.lB HB.out⟩
        ·rw [if_neg c24] at H
         exact absurd H (by simp)
       ·rw [if_neg c23] at H
        exact absurd H (by simp)
   ·rw [if_neg c6] at H
    exact absurd H (by simp)
  ·rw [if_neg c5] at H
   exact absurd H (by simp)
 ·rw [if_neg c4] at H
  have c4b0 : (t416 == 0) = false := beq_eq_false_iff_ne.mpr c4
  try simp only [beq_self_eq_true, Bool.not_true, Bool.false_or, Bool.true_and] at c4b0
  have c4b1 : (t416 != 0) = true := bne_iff_ne.mpr c4
  simp only [Option.some.injEq, Prod.mk.injEq] at H
  obtain ⟨rfl, rfl, rfl⟩ := H
  go_enter Try.func46, Try.ntmps46
  go_wp2_with (first | ((with_reducible refine gqC (f := 64) rfl ?_); refine GS.gL (some 21) Try.func64 #[.slice A0 l0.length c0, .slice A1 l1.length c1] ?_; (with_reducible refine (spileref33_start.calls k _ _ l0 _ _ l1 t415 t416 _ ?side1 ?side2 ?side3 ?side4 A3.out).mono ?_); (case side1 => exact GS.rC HR0.out); (case side2 => exact HC0.out); (case side3 => exact GS.rC HR1.out); (case side4 => exact HC1.out); rintro e w55 ⟨v417, rfl, ho0, hb⟩; refine ⟨_, rfl, ?_⟩; have n0_ := Aside0.mk (Kd.R_lower ho0 (lqZ (GS.lB HB.out))); have n1_ := Aside0.mk (lqT (GS.lB HB.out) hb); clear HB; have HO418 := n0_; have HB := n1_; clear n0_ n1_; (try clear hb); (try clear hb2); (try clear hk); (try clear hi); (try clear ho0)))
  go_ret3
  exact ⟨by first | rfl | (simp [errW_none, errW_some] <;> rfl) | (simp [*, errW_none, errW_some] <;> rfl), GS.lB HB.out⟩

end Go.Proofs.Ytfhmjleimampeaa.K
