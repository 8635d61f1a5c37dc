-- PRINTED by print.py (a twelfth state) out of the translation. Not trusted: Lean checks it.
import Derived.Test.YtbkoghmbacdiiaaK0
import Derived.Test.YtbkoghmbacdiiaaK14
import Derived.Test.YtbkoghmbacdiiaaK15
namespace Go.Proofs.Ytbkoghmbacdiiaa.K
open Go.RowKit Go.Proofs.YtbkoghmbacdiiaaW.PrintWords Go.Proofs.YtbkoghmbacdiiaaW.PrintLast Go.Proofs.YtbkoghmbacdiiaaW.PrintMore
attribute [local go_sem] max2_int min2_int max_two min_two max_three min_three max_four min_four   -- for this text's walks alone
set_option linter.unusedVariables false
set_option linter.unusedSimpArgs false

/-! ### spileref33_AtLeast: function 26 -/
mutual
def spileref33_AtLeast.l0 : Nat → List Int → List Int → Int → Int → List (List Int) → Int → Option (Int × Int × Int)
 | 0, _, _, _, _, _, _ => none
 | k + 1, x0, x7, x9, x10, x11, x12 => if x12 ≤ (x0.length : Int) then (if 0 ≤ (wrap64 (x10 + 1)) then (if (wrap64 (x10 + 1) : Int).toNat ≤ 35184372088832 then (if x11.length < 5864062014805 then (spileref33_AtLeast.l0 k x0 x7 x9 x10 (x11 ++ [(List.replicate (wrap64 (x10 + 1) : Int).toNat 0)]) (wrap64 (x12 + 1))) else (none)) else (none)) else (none)) else (if 0 < (x11.length : Int) then (if 0 < ((rd_L1 x11 0).length : Int) then (spileref33_AtLeast.l1 k x0 x7 x9 x10 (x11.set (0 : Int).toNat ((rd_L1 x11 0).set (0 : Int).toNat 1)) 0) else (none)) else (none))
def spileref33_AtLeast.l1 : Nat → List Int → List Int → Int → Int → List (List Int) → Int → Option (Int × Int × Int)
 | 0, _, _, _, _, _, _ => none
 | k + 1, x0, x7, x9, x10, x11, x13 => if x13 < (x7.length : Int) then (spileref33_AtLeast.l2 k x0 x7 x9 x10 x11 x13 (x0.length : Int)) else (spileref33_AtLeast.l4 k x0 x7 x10 x11 0 x9)
def spileref33_AtLeast.l2 : Nat → List Int → List Int → Int → Int → List (List Int) → Int → Int → Option (Int × Int × Int)
 | 0, _, _, _, _, _, _, _ => none
 | k + 1, x0, x7, x9, x10, x11, x13, x14 => if x14 > 0 then (spileref33_AtLeast.l3 k x0 x7 x9 x10 x11 x13 x14 x10) else (spileref33_AtLeast.l1 k x0 x7 x9 x10 x11 (wrap64 (x13 + 1)))
def spileref33_AtLeast.l3 : Nat → List Int → List Int → Int → Int → List (List Int) → Int → Int → Int → Option (Int × Int × Int)
 | 0, _, _, _, _, _, _, _, _ => none
 | k + 1, x0, x7, x9, x10, x11, x13, x14, x15 => if 0 ≤ x13 then (if x13 < (x7.length : Int) then (if x15 ≥ (rd x7 x13) then (if 0 ≤ x14 then (if x14 < (x11.length : Int) then (if 0 ≤ x15 then (if x15 < ((rd_L1 x11 x14).length : Int) then (if 0 ≤ (wrap64 (x14 - 1)) then (if (wrap64 (x14 - 1)) < (x11.length : Int) then (if 0 ≤ (wrap64 (x15 - (rd x7 x13))) then (if (wrap64 (x15 - (rd x7 x13))) < ((rd_L1 x11 (wrap64 (x14 - 1))).length : Int) then (spileref33_AtLeast.l3 k x0 x7 x9 x10 (x11.set (x14 : Int).toNat ((rd_L1 x11 x14).set (x15 : Int).toNat (wrap64 ((rd (rd_L1 x11 x14) x15) + (rd (rd_L1 x11 (wrap64 (x14 - 1))) (wrap64 (x15 - (rd x7 x13)))))))) x13 x14 (wrap64 (x15 - 1))) else (none)) else (none)) else (none)) else (none)) else (none)) else (none)) else (none)) else (none)) else (spileref33_AtLeast.l2 k x0 x7 x9 x10 x11 x13 (wrap64 (x14 - 1)))) else (none)) else (none)
def spileref33_AtLeast.l4 : Nat → List Int → List Int → Int → List (List Int) → Int → Int → Option (Int × Int × Int)
 | 0, _, _, _, _, _, _ => none
 | k + 1, x0, x7, x10, x11, x16, x17 => if x17 ≤ x10 then (if 0 ≤ (x0.length : Int) then (if (x0.length : Int) < (x11.length : Int) then (if 0 ≤ x17 then (if x17 < ((rd_L1 x11 (x0.length : Int)).length : Int) then (spileref33_AtLeast.l4 k x0 x7 x10 x11 (wrap64 (x16 + (rd (rd_L1 x11 (x0.length : Int)) x17))) (wrap64 (x17 + 1))) else (none)) else (none)) else (none)) else (none)) else ((spileref33_ways.f k (x7.length : Int) (x0.length : Int)).bind fun t443 => (some (x16, t443, 0)))
end
def spileref33_AtLeast.f (k : Nat) (l0 : List Int) (l1 : List Int) : Option (Int × Int × Int) := (spileref33_start.f k l0 l1).bind fun bt408 => (if bt408.2 = 0 then (if 0 ≤ (l0.length : Int) then (if (l0.length : Int) ≤ (bt408.1.length : Int) then ((spileref33_total.f k (bt408.1.take ((l0.length : Int) : Int).toNat)).bind fun t416 => ((spileref33_total.f k bt408.1).bind fun t417 => (spileref33_AtLeast.l0 k l0 bt408.1 t416 t417 (([] : List (List Int))) 0))) else (none)) else (none)) else (some (0, 0, bt408.2)))
theorem spileref33_AtLeast.mono_l : ∀ k, (∀ y0 y1 y2 y3 y4 y5, LeO (spileref33_AtLeast.l0 k y0 y1 y2 y3 y4 y5) (spileref33_AtLeast.l0 (k + 1) y0 y1 y2 y3 y4 y5)) ∧ (∀ y0 y1 y2 y3 y4 y5, LeO (spileref33_AtLeast.l1 k y0 y1 y2 y3 y4 y5) (spileref33_AtLeast.l1 (k + 1) y0 y1 y2 y3 y4 y5)) ∧ (∀ y0 y1 y2 y3 y4 y5 y6, LeO (spileref33_AtLeast.l2 k y0 y1 y2 y3 y4 y5 y6) (spileref33_AtLeast.l2 (k + 1) y0 y1 y2 y3 y4 y5 y6)) ∧ (∀ y0 y1 y2 y3 y4 y5 y6 y7, LeO (spileref33_AtLeast.l3 k y0 y1 y2 y3 y4 y5 y6 y7) (spileref33_AtLeast.l3 (k + 1) y0 y1 y2 y3 y4 y5 y6 y7)) ∧ (∀ y0 y1 y2 y3 y4 y5, LeO (spileref33_AtLeast.l4 k y0 y1 y2 y3 y4 y5) (spileref33_AtLeast.l4 (k + 1) y0 y1 y2 y3 y4 y5))
 | 0 => ⟨fun _ _ _ _ _ _ r h => by simp [spileref33_AtLeast.l0] at h, fun _ _ _ _ _ _ r h => by simp [spileref33_AtLeast.l1] at h, fun _ _ _ _ _ _ _ r h => by simp [spileref33_AtLeast.l2] at h, fun _ _ _ _ _ _ _ _ r h => by simp [spileref33_AtLeast.l3] at h, fun _ _ _ _ _ _ r h => by simp [spileref33_AtLeast.l4] at h⟩
 | k + 1 => by
  obtain ⟨ih0, ih1, ih2, ih3, ih4⟩ := spileref33_AtLeast.mono_l k
  refine ⟨?_, ?_, ?_, ?_, ?_⟩
  ·intro y0 y1 y2 y3 y4 y5
   unfold spileref33_AtLeast.l0
   repeat' first
   | (with_reducible exact ih0 _ _ _ _ _ _)
   | (with_reducible exact ih1 _ _ _ _ _ _)
   | (with_reducible exact ih2 _ _ _ _ _ _ _)
   | (with_reducible exact ih3 _ _ _ _ _ _ _ _)
   | (with_reducible exact ih4 _ _ _ _ _ _)
   | (with_reducible exact spileref33_start.mono _ _ _)
   | (with_reducible exact spileref33_total.mono _ _)
   | (with_reducible exact spileref33_ways.mono _ _ _)
   | (with_reducible exact LeO.refl _)
   | (with_reducible exact LeO.none _)
   | (with_reducible refine LeO.ite ?_ ?_)
   | (with_reducible refine LeO.bind ?_ (fun _ => ?_))
   | exact ih0 _ _ _ _ _ _
   | exact ih1 _ _ _ _ _ _
   | exact ih2 _ _ _ _ _ _ _
   | exact ih3 _ _ _ _ _ _ _ _
   | exact ih4 _ _ _ _ _ _
   | exact spileref33_start.mono _ _ _
   | exact spileref33_total.mono _ _
   | exact spileref33_ways.mono _ _ _
   | exact LeO.none _
   | refine LeO.ite ?_ ?_
   | refine LeO.bind ?_ (fun _ => ?_)
  ·intro y0 y1 y2 y3 y4 y5
   unfold spileref33_AtLeast.l1
   repeat' first
   | (with_reducible exact ih0 _ _ _ _ _ _)
   | (with_reducible exact ih1 _ _ _ _ _ _)
   | (with_reducible exact ih2 _ _ _ _ _ _ _)
   | (with_reducible exact ih3 _ _ _ _ _ _ _ _)
   | (with_reducible exact ih4 _ _ _ _ _ _)
   | (with_reducible exact spileref33_start.mono _ _ _)
   | (with_reducible exact spileref33_total.mono _ _)
   | (with_reducible exact spileref33_ways.mono _ _ _)
   | (with_reducible exact LeO.refl _)
   | (with_reducible exact LeO.none _)
   | (with_reducible refine LeO.ite ?_ ?_)
   | (with_reducible refine LeO.bind ?_ (fun _ => ?_))
   | exact ih0 _ _ _ _ _ _
   | exact ih1 _ _ _ _ _ _
   | exact ih2 _ _ _ _ _ _ _
   | exact ih3 _ _ _ _ _ _ _ _
   | exact ih4 _ _ _ _ _ _
   | exact spileref33_start.mono _ _ _
   | exact spileref33_total.mono _ _
   | exact spileref33_ways.mono _ _ _
   | exact LeO.none _
   | refine LeO.ite ?_ ?_
   | refine LeO.bind ?_ (fun _ => ?_)
  ·intro y0 y1 y2 y3 y4 y5 y6
   unfold spileref33_AtLeast.l2
   repeat' first
   | (with_reducible exact ih0 _ _ _ _ _ _)
   | (with_reducible exact ih1 _ _ _ _ _ _)
   | (with_reducible exact ih2 _ _ _ _ _ _ _)
   | (with_reducible exact ih3 _ _ _ _ _ _ _ _)
   | (with_reducible exact ih4 _ _ _ _ _ _)
   | (with_reducible exact spileref33_start.mono _ _ _)
   | (with_reducible exact spileref33_total.mono _ _)
   | (with_reducible exact spileref33_ways.mono _ _ _)
   | (with_reducible exact LeO.refl _)
   | (with_reducible exact LeO.none _)
   | (with_reducible refine LeO.ite ?_ ?_)
   | (with_reducible refine LeO.bind ?_ (fun _ => ?_))
   | exact ih0 _ _ _ _ _ _
   | exact ih1 _ _ _ _ _ _
   | exact ih2 _ _ _ _ _ _ _
   | exact ih3 _ _ _ _ _ _ _ _
   | exact ih4 _ _ _ _ _ _
   | exact spileref33_start.mono _ _ _
   | exact spileref33_total.mono _ _
   | exact spileref33_ways.mono _ _ _
   | exact LeO.none _
   | refine LeO.ite ?_ ?_
   | refine LeO.bind ?_ (fun _ => ?_)
  ·intro y0 y1 y2 y3 y4 y5 y6 y7
   unfold spileref33_AtLeast.l3
   repeat' first
   | (with_reducible exact ih0 _ _ _ _ _ _)
   | (with_reducible exact ih1 _ _ _ _ _ _)
   | (with_reducible exact ih2 _ _ _ _ _ _ _)
   | (with_reducible exact ih3 _ _ _ _ _ _ _ _)
   | (with_reducible exact ih4 _ _ _ _ _ _)
   | (with_reducible exact spileref33_start.mono _ _ _)
   | (with_reducible exact spileref33_total.mono _ _)
   | (with_reducible exact spileref33_ways.mono _ _ _)
   | (with_reducible exact LeO.refl _)
   | (with_reducible exact LeO.none _)
   | (with_reducible refine LeO.ite ?_ ?_)
   | (with_reducible refine LeO.bind ?_ (fun _ => ?_))
   | exact ih0 _ _ _ _ _ _
   | exact ih1 _ _ _ _ _ _
   | exact ih2 _ _ _ _ _ _ _
   | exact ih3 _ _ _ _ _ _ _ _
   | exact ih4 _ _ _ _ _ _
   | exact spileref33_start.mono _ _ _
   | exact spileref33_total.mono _ _
   | exact spileref33_ways.mono _ _ _
   | exact LeO.none _
   | refine LeO.ite ?_ ?_
   | refine LeO.bind ?_ (fun _ => ?_)
  ·intro y0 y1 y2 y3 y4 y5
   unfold spileref33_AtLeast.l4
   repeat' first
   | (with_reducible exact ih0 _ _ _ _ _ _)
   | (with_reducible exact ih1 _ _ _ _ _ _)
   | (with_reducible exact ih2 _ _ _ _ _ _ _)
   | (with_reducible exact ih3 _ _ _ _ _ _ _ _)
   | (with_reducible exact ih4 _ _ _ _ _ _)
   | (with_reducible exact spileref33_start.mono _ _ _)
   | (with_reducible exact spileref33_total.mono _ _)
   | (with_reducible exact spileref33_ways.mono _ _ _)
   | (with_reducible exact LeO.refl _)
   | (with_reducible exact LeO.none _)
   | (with_reducible refine LeO.ite ?_ ?_)
   | (with_reducible refine LeO.bind ?_ (fun _ => ?_))
   | exact ih0 _ _ _ _ _ _
   | exact ih1 _ _ _ _ _ _
   | exact ih2 _ _ _ _ _ _ _
   | exact ih3 _ _ _ _ _ _ _ _
   | exact ih4 _ _ _ _ _ _
   | exact spileref33_start.mono _ _ _
   | exact spileref33_total.mono _ _
   | exact spileref33_ways.mono _ _ _
   | exact LeO.none _
   | refine LeO.ite ?_ ?_
   | refine LeO.bind ?_ (fun _ => ?_)
theorem spileref33_AtLeast.mono : ∀ a0 a1 k, LeO (spileref33_AtLeast.f k a0 a1) (spileref33_AtLeast.f (k + 1) a0 a1) := by
 intro a0 a1 k
 obtain ⟨ih0, ih1, ih2, ih3, ih4⟩ := spileref33_AtLeast.mono_l k
 unfold spileref33_AtLeast.f
 repeat' first
   | (with_reducible exact ih0 _ _ _ _ _ _)
   | (with_reducible exact ih1 _ _ _ _ _ _)
   | (with_reducible exact ih2 _ _ _ _ _ _ _)
   | (with_reducible exact ih3 _ _ _ _ _ _ _ _)
   | (with_reducible exact ih4 _ _ _ _ _ _)
   | (with_reducible exact spileref33_start.mono _ _ _)
   | (with_reducible exact spileref33_total.mono _ _)
   | (with_reducible exact spileref33_ways.mono _ _ _)
   | (with_reducible exact LeO.refl _)
   | (with_reducible exact LeO.none _)
   | (with_reducible refine LeO.ite ?_ ?_)
   | (with_reducible refine LeO.bind ?_ (fun _ => ?_))
   | exact ih0 _ _ _ _ _ _
   | exact ih1 _ _ _ _ _ _
   | exact ih2 _ _ _ _ _ _ _
   | exact ih3 _ _ _ _ _ _ _ _
   | exact ih4 _ _ _ _ _ _
   | exact spileref33_start.mono _ _ _
   | exact spileref33_total.mono _ _
   | exact spileref33_ways.mono _ _ _
   | exact LeO.none _
   | refine LeO.ite ?_ ?_
   | refine LeO.bind ?_ (fun _ => ?_)
def spileref33_AtLeast.T20 : Bool × List (List Nat × List Nat) := (true, [([], []), ([], []), ([0, 1], [0, 1]), ([2], [2]), ([], []), ([], []), ([], []), ([5, 6], [5, 6]), ([7], [7]), ([], []), ([8, 9], [8, 9]), ([10], [10]), ([], []), ([], []), ([13], [13]), ([12, 14], [12, 14]), ([15], [15]), ([], []), ([], []), ([], []), ([18, 19], [18, 19]), ([20], [20]), ([17, 21], [17, 21]), ([16, 22], [16, 22]), ([23], [23]), ([11, 24], [11, 24]), ([3, 4, 0, 1, 2, 3, 4, 5, 6, 7, 8, 9, 10, 11, 12, 13, 14, 15, 16, 17, 18, 19, 20, 21, 22, 23, 24, 25], [3, 4]), ([26, 25, 0, 1, 2, 3, 4, 5, 6, 7, 8, 9, 10, 11, 12, 13, 14, 15, 16, 17, 18, 19, 20, 21, 22, 23, 24, 25], [25, 26])])
def spileref33_AtLeast.B20 : List Nat := [0, 0, 3, 7, 0, 0, 0, 96, 224, 0, 992, 2016, 0, 0, 8192, 28672, 61440, 0, 0, 0, 786432, 1835008, 4063232, 8384512, 16773120, 33554400, 67108863, 134217727]
theorem spileref33_AtLeast.tab20 : rtab .any (opsOf Try.f26 20) = spileref33_AtLeast.T20 := by kernel_rfl
theorem spileref33_AtLeast.bits20 : waitsOk spileref33_AtLeast.T20.2 spileref33_AtLeast.B20 = true := by kernel_rfl
set_option maxHeartbeats 8000000 in
set_option maxRecDepth 100000 in
theorem spileref33_AtLeast.calls (k : Nat) (A0 : Option Addr) (c0 : Nat) (l0 : List Int) (A1 : Option Addr) (c1 : Nat) (l1 : List Int) (r1 : Int) (r2 : Int) (r3 : Int) (w : World) (hr0 : Kd.C (Kd.int .i64) w A0 l0.length l0) (hc0 : l0.length ≤ c0) (hr1 : Kd.C (Kd.int .i64) w A1 l1.length l1) (hc1 : l1.length ≤ c1) (h : spileref33_AtLeast.f k l0 l1 = some (r1, r2, r3)) :
  Calls Try.prog 26 #[.slice A0 l0.length c0, .slice A1 l1.length c1] w fun e w' => e = .returned (.tuple #[.int .i64 r1, .int .i64 r2, .int .i64 r3]) ∧ Below w.heap.size w w' := by
 have HR0 := Aside0.mk hr0
 have HC0 := Aside0.mk hc0
 clear hr0 hc0
 have HR1 := Aside0.mk hr1
 have HC1 := Aside0.mk hc1
 clear hr1 hc1
 have HB := Aside0.mk (Below.refl w.heap.size w)
 have H : ((spileref33_start.f k l0 l1).bind fun bt408 => (if bt408.2 = 0 then (if 0 ≤ (l0.length : Int) then (if (l0.length : Int) ≤ (bt408.1.length : Int) then ((spileref33_total.f k (bt408.1.take ((l0.length : Int) : Int).toNat)).bind fun t416 => ((spileref33_total.f k bt408.1).bind fun t417 => (spileref33_AtLeast.l0 k l0 bt408.1 t416 t417 (([] : List (List Int))) 0))) else (none)) else (none)) else (some (0, 0, bt408.2)))) = some (r1, r2, r3) := h
 clear h
 replace H := Option.bind_eq_some_iff.mp H
 obtain ⟨⟨t408, t409⟩, A30, H⟩ := H
 replace H : (if t409 = 0 then (if 0 ≤ (l0.length : Int) then (if (l0.length : Int) ≤ (t408.length : Int) then ((spileref33_total.f k (t408.take ((l0.length : Int) : Int).toNat)).bind fun t416 => ((spileref33_total.f k t408).bind fun t417 => (spileref33_AtLeast.l0 k l0 t408 t416 t417 (([] : List (List Int))) 0))) else (none)) else (none)) else (some (0, 0, t409))) = some (r1, r2, r3) := H
 have A3 := Aside0.mk A30
 clear A30
 by_cases c4 : t409 = 0
 ·rw [if_pos c4] at H
  have c4b0 : (t409 == 0) = true := beq_iff_eq.mpr c4
  try simp only [beq_self_eq_true, Bool.not_true, Bool.false_or, Bool.true_and] at c4b0
  have c4b1 : (t409 != 0) = false := bne_eq_false_iff_eq.mpr c4
  clear c4
  by_cases c5 : 0 ≤ (l0.length : Int)
  ·rw [if_pos c5] at H
   have c5b0 := eq_true c5
   have c5b1 : decide (0 ≤ (l0.length : Int)) = true := decide_eq_true c5
   clear c5
   by_cases c6 : (l0.length : Int) ≤ (t408.length : Int)
   ·rw [if_pos c6] at H
    have c6b0 := eq_true c6
    have c6b1 : decide ((l0.length : Int) ≤ (t408.length : Int)) = true := decide_eq_true c6
    clear c6
    obtain ⟨y412, hy412⟩ : ∃ y_ : List Int, y_ = (t408.take ((l0.length : Int) : Int).toNat) := ⟨_, rfl⟩
    replace H : ((spileref33_total.f k y412).bind fun t416 => ((spileref33_total.f k t408).bind fun t417 => (spileref33_AtLeast.l0 k l0 t408 t416 t417 (([] : List (List Int))) 0))) = some (r1, r2, r3) := by first | (rw [hy412]; with_reducible exact H) | (have H2_ := (Option.bind_some _ _).symm.trans H; rw [hy412]; with_reducible exact H2_) | (have H2_ := (Option.bind_some _ _).symm.trans H; with_reducible exact H2_) | with_reducible exact H | (rw [hy412]; exact H) | exact H
    have Ny412 := Aside0.mk hy412
    clear hy412
    replace H := Option.bind_eq_some_iff.mp H
    obtain ⟨t416, A70, H⟩ := H
    replace H : ((spileref33_total.f k t408).bind fun t417 => (spileref33_AtLeast.l0 k l0 t408 t416 t417 (([] : List (List Int))) 0)) = some (r1, r2, r3) := H
    have A7 := Aside0.mk A70
    clear A70
    replace H := Option.bind_eq_some_iff.mp H
    obtain ⟨t417, A80, H⟩ := H
    replace H : (spileref33_AtLeast.l0 k l0 t408 t416 t417 (([] : List (List Int))) 0) = some (r1, r2, r3) := H
    have A8 := Aside0.mk A80
    clear A80
    obtain ⟨y418, hy418⟩ : ∃ y_ : List (List Int), y_ = (([] : List (List Int))) := ⟨_, rfl⟩
    replace H : (spileref33_AtLeast.l0 k l0 t408 t416 t417 y418 0) = some (r1, r2, r3) := by first | (rw [hy418]; with_reducible exact H) | (have H2_ := (Option.bind_some _ _).symm.trans H; rw [hy418]; with_reducible exact H2_) | (have H2_ := (Option.bind_some _ _).symm.trans H; with_reducible exact H2_) | with_reducible exact H | (rw [hy418]; exact H) | exact H
    have Ny418 := Aside0.mk hy418
    clear hy418
    have H' := Aside0.mk H
    clear H
    go_enter Try.func26, Try.ntmps26
    go_wp2_with (first | ((with_reducible refine gqC (f := 46) rfl ?_); refine goesL_ (some 21) rfl rfl Try.func46 (by kernel_rfl) rfl #[.slice A0 l0.length c0, .slice A1 l1.length c1] rfl (by (try simp only [List.map_toArray, List.map_cons, List.map_nil]); first | done | rfl | (simp only [List.length_drop, List.length_take]; rfl)) ?_; (with_reducible refine (spileref33_start.calls k _ _ l0 _ _ l1 t408 t409 _ ?side1 ?side2 ?side3 ?side4 A3.out).mono ?_); (case side1 => repeat (first | exact HR0.out | (with_reducible refine Kd.C_alloc ?_ _) | (with_reducible refine Kd.C_drewN ?_ _) | (with_reducible refine Kd.C_drew ?_))); (case side2 => exact HC0.out); (case side3 => repeat (first | exact HR1.out | (with_reducible refine Kd.C_alloc ?_ _) | (with_reducible refine Kd.C_drewN ?_ _) | (with_reducible refine Kd.C_drew ?_))); (case side4 => exact HC1.out); rintro e w9 ⟨v410, rfl, ho0, hb⟩; refine ⟨_, rfl, ?_⟩; have n0_ := Aside0.mk (Kd.R_lower ho0 (lqZ (by repeat (first | (with_reducible first | exact HB.out | apply lqA | apply lqN | apply lqD) | exact HB.out)))); have n1_ := Aside0.mk (lqT (by repeat (first | (with_reducible first | exact HB.out | apply lqA | apply lqN | apply lqD) | exact HB.out)) hb); clear HB; have HO411 := n0_; have HB := n1_; clear n0_ n1_; (try clear hb); (try clear hb2); (try clear hk); (try clear hi); (try clear ho0); obtain ⟨Ao11, co11, eo11⟩ := Kd.R_slice HO411.out; subst eo11; have q10 : ((l0.length : Int) : Int) ≤ ((t408.length : Int) : Int) := of_decide_eq_true (by first | (with_reducible assumption) | assumption); obtain ⟨i010, hi010, _, hsz10, _⟩ := info_parts info3; have hroom10 : t408.length ≤ co11 := (Kd.R_reads' HO411.out).2.1; have hC10 : Kd.C (Kd.int .i64) _ Ao11 t408.length t408 := (Kd.R_reads' HO411.out).2.2; have hcut10 := cut_to (P := Try.prog) 27 3 .i64 Try.underlying27 hi010 Ao11 t408.length co11 (l0.length : Int) (of_decide_eq_true (by first | (with_reducible assumption) | assumption)) q10 hroom10; have hr10 := Kd.C_take (m := ((l0.length : Int) : Int).toNat) hC10 (by omega); have hy10 : y412.length = ((l0.length : Int) : Int).toNat := (by rw [Ny412.out, List.length_take]; omega); rw [← Ny412.out] at hr10; rw [← hy10] at hcut10; have HR415 := Aside0.mk hr10; have HC415 := Aside0.mk (show y412.length ≤ co11 from by omega); clear hr10 hC10 hroom10 hi010 hsz10; have KY10 := Aside0.mk hy10; clear hy10; have KL10 := Aside0.mk (show ((l0.length : Int) : Int).toNat ≤ t408.length from by omega); replace q10 := eq_true q10) | ((with_reducible refine gqC (f := 47) rfl ?_); refine goesL_ (some 31) rfl rfl Try.func47 (by kernel_rfl) rfl #[.slice Ao11 y412.length co11] rfl (by (try simp only [List.map_toArray, List.map_cons, List.map_nil]); first | done | rfl | (simp only [List.length_drop, List.length_take]; rfl)) ?_; (with_reducible refine (spileref33_total.calls k _ _ y412 t416 _ ?side1 ?side2 A7.out).mono ?_); (case side1 => repeat (first | exact (by repeat (first | (with_reducible exact HR415.out) | (with_reducible refine Kd.C_alloc ?_ _) | (with_reducible refine Kd.C_drewN ?_ _) | (with_reducible refine Kd.C_drew ?_) | exact HR415.out)) | (with_reducible refine Kd.C_alloc ?_ _) | (with_reducible refine Kd.C_drewN ?_ _) | (with_reducible refine Kd.C_drew ?_))); (case side2 => exact HC415.out); rintro e w' ⟨rfl, ⟨nd, rfl⟩⟩; refine ⟨_, rfl, ?_⟩) | ((with_reducible refine gqC (f := 47) rfl ?_); refine goesL_ (some 33) rfl rfl Try.func47 (by kernel_rfl) rfl #[.slice Ao11 t408.length co11] rfl (by (try simp only [List.map_toArray, List.map_cons, List.map_nil]); first | done | rfl | (simp only [List.length_drop, List.length_take]; rfl)) ?_; (with_reducible refine (spileref33_total.calls k _ _ t408 t417 _ ?side1 ?side2 A8.out).mono ?_); (case side1 => repeat (first | exact (Kd.R_reads' HO411.out).2.2 | (with_reducible refine Kd.C_alloc ?_ _) | (with_reducible refine Kd.C_drewN ?_ _) | (with_reducible refine Kd.C_drew ?_))); (case side2 => exact (Kd.R_reads' HO411.out).2.1); rintro e w' ⟨rfl, ⟨nd, rfl⟩⟩; refine ⟨_, rfl, ?_⟩) | ((with_reducible refine gqD (N := 34) rfl ?_); refine Kd.S_lit (Kd.slice 3 (Kd.int .i64)) _ 27 ?hg (N := 34) ?hd (xs := ([] : List (List Int))) (inner := []) (ok := fun _ => True) (okp := fun _ => True) ?hr ?hp (fun _ hk => hk) trivial (Below.refl _ _) (Nat.le_refl _) (by simp) ?_; (case hd => rfl); (case hg => rfl); (case hr => first | (go_simp; done) | (go_simp; rfl)); (case hp => exact (Reps.none _ _)); intro v419 w12 ho13 hb hg_ hnew_; clear hg_ hnew_; (first | rw [← Ny418.out] at ho13 | (simp only [Int.reduceToNat] at ho13; rw [← Ny418.out] at ho13)); have n0_ := Aside0.mk (Kd.R_below (by (with_reducible repeat (first | apply Kd.R_alloc | apply Kd.R_drewN | apply Kd.R_drew)); exact HO411.out) hb); have n1_ := Aside0.mk (Kd.S_lower (Kd.S_new' ho13 (Kd.R_lt (by (with_reducible repeat (first | apply Kd.R_alloc | apply Kd.R_drewN | apply Kd.R_drew)); exact HO411.out))) (lqZ (by repeat (first | (with_reducible first | exact HB.out | apply lqA | apply lqN | apply lqD) | exact HB.out)))); have n2_ := Aside0.mk (Kd.C_below (by repeat (first | (with_reducible exact HR415.out) | (with_reducible refine Kd.C_alloc ?_ _) | (with_reducible refine Kd.C_drewN ?_ _) | (with_reducible refine Kd.C_drew ?_) | exact HR415.out)) hb); have n3_ := Aside0.mk (lqT (by repeat (first | (with_reducible first | exact HB.out | apply lqA | apply lqN | apply lqD) | exact HB.out)) hb); clear HO411; clear HR415; clear HB; have HO411 := n0_; have HO420 := n1_; have HR415 := n2_; have HB := n3_; clear n0_ n1_ n2_ n3_; clear hb ho13))
    go_loopg [11, 12] k (fun kq v11 v12 w' => ∃ (x11_1 : List (List Int)) (x12_1 : Int), v12 = .int .i64 x12_1 ∧ Aside0 (spileref33_AtLeast.l0 kq l0 t408 t416 t417 x11_1 x12_1 = some (r1, r2, r3)) ∧ Aside0 (kq ≤ k) ∧ Aside0 (Kd.R (Kd.int .i64) 3 w' w.heap.size (fun _ => True) (.slice Ao11 t408.length co11) t408) ∧ Aside0 (Kd.S (Kd.slice 3 (Kd.int .i64)) 27 w' w.heap.size (fun k_ => some k_ ≠ ((.slice Ao11 t408.length co11) : Value).ownBlock) v11 x11_1) ∧ Aside0 (Below w.heap.size w w'))
    case atStart => exact ⟨(y418), (0), (by first | rfl | (simp; done) | (simp [*]; done)), H', ⟨Nat.le_refl _⟩, ⟨by (with_reducible repeat (first | apply Kd.R_alloc | apply Kd.R_drewN | apply Kd.R_drew)); exact HO411.out⟩, ⟨by (with_reducible repeat (first | apply Kd.S_alloc | apply Kd.S_drewN | apply Kd.S_drew)); exact Kd.S_mono HO420.out (fun _ hk => hk.2)⟩, ⟨by repeat (first | (with_reducible first | exact HB.out | apply lqA | apply lqN | apply lqD) | exact HB.out)⟩⟩
    case round =>
     clear H'
     try clear c1
     try clear q1
     try clear c2
     try clear p2
     try clear c4
     try clear c4b0
     try clear c4b1
     try clear c5
     try clear c5b0
     try clear c5b1
     try clear c6
     try clear c6b0
     try clear c6b1
     try clear q10
     try clear q10
     obtain ⟨x11_1, x12_1, rfl, HA, HK1, HO_7, HO_11, HB⟩ := hrel
     cases gk with
     | zero => exact absurd HA.out (by simp [spileref33_AtLeast.l0])
     | succ k1 =>
      have H := HA.out
      clear HA
      simp only [spileref33_AtLeast.l0] at H
      by_cases c14 : x12_1 ≤ (l0.length : Int)
      ·rw [if_pos c14] at H
       have c14b0 : decide (x12_1 ≤ (l0.length : Int)) = true := decide_eq_true c14
       clear c14
       obtain ⟨ji15, hji15⟩ : ∃ j_ : Int, (wrap64 (t417 + 1)) = j_ := ⟨_, rfl⟩
       replace H : (if 0 ≤ (ji15) then (if (ji15 : Int).toNat ≤ 35184372088832 then (if x11_1.length < 5864062014805 then (spileref33_AtLeast.l0 k1 l0 t408 t416 t417 (x11_1 ++ [(List.replicate (ji15 : Int).toNat 0)]) (wrap64 (x12_1 + 1))) else (none)) else (none)) else (none)) = some (r1, r2, r3) := by first | (rw [hji15] at H; exact H) | (simp only [hji15] at H ⊢; exact H)
       have hji15w : (IntKind.i64.wrap (t417 + 1)) = ji15 := (i64_w _).trans hji15
       by_cases c16 : 0 ≤ (ji15)
       ·rw [if_pos c16] at H
        have c16b0 := eq_true c16
        have c16b1 : decide (0 ≤ (ji15)) = true := decide_eq_true c16
        clear c16
        by_cases c17 : (ji15 : Int).toNat ≤ 35184372088832
        ·rw [if_pos c17] at H
         have c17b0 := eq_true c17
         have c17b1 : decide ((ji15 : Int).toNat ≤ 35184372088832) = true := decide_eq_true c17
         clear c17
         obtain ⟨y421, hy421⟩ : ∃ y_ : List Int, y_ = (List.replicate (ji15 : Int).toNat 0) := ⟨_, rfl⟩
         replace H : (if x11_1.length < 5864062014805 then (spileref33_AtLeast.l0 k1 l0 t408 t416 t417 (x11_1 ++ [y421]) (wrap64 (x12_1 + 1))) else (none)) = some (r1, r2, r3) := by first | (rw [hy421]; with_reducible exact H) | (have H2_ := (Option.bind_some _ _).symm.trans H; rw [hy421]; with_reducible exact H2_) | (have H2_ := (Option.bind_some _ _).symm.trans H; with_reducible exact H2_) | with_reducible exact H | (rw [hy421]; exact H) | exact H
         have Ny421 := Aside0.mk hy421
         clear hy421
         by_cases c18 : x11_1.length < 5864062014805
         ·rw [if_pos c18] at H
          have LMc18 := Aside0.mk c18
          clear c18
          obtain ⟨y424, hy424⟩ : ∃ y_ : List (List Int), y_ = (x11_1 ++ [y421]) := ⟨_, rfl⟩
          replace H : (spileref33_AtLeast.l0 k1 l0 t408 t416 t417 y424 (wrap64 (x12_1 + 1))) = some (r1, r2, r3) := by first | (rw [hy424]; with_reducible exact H) | (have H2_ := (Option.bind_some _ _).symm.trans H; rw [hy424]; with_reducible exact H2_) | (have H2_ := (Option.bind_some _ _).symm.trans H; with_reducible exact H2_) | with_reducible exact H | (rw [hy424]; exact H) | exact H
          have Ny424 := Aside0.mk hy424
          clear hy424
          have H' := Aside0.mk H
          clear H
          go_wp2_with (first | ((with_reducible refine gqD (N := 44) rfl ?_); refine Kd.R_make (Kd.int .i64) _ 3 rfl (N := 44) rfl 27 _ _ rfl ji15 rfl rfl Try.underlying27 (.int .i64 0) 8 info3 rfl (by decide) (by omega) 0 (ok := fun _ => True) (okp := fun _ => True) rfl (fun _ hk => hk) trivial (of_decide_eq_true (by first | (with_reducible assumption) | assumption)) (Nat.le_trans (Nat.mul_le_mul_right _ (of_decide_eq_true (by first | (with_reducible assumption) | assumption) : ji15.toNat ≤ 35184372088832)) (by omega)) (Below.refl _ _) (Nat.le_refl _) ?_; intro v422 w19 ho20 hb hg_ hnew_; clear hg_ hnew_; (first | rw [← Ny421.out] at ho20 | (simp only [Int.reduceToNat] at ho20; rw [← Ny421.out] at ho20)); have n0_ := Aside0.mk (Kd.R_elder' (by (with_reducible repeat (first | apply Kd.R_alloc | apply Kd.R_drewN | apply Kd.R_drew)); exact HO_7.out) (Kd.R_base ho20) hb); have n1_ := Aside0.mk (Kd.S_elder' (by (with_reducible repeat (first | apply Kd.S_alloc | apply Kd.S_drewN | apply Kd.S_drew)); exact HO_11.out) (Kd.R_base ho20) hb); have n2_ := Aside0.mk (Kd.R_lower (Kd.R_new' ho20 (Kd.R_lt (by (with_reducible repeat (first | apply Kd.R_alloc | apply Kd.R_drewN | apply Kd.R_drew)); exact HO_7.out))) (lqZ (by repeat (first | (with_reducible first | exact HB.out | apply lqA | apply lqN | apply lqD) | exact HB.out)))); have n3_ := Aside0.mk (lqT (by repeat (first | (with_reducible first | exact HB.out | apply lqA | apply lqN | apply lqD) | exact HB.out)) hb); clear HO_7; clear HO_11; clear HB; have HO_7 := n0_; have HO_11 := n1_; have HO423 := n2_; have HB := n3_; clear n0_ n1_ n2_ n3_; clear hb ho20; obtain ⟨Ao22, co22, eo22⟩ := Kd.R_slice HO423.out; subst eo22) | ((with_reducible refine gate_builtin (b := .append) (xs := #[.tmp 41, .tmp 45]) rfl ?_); at_builtin; refine Kd.S_append (Kd.slice 3 (Kd.int .i64)) (w0 := w) w.heap.size rfl (.tmp 41) (.tmp 45) 57 27 (.slice none 0 0) 24 rfl Try.underlying57 info27 rfl (by decide) (by omega) u11 x11_1 y421 [.slice Ao22 y421.length co22] (fun k_ => some k_ ≠ (.slice Ao11 t408.length co11 : Value).ownBlock) (fun k_ => some k_ = (.slice Ao22 y421.length co22 : Value).ownBlock) rfl rfl ?aP (fun k_ hk_ => ((Kd.R_mono (ok' := fun k_ => ((fun k_ => some k_ ≠ (.slice Ao11 t408.length co11 : Value).ownBlock)) k_ ∧ some k_ ≠ (u11 : Value).ownBlock) (Kd.R_apart' (HO423.out) (Kd.S_typed HO_11.out) (by decide)) (fun k_ hk => ⟨hk.1.2, hk.2⟩))).1 k_ hk_.symm) ?aF ?aO ?aB ?aS ?aL ?_; (case aP => exact Kd.M_row (Kd.R_mono (Kd.R_tight rfl (Kd.R_mono (ok' := fun k_ => ((fun k_ => some k_ ≠ (.slice Ao11 t408.length co11 : Value).ownBlock)) k_ ∧ some k_ ≠ (u11 : Value).ownBlock) (Kd.R_apart' (HO423.out) (Kd.S_typed HO_11.out) (by decide)) (fun k_ hk => ⟨hk.1.2, hk.2⟩))) (fun _ h_ => h_))); (case aB => exact (by repeat (first | (with_reducible first | exact HB.out | apply lqA | apply lqN | apply lqD) | exact HB.out))); (case aF => exact (fun k_ hk => Kd.fresh' (Kd.R_lt (by (with_reducible repeat (first | apply Kd.R_alloc | apply Kd.R_drewN | apply Kd.R_drew)); exact HO_7.out)) k_ hk)); (case aO => exact (by (with_reducible repeat (first | apply Kd.S_alloc | apply Kd.S_drewN | apply Kd.S_drew)); exact Kd.S_mono HO_11.out (fun k_ hk => ⟨hk.1, fun e_ => hk.2 e_⟩))); (case aS => exact (lqZ (by repeat (first | (with_reducible first | exact HB.out | apply lqA | apply lqN | apply lqD) | exact HB.out)))); (case aL => have := LMc18.out; omega); intro v425 w21 ho hb hg hat; rw [← Ny424.out] at ho; have n0_ := Aside0.mk (Kd.R_over' (by (with_reducible repeat (first | apply Kd.R_alloc | apply Kd.R_drewN | apply Kd.R_drew)); exact HO_7.out) (Kd.S_typed (by (with_reducible repeat (first | apply Kd.S_alloc | apply Kd.S_drewN | apply Kd.S_drew)); exact HO_11.out)) (by decide) hg); have n1_ := Aside0.mk (hb); have n2_ := Aside0.mk (ho); clear HO_7; clear HB; clear HO_11; clear HO423; have HO_7 := n0_; have HB := n1_; have HO426 := n2_; clear n0_ n1_ n2_; clear ho hb hg hat))
          go_roundg k1
          case measure => have := HK1.out; omega
          case rel => exact ⟨(y424), (wrap64 (x12_1 + 1)), (by first | rfl | (simp; done) | (simp [*]; done)), H', ⟨by have := HK1.out; omega⟩, ⟨by (with_reducible repeat (first | apply Kd.R_alloc | apply Kd.R_drewN | apply Kd.R_drew)); exact Kd.R_mono HO_7.out (fun _ hk => trivial)⟩, ⟨by (with_reducible repeat (first | apply Kd.S_alloc | apply Kd.S_drewN | apply Kd.S_drew)); exact HO426.out⟩, ⟨by repeat (first | (with_reducible first | exact HB.out | apply lqA | apply lqN | apply lqD) | exact HB.out)⟩⟩
         ·rw [if_neg c18] at H
          exact absurd H (by simp)
        ·rw [if_neg c17] at H
         exact absurd H (by simp)
       ·rw [if_neg c16] at H
        exact absurd H (by simp)
      ·rw [if_neg c14] at H
       have c14b0 : decide (x12_1 ≤ (l0.length : Int)) = false := decide_eq_false c14
       clear c14
       by_cases c23 : 0 < (x11_1.length : Int)
       ·rw [if_pos c23] at H
        have c23b0 : decide (0 < (x11_1.length : Int)) = true := decide_eq_true c23
        have c23b1 : decide (0 < x11_1.length) = true := decide_eq_true (by omega)
        clear c23
        by_cases c24 : 0 < ((rd_L1 x11_1 0).length : Int)
        ·rw [if_pos c24] at H
         have c24b0 : decide (0 < ((rd_L1 x11_1 0).length : Int)) = true := decide_eq_true c24
         have c24b1 : decide (0 < (rd_L1 x11_1 0).length) = true := decide_eq_true (by omega)
         clear c24
         obtain ⟨y428, hy428⟩ : ∃ y_ : List Int, y_ = ((rd_L1 x11_1 0).set (0 : Int).toNat 1) := ⟨_, rfl⟩
         replace H : (spileref33_AtLeast.l1 k1 l0 t408 t416 t417 (x11_1.set (0 : Int).toNat y428) 0) = some (r1, r2, r3) := by first | (rw [hy428]; with_reducible exact H) | (have H2_ := (Option.bind_some _ _).symm.trans H; rw [hy428]; with_reducible exact H2_) | (have H2_ := (Option.bind_some _ _).symm.trans H; with_reducible exact H2_) | with_reducible exact H | (rw [hy428]; exact H) | exact H
         have Ny428 := Aside0.mk hy428
         clear hy428
         obtain ⟨y430, hy430⟩ : ∃ y_ : List (List Int), y_ = (x11_1.set (0 : Int).toNat y428) := ⟨_, rfl⟩
         replace H : (spileref33_AtLeast.l1 k1 l0 t408 t416 t417 y430 0) = some (r1, r2, r3) := by first | (rw [hy430]; with_reducible exact H) | (have H2_ := (Option.bind_some _ _).symm.trans H; rw [hy430]; with_reducible exact H2_) | (have H2_ := (Option.bind_some _ _).symm.trans H; with_reducible exact H2_) | with_reducible exact H | (rw [hy430]; exact H) | exact H
         have Ny430 := Aside0.mk hy430
         clear hy430
         have H' := Aside0.mk H
         clear H
         obtain ⟨Ao26, co26, eo26⟩ := Kd.S_slice HO_11.out
         subst eo26
         have p427 : 0 ≤ (0 : Int) := (by omega)
         have q427 : 0 < (x11_1.length : Int) := of_decide_eq_true (by first | (with_reducible assumption) | assumption)
         obtain ⟨ad427, A427_0, c427_0, e427, hx427_0, hl427_0, hi427_0⟩ := at_L1 (Kd.S_reads' HO_11.out).2.2 0 p427 q427
         cases e427
         obtain ⟨ce427, hce427, hMe427, hcc427⟩ := Kd.S_get HO_11.out [] 0 p427 (by first | exact q427 | exact of_decide_eq_true (by first | (with_reducible assumption) | assumption) | (have e_ := (Kd.S_reads' HO_11.out).1; omega))
         obtain ⟨ve427_0, rfl, ge427_0⟩ := hMe427
         have hv427_0 := hcc427 0 _ rfl
         rw [Nat.add_zero, show ((Kd.slice 3 (Kd.int .i64))).sz = 1 from rfl, Nat.mul_one] at hv427_0
         replace hv427_0 := Option.some.inj (hv427_0.symm.trans hx427_0)
         rw [hv427_0] at ge427_0
         have HL427_0 := Aside0.mk (show Kd.R (Kd.int .i64) 3 _ _ _ _ (rd_L1 x11_1 0) from ge427_0)
         clear hv427_0 ge427_0
         have HX427_0 := Aside0.mk hx427_0
         clear hcc427 hce427
         have qi427 : (0 < x11_1.length) = True := eq_true (by omega)
         (try rw [show ((0 : Int)).toNat = 0 from rfl] at hx427_0)
         (try rw [Addr.add_zero'] at hx427_0)
         have HR427_0 := Aside0.mk hi427_0
         have HC427_0 := Aside0.mk hl427_0
         clear hi427_0 hl427_0
         replace p427 := eq_true p427
         replace q427 := eq_true q427
         have p25 : 0 ≤ (0 : Int) := (by omega)
         have q25 : (0 : Int) < (((rd_L1 x11_1 0).length : Int) : Int) := of_decide_eq_true (by first | (with_reducible assumption) | assumption)
         have qi25 : (0 < (rd_L1 x11_1 0).length) = True := eq_true (by omega)
         obtain ⟨go25, co25, eo25, gb25, gl25, cl25, HG25⟩ := Kd.R_form HL427_0.out (by omega)
         (first | cases eo25 | (injection eo25 with ea_ en_ ec_; (first | subst ea_ | (injection ea_ with ea_; subst ea_)); subst ec_; clear en_))
         have GB25 := Aside0.mk gb25
         have GG25 := Aside0.mk HG25
         clear gb25 gl25 HG25
         obtain ⟨hx25_0, hf25_0⟩ := Kd.R_celln 0 HL427_0.out (0 : Int) p25 q25
         (try rw [show ((0 : Int)).toNat = 0 from rfl] at hx25_0)
         (try simp only [Nat.reduceMul, Nat.zero_mul, Nat.zero_add, Nat.reduceAdd] at hx25_0)
         (try rw [show ((0 : Int)).toNat = 0 from rfl] at hf25_0)
         (try simp only [Nat.reduceMul, Nat.zero_mul, Nat.zero_add, Nat.reduceAdd] at hf25_0)
         replace p25 := eq_true p25
         replace q25 := eq_true q25
         have hq27 : (0 : Int) < (x11_1.length : Int) := (by have h_ : (0 : Int) < ((x11_1.length : Int) : Int) := of_decide_eq_true (by first | (with_reducible assumption) | assumption); first | exact h_ | (have e_ := (Kd.S_reads' HO_11.out).1; omega) | simpa only [List.length_set, List.length_set] using h_)
         obtain ⟨oki27, ce27, hcl27, hM27, hcc27, hok27, hbk27⟩ := Kd.S_borrow HO_11.out [] (0 : Int) (by omega) hq27
         obtain ⟨ve27_0, rfl, ge27_0⟩ := hM27
         have hv27 := hcc27 0 _ rfl
         rw [Nat.add_zero, show ((Kd.slice 3 (Kd.int .i64))).sz = 1 from rfl, Nat.mul_one] at hv27
         replace hv27 := Option.some.inj (hv27.symm.trans HX427_0.out)
         subst hv27
         clear hcc27 hcl27
         replace ge27_0 := (show Kd.R (Kd.int .i64) 3 _ _ _ _ (rd_L1 x11_1 0) from ge27_0)
         have HP27 := Kd.R_putg ge27_0 (0 : Int) 1
         go_wp2_with (first | ((with_reducible refine gate_store (t := 3) (p := 50) rfl ?_); refine store_event (t := 3) (p := 50) (v := ?vo_w28) (w1 := (wr.setCell ⟨go25, 0, none⟩ (.int .i64 1))) ?hg ?ho ?hn ?hr ?_; (case ho => rfl); (case hg => rfl); (case hn => rfl); (case hr => first | (go_simp; done) | (go_simp; rfl)); intro w28 hw; have hg : wr.grownBy w28 (some go25) := (by rw [hw]; exact HP27.2); have hz_ : Kd.R (Kd.int .i64) 3 w28 w.heap.size oki27 (.slice (some ⟨go25, 0, none⟩) (rd_L1 x11_1 0).length c427_0) y428 := (by rw [hw, Ny428.out]; exact HP27.1); have hp_ : Kd.S (Kd.slice 3 (Kd.int .i64)) 27 w28 w.heap.size (fun k_ => some k_ ≠ (.slice Ao11 t408.length co11 : Value).ownBlock) (.slice (some ad427) x11_1.length co26) y430 := (by rw [Ny430.out]; exact hbk27 hg (fun k_ e_ => by injection e_ with e_; subst e_; exact ge27_0.1 _ rfl) (Kd.M_row hz_)); have hm_ := Kd.R_mono hz_ hok27; clear HP27 hbk27; have n0_ := Aside0.mk (Kd.R_grown1 (by (with_reducible repeat (first | apply Kd.R_alloc | apply Kd.R_drewN | apply Kd.R_drew)); exact HO_7.out) rfl hg ((HL427_0.out.1 _ rfl).1)); have n1_ := Aside0.mk (hp_); have n2_ := Aside0.mk ((by rw [hw]; exact lqS (HB.out) GB25.out : Below w.heap.size w w28)); have n3_ := Aside0.mk (hm_); have n4_ := Aside0.mk ((Kd.R_reads' hm_).2.1); clear HO_7; clear HO_11; clear HB; clear HL427_0; have HO_7 := n0_; have HO_11 := n1_; have HB := n2_; have HL444 := n3_; have HC429 := n4_; clear n0_ n1_ n2_ n3_ n4_; clear hg hw hp_ hz_ hm_ hok27))
         go_loopg [13] k1 (fun kq v13 w' => ∃ (x7_2 : List Int) (x11_2 : List (List Int)) (x13_2 : Int), v13 = .int .i64 x13_2 ∧ Aside0 (spileref33_AtLeast.l1 kq l0 x7_2 t416 t417 x11_2 x13_2 = some (r1, r2, r3)) ∧ Aside0 (kq ≤ k1) ∧ Aside0 (Kd.R (Kd.int .i64) 3 w' w.heap.size (fun _ => True) (.slice Ao11 t408.length co11) x7_2) ∧ Aside0 (Kd.S (Kd.slice 3 (Kd.int .i64)) 27 w' w.heap.size (fun k_ => some k_ ≠ ((.slice Ao11 t408.length co11) : Value).ownBlock) (.slice (some ad427) x11_1.length co26) x11_2) ∧ Aside0 (Below w.heap.size w w'))
         case atStart => exact ⟨(t408), (y430), (0), (by first | rfl | (simp; done) | (simp [*]; done)), H', ⟨Nat.le_refl _⟩, ⟨by (with_reducible repeat (first | apply Kd.R_alloc | apply Kd.R_drewN | apply Kd.R_drew)); exact HO_7.out⟩, ⟨by (with_reducible repeat (first | apply Kd.S_alloc | apply Kd.S_drewN | apply Kd.S_drew)); exact HO_11.out⟩, ⟨by repeat (first | (with_reducible first | exact HB.out | apply lqA | apply lqN | apply lqD) | exact HB.out)⟩⟩
         case round =>
          clear H'
          try clear c1
          try clear q1
          try clear c2
          try clear p2
          try clear q2
          try clear hx2
          try clear qi2
          try clear hf2
          try clear c4
          try clear c4b0
          try clear c4b1
          try clear p4
          try clear q4
          try clear hx4
          try clear qi4
          try clear c5
          try clear c5b0
          try clear c5b1
          try clear c6
          try clear c6b0
          try clear c6b1
          try clear p6
          try clear q10
          try clear c14
          try clear c14b0
          try clear c16
          try clear c16b0
          try clear c16b1
          try clear c17
          try clear c17b0
          try clear c17b1
          try clear c18
          try clear c23
          try clear c23b0
          try clear c23b1
          try clear c24
          try clear c24b0
          try clear c24b1
          try clear p25
          try clear q25
          try clear hx25
          try clear qi25
          try clear hf25
          try clear c26
          try clear c27
          try clear q27
          try clear hx25_0
          try clear hx427_0
          try clear p2
          try clear p25
          try clear p427
          try clear q1
          try clear q10
          try clear q25
          try clear q427
          obtain ⟨x7_2, x11_2, x13_2, rfl, HA, HK2, HO_7, HO_11, HB⟩ := hrel
          have hl7_2 := (Kd.R_reads' HO_7.out).1
          rw [hl7_2] at HO_7
          (try simp only [hl7_2])
          (try simp only [hl7_2] at HO_11)
          have hl11_2 := (Kd.S_reads' HO_11.out).1
          rw [hl11_2] at HO_11
          (try simp only [hl11_2])
          (try simp only [hl11_2] at HO_7)
          cases gk with
          | zero => exact absurd HA.out (by simp [spileref33_AtLeast.l1])
          | succ k2 =>
           have H := HA.out
           clear HA
           simp only [spileref33_AtLeast.l1] at H
           by_cases c29 : x13_2 < (x7_2.length : Int)
           ·rw [if_pos c29] at H
            have c29b0 : decide (x13_2 < (x7_2.length : Int)) = true := decide_eq_true c29
            clear c29
            have H' := Aside0.mk H
            clear H
            go_wp2
            go_loopg [14] k2 (fun kq v14 w' => ∃ (x7_3 : List Int) (x11_3 : List (List Int)) (x14_3 : Int), v14 = .int .i64 x14_3 ∧ Aside0 (spileref33_AtLeast.l2 kq l0 x7_3 t416 t417 x11_3 x13_2 x14_3 = some (r1, r2, r3)) ∧ Aside0 (kq ≤ k2) ∧ Aside0 (Kd.R (Kd.int .i64) 3 w' w.heap.size (fun _ => True) (.slice Ao11 x7_2.length co11) x7_3) ∧ Aside0 (Kd.S (Kd.slice 3 (Kd.int .i64)) 27 w' w.heap.size (fun k_ => some k_ ≠ ((.slice Ao11 x7_2.length co11) : Value).ownBlock) (.slice (some ad427) x11_2.length co26) x11_3) ∧ Aside0 (Below w.heap.size w w'))
            case atStart => exact ⟨(x7_2), (x11_2), ((l0.length : Int)), (by first | rfl | (simp; done) | (simp [*]; done)), H', ⟨Nat.le_refl _⟩, ⟨by (try simp only [hl7_2]); (try simp only [hl11_2]); (with_reducible repeat (first | apply Kd.R_alloc | apply Kd.R_drewN | apply Kd.R_drew)); exact HO_7.out⟩, ⟨by (try simp only [hl7_2]); (try simp only [hl11_2]); (with_reducible repeat (first | apply Kd.S_alloc | apply Kd.S_drewN | apply Kd.S_drew)); exact HO_11.out⟩, ⟨by repeat (first | (with_reducible first | exact HB.out | apply lqA | apply lqN | apply lqD) | exact HB.out)⟩⟩
            case round =>
             clear H'
             try clear c1
             try clear q1
             try clear c2
             try clear p2
             try clear q2
             try clear hx2
             try clear qi2
             try clear hf2
             try clear c4
             try clear c4b0
             try clear c4b1
             try clear p4
             try clear q4
             try clear hx4
             try clear qi4
             try clear c5
             try clear c5b0
             try clear c5b1
             try clear c6
             try clear c6b0
             try clear c6b1
             try clear p6
             try clear q10
             try clear c14
             try clear c14b0
             try clear c16
             try clear c16b0
             try clear c16b1
             try clear c17
             try clear c17b0
             try clear c17b1
             try clear c18
             try clear c23
             try clear c23b0
             try clear c23b1
             try clear c24
             try clear c24b0
             try clear c24b1
             try clear p25
             try clear q25
             try clear hx25
             try clear qi25
             try clear hf25
             try clear c26
             try clear c27
             try clear q27
             try clear c29
             try clear c29b0
             try clear hx25_0
             try clear hx427_0
             try clear p2
             try clear p25
             try clear p4
             try clear p427
             try clear p6
             try clear q1
             try clear q10
             try clear q2
             try clear q25
             try clear q27
             try clear q4
             try clear q427
             obtain ⟨x7_3, x11_3, x14_3, rfl, HA, HK3, HO_7, HO_11, HB⟩ := hrel
             have hl7_3 := (Kd.R_reads' HO_7.out).1
             rw [hl7_3] at HO_7
             (try simp only [hl7_3])
             (try simp only [hl7_3] at HO_11)
             have hl11_3 := (Kd.S_reads' HO_11.out).1
             rw [hl11_3] at HO_11
             (try simp only [hl11_3])
             (try simp only [hl11_3] at HO_7)
             cases gk with
             | zero => exact absurd HA.out (by simp [spileref33_AtLeast.l2])
             | succ k3 =>
              have H := HA.out
              clear HA
              simp only [spileref33_AtLeast.l2] at H
              by_cases c30 : x14_3 > 0
              ·rw [if_pos c30] at H
               have c30b0 : decide (0 < x14_3) = true := decide_eq_true c30
               clear c30
               have H' := Aside0.mk H
               clear H
               go_wp2
               go_loopg [15] k3 (fun kq v15 w' => ∃ (x7_4 : List Int) (x11_4 : List (List Int)) (x15_4 : Int), v15 = .int .i64 x15_4 ∧ Aside0 (spileref33_AtLeast.l3 kq l0 x7_4 t416 t417 x11_4 x13_2 x14_3 x15_4 = some (r1, r2, r3)) ∧ Aside0 (kq ≤ k3) ∧ Aside0 (Kd.R (Kd.int .i64) 3 w' w.heap.size (fun _ => True) (.slice Ao11 x7_3.length co11) x7_4) ∧ Aside0 (Kd.S (Kd.slice 3 (Kd.int .i64)) 27 w' w.heap.size (fun k_ => some k_ ≠ ((.slice Ao11 x7_3.length co11) : Value).ownBlock) (.slice (some ad427) x11_3.length co26) x11_4) ∧ Aside0 (Below w.heap.size w w'))
               case atStart => exact ⟨(x7_3), (x11_3), (t417), (by first | rfl | (simp; done) | (simp [*]; done)), H', ⟨Nat.le_refl _⟩, ⟨by (try simp only [hl7_2]); (try simp only [hl11_2]); (try simp only [hl7_3]); (try simp only [hl11_3]); (with_reducible repeat (first | apply Kd.R_alloc | apply Kd.R_drewN | apply Kd.R_drew)); exact HO_7.out⟩, ⟨by (try simp only [hl7_2]); (try simp only [hl11_2]); (try simp only [hl7_3]); (try simp only [hl11_3]); (with_reducible repeat (first | apply Kd.S_alloc | apply Kd.S_drewN | apply Kd.S_drew)); exact HO_11.out⟩, ⟨by repeat (first | (with_reducible first | exact HB.out | apply lqA | apply lqN | apply lqD) | exact HB.out)⟩⟩
               case round =>
                clear H'
                try clear c1
                try clear q1
                try clear c2
                try clear p2
                try clear q2
                try clear hx2
                try clear qi2
                try clear hf2
                try clear c3
                try clear c4
                try clear c4b0
                try clear c4b1
                try clear p4
                try clear q4
                try clear hx4
                try clear qi4
                try clear c5
                try clear c5b0
                try clear c5b1
                try clear c6
                try clear c6b0
                try clear c6b1
                try clear p6
                try clear q10
                try clear c14
                try clear c14b0
                try clear c16
                try clear c16b0
                try clear c16b1
                try clear c17
                try clear c17b0
                try clear c17b1
                try clear c18
                try clear c23
                try clear c23b0
                try clear c23b1
                try clear c24
                try clear c24b0
                try clear c24b1
                try clear p25
                try clear q25
                try clear hx25
                try clear qi25
                try clear hf25
                try clear c26
                try clear c27
                try clear q27
                try clear c29
                try clear c29b0
                try clear c30
                try clear c30b0
                try clear hx25_0
                try clear hx427_0
                try clear p2
                try clear p25
                try clear p4
                try clear p427
                try clear p6
                try clear q1
                try clear q10
                try clear q2
                try clear q25
                try clear q27
                try clear q4
                try clear q427
                obtain ⟨x7_4, x11_4, x15_4, rfl, HA, HK4, HO_7, HO_11, HB⟩ := hrel
                have hl7_4 := (Kd.R_reads' HO_7.out).1
                rw [hl7_4] at HO_7
                (try simp only [hl7_4])
                (try simp only [hl7_4] at HO_11)
                have hl11_4 := (Kd.S_reads' HO_11.out).1
                rw [hl11_4] at HO_11
                (try simp only [hl11_4])
                (try simp only [hl11_4] at HO_7)
                cases gk with
                | zero => exact absurd HA.out (by simp [spileref33_AtLeast.l3])
                | succ k4 =>
                 have H := HA.out
                 clear HA
                 simp only [spileref33_AtLeast.l3] at H
                 by_cases c31 : 0 ≤ x13_2
                 ·rw [if_pos c31] at H
                  have c31b0 : decide (0 ≤ x13_2) = true := decide_eq_true c31
                  clear c31
                  by_cases c32 : x13_2 < (x7_4.length : Int)
                  ·rw [if_pos c32] at H
                   have c32b0 : decide (x13_2 < (x7_4.length : Int)) = true := decide_eq_true c32
                   clear c32
                   by_cases c33 : x15_4 ≥ (rd x7_4 x13_2)
                   ·rw [if_pos c33] at H
                    have c33b0 : decide ((rd x7_4 x13_2) ≤ x15_4) = true := decide_eq_true c33
                    clear c33
                    by_cases c34 : 0 ≤ x14_3
                    ·rw [if_pos c34] at H
                     have c34b0 : decide (0 ≤ x14_3) = true := decide_eq_true c34
                     clear c34
                     by_cases c35 : x14_3 < (x11_4.length : Int)
                     ·rw [if_pos c35] at H
                      have c35b0 : decide (x14_3 < (x11_4.length : Int)) = true := decide_eq_true c35
                      clear c35
                      by_cases c36 : 0 ≤ x15_4
                      ·rw [if_pos c36] at H
                       have c36b0 : decide (0 ≤ x15_4) = true := decide_eq_true c36
                       clear c36
                       by_cases c37 : x15_4 < ((rd_L1 x11_4 x14_3).length : Int)
                       ·rw [if_pos c37] at H
                        have c37b0 : decide (x15_4 < ((rd_L1 x11_4 x14_3).length : Int)) = true := decide_eq_true c37
                        clear c37
                        obtain ⟨ji38, hji38⟩ : ∃ j_ : Int, (wrap64 (x14_3 - 1)) = j_ := ⟨_, rfl⟩
                        replace H : (if 0 ≤ (ji38) then (if (ji38) < (x11_4.length : Int) then (if 0 ≤ (wrap64 (x15_4 - (rd x7_4 x13_2))) then (if (wrap64 (x15_4 - (rd x7_4 x13_2))) < ((rd_L1 x11_4 (ji38)).length : Int) then (spileref33_AtLeast.l3 k4 l0 x7_4 t416 t417 (x11_4.set (x14_3 : Int).toNat ((rd_L1 x11_4 x14_3).set (x15_4 : Int).toNat (wrap64 ((rd (rd_L1 x11_4 x14_3) x15_4) + (rd (rd_L1 x11_4 (ji38)) (wrap64 (x15_4 - (rd x7_4 x13_2)))))))) x13_2 x14_3 (wrap64 (x15_4 - 1))) else (none)) else (none)) else (none)) else (none)) = some (r1, r2, r3) := by first | (rw [hji38] at H; exact H) | (simp only [hji38] at H ⊢; exact H)
                        have hji38w : (IntKind.i64.wrap (x14_3 - 1)) = ji38 := (i64_w _).trans hji38
                        by_cases c39 : 0 ≤ (ji38)
                        ·rw [if_pos c39] at H
                         have c39b0 : decide (0 ≤ (ji38)) = true := decide_eq_true c39
                         clear c39
                         by_cases c40 : (ji38) < (x11_4.length : Int)
                         ·rw [if_pos c40] at H
                          have c40b0 : decide ((ji38) < (x11_4.length : Int)) = true := decide_eq_true c40
                          clear c40
                          obtain ⟨ji41, hji41⟩ : ∃ j_ : Int, (wrap64 (x15_4 - (rd x7_4 x13_2))) = j_ := ⟨_, rfl⟩
                          replace H : (if 0 ≤ (ji41) then (if (ji41) < ((rd_L1 x11_4 (ji38)).length : Int) then (spileref33_AtLeast.l3 k4 l0 x7_4 t416 t417 (x11_4.set (x14_3 : Int).toNat ((rd_L1 x11_4 x14_3).set (x15_4 : Int).toNat (wrap64 ((rd (rd_L1 x11_4 x14_3) x15_4) + (rd (rd_L1 x11_4 (ji38)) (ji41)))))) x13_2 x14_3 (wrap64 (x15_4 - 1))) else (none)) else (none)) = some (r1, r2, r3) := by first | (rw [hji41] at H; exact H) | (simp only [hji41] at H ⊢; exact H)
                          have hji41w : (IntKind.i64.wrap (x15_4 - (rd x7_4 x13_2))) = ji41 := (i64_w _).trans hji41
                          by_cases c42 : 0 ≤ (ji41)
                          ·rw [if_pos c42] at H
                           have c42b0 : decide (0 ≤ (ji41)) = true := decide_eq_true c42
                           clear c42
                           by_cases c43 : (ji41) < ((rd_L1 x11_4 (ji38)).length : Int)
                           ·rw [if_pos c43] at H
                            have c43b0 : decide ((ji41) < ((rd_L1 x11_4 (ji38)).length : Int)) = true := decide_eq_true c43
                            clear c43
                            obtain ⟨y438, hy438⟩ : ∃ y_ : List Int, y_ = ((rd_L1 x11_4 x14_3).set (x15_4 : Int).toNat (wrap64 ((rd (rd_L1 x11_4 x14_3) x15_4) + (rd (rd_L1 x11_4 (ji38)) (ji41))))) := ⟨_, rfl⟩
                            replace H : (spileref33_AtLeast.l3 k4 l0 x7_4 t416 t417 (x11_4.set (x14_3 : Int).toNat y438) x13_2 x14_3 (wrap64 (x15_4 - 1))) = some (r1, r2, r3) := by first | (rw [hy438]; with_reducible exact H) | (have H2_ := (Option.bind_some _ _).symm.trans H; rw [hy438]; with_reducible exact H2_) | (have H2_ := (Option.bind_some _ _).symm.trans H; with_reducible exact H2_) | with_reducible exact H | (rw [hy438]; exact H) | exact H
                            have Ny438 := Aside0.mk hy438
                            clear hy438
                            obtain ⟨y440, hy440⟩ : ∃ y_ : List (List Int), y_ = (x11_4.set (x14_3 : Int).toNat y438) := ⟨_, rfl⟩
                            replace H : (spileref33_AtLeast.l3 k4 l0 x7_4 t416 t417 y440 x13_2 x14_3 (wrap64 (x15_4 - 1))) = some (r1, r2, r3) := by first | (rw [hy440]; with_reducible exact H) | (have H2_ := (Option.bind_some _ _).symm.trans H; rw [hy440]; with_reducible exact H2_) | (have H2_ := (Option.bind_some _ _).symm.trans H; with_reducible exact H2_) | with_reducible exact H | (rw [hy440]; exact H) | exact H
                            have Ny440 := Aside0.mk hy440
                            clear hy440
                            have H' := Aside0.mk H
                            clear H
                            have p431 : 0 ≤ (x13_2 : Int) := of_decide_eq_true (by first | (with_reducible assumption) | assumption)
                            have q431 : x13_2 < (x7_4.length : Int) := of_decide_eq_true (by first | (with_reducible assumption) | assumption)
                            obtain ⟨ad431, e431, hx431_0⟩ := Kd.at_int (Kd.R_reads' HO_7.out).2.2 x13_2 p431 q431
                            cases e431
                            replace p431 := eq_true p431
                            replace q431 := eq_true q431
                            try go_wp2
                            have n0_ := Aside0.mk (Kd.R_drew HO_7.out)
                            have n1_ := Aside0.mk (Kd.S_drew HO_11.out)
                            have n2_ := Aside0.mk (lqD HB.out)
                            clear HO_7
                            clear HO_11
                            clear HB
                            have HO_7 := n0_
                            have HO_11 := n1_
                            have HB := n2_
                            clear n0_ n1_ n2_
                            have p432 : 0 ≤ (x14_3 : Int) := of_decide_eq_true (by first | (with_reducible assumption) | assumption)
                            have q432 : x14_3 < (x11_4.length : Int) := of_decide_eq_true (by first | (with_reducible assumption) | assumption)
                            obtain ⟨ad432, A432_0, c432_0, e432, hx432_0, hl432_0, hi432_0⟩ := at_L1 (Kd.S_reads' HO_11.out).2.2 x14_3 p432 q432
                            obtain rfl : ad427 = ad432 := (by injection e432)
                            obtain ⟨ce432, hce432, hMe432, hcc432⟩ := Kd.S_get HO_11.out [] x14_3 p432 (by first | exact q432 | exact of_decide_eq_true (by first | (with_reducible assumption) | assumption) | (have e_ := (Kd.S_reads' HO_11.out).1; omega))
                            obtain ⟨ve432_0, rfl, ge432_0⟩ := hMe432
                            have hv432_0 := hcc432 0 _ rfl
                            rw [Nat.add_zero, show ((Kd.slice 3 (Kd.int .i64))).sz = 1 from rfl, Nat.mul_one] at hv432_0
                            replace hv432_0 := Option.some.inj (hv432_0.symm.trans hx432_0)
                            rw [hv432_0] at ge432_0
                            have HL432_0 := Aside0.mk (show Kd.R (Kd.int .i64) 3 _ _ _ _ (rd_L1 x11_4 x14_3) from ge432_0)
                            clear hv432_0 ge432_0
                            have HX432_0 := Aside0.mk hx432_0
                            clear hcc432 hce432
                            have HR432_0 := Aside0.mk hi432_0
                            have HC432_0 := Aside0.mk hl432_0
                            clear hi432_0 hl432_0
                            replace p432 := eq_true p432
                            replace q432 := eq_true q432
                            have p433 : 0 ≤ (x14_3 : Int) := of_decide_eq_true (by first | (with_reducible assumption) | assumption)
                            have q433 : x14_3 < (x11_4.length : Int) := of_decide_eq_true (by first | (with_reducible assumption) | assumption)
                            obtain ⟨ad433, A433_0, c433_0, e433, hx433_0, hl433_0, hi433_0⟩ := at_L1 (Kd.S_reads' HO_11.out).2.2 x14_3 p433 q433
                            obtain rfl : ad427 = ad433 := (by injection e433)
                            obtain ⟨ce433, hce433, hMe433, hcc433⟩ := Kd.S_get HO_11.out [] x14_3 p433 (by first | exact q433 | exact of_decide_eq_true (by first | (with_reducible assumption) | assumption) | (have e_ := (Kd.S_reads' HO_11.out).1; omega))
                            obtain ⟨ve433_0, rfl, ge433_0⟩ := hMe433
                            have hv433_0 := hcc433 0 _ rfl
                            rw [Nat.add_zero, show ((Kd.slice 3 (Kd.int .i64))).sz = 1 from rfl, Nat.mul_one] at hv433_0
                            replace hv433_0 := Option.some.inj (hv433_0.symm.trans hx433_0)
                            rw [hv433_0] at ge433_0
                            have HL433_0 := Aside0.mk (show Kd.R (Kd.int .i64) 3 _ _ _ _ (rd_L1 x11_4 x14_3) from ge433_0)
                            clear hv433_0 ge433_0
                            have HX433_0 := Aside0.mk hx433_0
                            clear hcc433 hce433
                            have HR433_0 := Aside0.mk hi433_0
                            have HC433_0 := Aside0.mk hl433_0
                            clear hi433_0 hl433_0
                            replace p433 := eq_true p433
                            replace q433 := eq_true q433
                            have ea_ := Option.some.inj (hx432_0.symm.trans hx433_0)
                            injection ea_ with ea_ en_ ec_
                            subst ea_
                            subst ec_
                            clear en_
                            have p434 : 0 ≤ (x15_4 : Int) := of_decide_eq_true (by first | (with_reducible assumption) | assumption)
                            have q434 : x15_4 < ((rd_L1 x11_4 x14_3).length : Int) := of_decide_eq_true (by first | (with_reducible assumption) | assumption)
                            obtain ⟨ad434, e434, hx434_0⟩ := Kd.at_int (by repeat (first | (with_reducible exact HR433_0.out) | (with_reducible refine Kd.C_alloc ?_ _) | (with_reducible refine Kd.C_drewN ?_ _) | (with_reducible refine Kd.C_drew ?_) | exact HR433_0.out)) x15_4 p434 q434
                            cases e434
                            replace p434 := eq_true p434
                            replace q434 := eq_true q434
                            have p435 : 0 ≤ ((ji38) : Int) := of_decide_eq_true (by first | (with_reducible assumption) | assumption)
                            have q435 : (ji38) < (x11_4.length : Int) := of_decide_eq_true (by first | (with_reducible assumption) | assumption)
                            obtain ⟨ad435, A435_0, c435_0, e435, hx435_0, hl435_0, hi435_0⟩ := at_L1 (Kd.S_reads' HO_11.out).2.2 (ji38) p435 q435
                            obtain rfl : ad427 = ad435 := (by injection e435)
                            obtain ⟨ce435, hce435, hMe435, hcc435⟩ := Kd.S_get HO_11.out [] (ji38) p435 (by first | exact q435 | exact of_decide_eq_true (by first | (with_reducible assumption) | assumption) | (have e_ := (Kd.S_reads' HO_11.out).1; omega))
                            obtain ⟨ve435_0, rfl, ge435_0⟩ := hMe435
                            have hv435_0 := hcc435 0 _ rfl
                            rw [Nat.add_zero, show ((Kd.slice 3 (Kd.int .i64))).sz = 1 from rfl, Nat.mul_one] at hv435_0
                            replace hv435_0 := Option.some.inj (hv435_0.symm.trans hx435_0)
                            rw [hv435_0] at ge435_0
                            have HL435_0 := Aside0.mk (show Kd.R (Kd.int .i64) 3 _ _ _ _ (rd_L1 x11_4 (ji38)) from ge435_0)
                            clear hv435_0 ge435_0
                            have HX435_0 := Aside0.mk hx435_0
                            clear hcc435 hce435
                            have HR435_0 := Aside0.mk hi435_0
                            have HC435_0 := Aside0.mk hl435_0
                            clear hi435_0 hl435_0
                            replace p435 := eq_true p435
                            replace q435 := eq_true q435
                            have p436 : 0 ≤ (x13_2 : Int) := of_decide_eq_true (by first | (with_reducible assumption) | assumption)
                            have q436 : x13_2 < (x7_4.length : Int) := of_decide_eq_true (by first | (with_reducible assumption) | assumption)
                            obtain ⟨ad436, e436, hx436_0⟩ := Kd.at_int (Kd.R_reads' HO_7.out).2.2 x13_2 p436 q436
                            obtain rfl : ad431 = ad436 := (by injection e436)
                            replace p436 := eq_true p436
                            replace q436 := eq_true q436
                            have p437 : 0 ≤ ((ji41) : Int) := of_decide_eq_true (by first | (with_reducible assumption) | assumption)
                            have q437 : (ji41) < ((rd_L1 x11_4 (ji38)).length : Int) := of_decide_eq_true (by first | (with_reducible assumption) | assumption)
                            obtain ⟨ad437, e437, hx437_0⟩ := Kd.at_int (by repeat (first | (with_reducible exact HR435_0.out) | (with_reducible refine Kd.C_alloc ?_ _) | (with_reducible refine Kd.C_drewN ?_ _) | (with_reducible refine Kd.C_drew ?_) | exact HR435_0.out)) (ji41) p437 q437
                            cases e437
                            replace p437 := eq_true p437
                            replace q437 := eq_true q437
                            have p44 : 0 ≤ (x15_4 : Int) := of_decide_eq_true (by first | (with_reducible assumption) | assumption)
                            have q44 : (x15_4 : Int) < (((rd_L1 x11_4 x14_3).length : Int) : Int) := of_decide_eq_true (by first | (with_reducible assumption) | assumption)
                            obtain ⟨go44, co44, eo44, gb44, gl44, cl44, HG44⟩ := Kd.R_form HL432_0.out (by omega)
                            (first | cases eo44 | (injection eo44 with ea_ en_ ec_; (first | subst ea_ | (injection ea_ with ea_; subst ea_)); subst ec_; clear en_))
                            have GB44 := Aside0.mk gb44
                            have GG44 := Aside0.mk HG44
                            clear gb44 gl44 HG44
                            (first | simp only [add_plain] at hx434_0 | skip)
                            obtain ⟨hx44_0, hf44_0⟩ := Kd.R_celln 0 HL432_0.out (x15_4 : Int) p44 q44
                            replace p44 := eq_true p44
                            replace q44 := eq_true q44
                            have hq46 : (x14_3 : Int) < (x11_4.length : Int) := (by have h_ : (x14_3 : Int) < ((x11_4.length : Int) : Int) := of_decide_eq_true (by first | (with_reducible assumption) | assumption); first | exact h_ | (have e_ := (Kd.S_reads' HO_11.out).1; omega) | simpa only [List.length_set, List.length_set] using h_)
                            obtain ⟨oki46, ce46, hcl46, hM46, hcc46, hok46, hbk46⟩ := Kd.S_borrow HO_11.out [] (x14_3 : Int) (of_decide_eq_true (by first | (with_reducible assumption) | assumption)) hq46
                            obtain ⟨ve46_0, rfl, ge46_0⟩ := hM46
                            have hv46 := hcc46 0 _ rfl
                            rw [Nat.add_zero, show ((Kd.slice 3 (Kd.int .i64))).sz = 1 from rfl, Nat.mul_one] at hv46
                            replace hv46 := Option.some.inj (hv46.symm.trans HX432_0.out)
                            subst hv46
                            clear hcc46 hcl46
                            replace ge46_0 := (show Kd.R (Kd.int .i64) 3 _ _ _ _ (rd_L1 x11_4 x14_3) from ge46_0)
                            have HP46 := Kd.R_putg ge46_0 (x15_4 : Int) (wrap64 ((rd (rd_L1 x11_4 x14_3) x15_4) + (rd (rd_L1 x11_4 (ji38)) (ji41))))
                            rw [← Ny438.out] at HP46
                            have HS46 := hbk46 HP46.2 (fun k_ e_ => by injection e_ with e_; subst e_; exact ge46_0.1 _ rfl) (x' := y438) (Kd.M_row HP46.1)
                            rw [← Ny440.out] at HS46
                            have HQ46 := Aside0.mk HS46
                            clear HP46 HS46 hbk46 hok46
                            refine start_ (n := 28) (S := fun w' => w'.cell? (ad427.add (x14_3).toNat) = some (.slice (some ⟨go44, 0, none⟩) (rd_L1 x11_4 x14_3).length c432_0) ∧ w'.cell? (ad427.add (x14_3).toNat) = some (.slice (some ⟨go44, 0, none⟩) (rd_L1 x11_4 x14_3).length c432_0) ∧ w'.cell? ⟨go44, (x15_4).toNat, none⟩ = some (.int .i64 (rd (rd_L1 x11_4 x14_3) x15_4)) ∧ w'.cell? (ad427.add ((ji38)).toNat) = some (.slice (some ad437) (rd_L1 x11_4 (ji38)).length c435_0) ∧ w'.cell? (ad431.add (x13_2).toNat) = some (.int .i64 (rd x7_4 x13_2)) ∧ w'.cell? (ad437.add ((ji41)).toNat) = some (.int .i64 (rd (rd_L1 x11_4 (ji38)) (ji41)))) (ds := [27]) #[false, false, false, false, false, false, false, false, false, false, false, false, false, false, false, false, false, false, false, false, false, false, false, false, false, false, false, false] (by kernel_rfl) rfl rfl ⟨hx432_0, hx433_0, hx434_0, hx435_0, hx436_0, hx437_0⟩ (fun hHeld => ?_); refine with_tabW spileref33_AtLeast.tab20 spileref33_AtLeast.bits20 (fun HT_ HW_ => ?_)
                            generalize wr.drew = w45 at HO_7 HO_11 HB GG44 HL432_0 HL433_0 HL435_0 HQ46 HR432_0 HR433_0 HR435_0 HX432_0 HX433_0 HX435_0 hf44_0 hx432_0 hx433_0 hx434_0 hx435_0 hx436_0 hx437_0 hx44_0 hHeld ⊢
                            refine pure_ (i := 0) (N := some 72) (v := ?_) (a' := ?_) #[true, false, false, false, false, false, false, false, false, false, false, false, false, false, false, false, false, false, false, false, false, false, false, false, false, false, false, false] rfl rfl (any_of HT_.out (by kernel_rfl)) (fun _ _ _ h => h) (Or.inl ⟨by rfl, ?_⟩) ?_ ?_
                            rotate_left
                            ·intro w'
                             go_simp
                             with_reducible rfl
                            rotate_left
                            ·simp only [Act.put, List.setIfInBounds_toArray, List.set_cons_zero, List.set_cons_succ, i64_w, i32_w]
                             rfl
                            refine pure_ (i := 1) (N := some 73) (v := ?_) (a' := ?_) #[true, true, false, false, false, false, false, false, false, false, false, false, false, false, false, false, false, false, false, false, false, false, false, false, false, false, false, false] rfl rfl (any_of HT_.out (by kernel_rfl)) (fun _ _ _ h => h) (Or.inl ⟨by rfl, ?_⟩) ?_ ?_
                            rotate_left
                            ·intro w'
                             go_simp
                             with_reducible rfl
                            rotate_left
                            ·simp only [Act.put, List.setIfInBounds_toArray, List.set_cons_zero, List.set_cons_succ, i64_w, i32_w]
                             rfl
                            refine pure_ (i := 2) (N := some 74) (v := ?_) (a' := ?_) #[true, true, true, false, false, false, false, false, false, false, false, false, false, false, false, false, false, false, false, false, false, false, false, false, false, false, false, false] rfl rfl (any_of HT_.out (by kernel_rfl)) (fun _ _ _ h => h) (Or.inl ⟨by rfl, ?_⟩) ?_ ?_
                            rotate_left
                            ·intro w'
                             go_simp
                             with_reducible rfl
                            rotate_left
                            ·simp only [Act.put, List.setIfInBounds_toArray, List.set_cons_zero, List.set_cons_succ, i64_w, i32_w]
                             rfl
                            refine pure_ (i := 4) (N := some 76) (v := ?_) (a' := ?_) #[true, true, true, false, true, false, false, false, false, false, false, false, false, false, false, false, false, false, false, false, false, false, false, false, false, false, false, false] rfl rfl (any_of HT_.out (by kernel_rfl)) (fun _ _ _ h => h) (Or.inl ⟨by rfl, ?_⟩) ?_ ?_
                            rotate_left
                            ·intro w'
                             go_simp
                             with_reducible rfl
                            rotate_left
                            ·simp only [Act.put, List.setIfInBounds_toArray, List.set_cons_zero, List.set_cons_succ, i64_w, i32_w]
                             rfl
                            refine pure_ (i := 5) (N := some 77) (v := ?_) (a' := ?_) #[true, true, true, false, true, true, false, false, false, false, false, false, false, false, false, false, false, false, false, false, false, false, false, false, false, false, false, false] rfl rfl (any_of HT_.out (by kernel_rfl)) (fun _ _ _ h => h) (Or.inl ⟨by rfl, ?_⟩) ?_ ?_
                            rotate_left
                            ·intro w'
                             go_simp
                             with_reducible rfl
                            rotate_left
                            ·simp only [Act.put, List.setIfInBounds_toArray, List.set_cons_zero, List.set_cons_succ, i64_w, i32_w]
                             rfl
                            refine pure_ (i := 6) (N := some 78) (v := ?_) (a' := ?_) #[true, true, true, false, true, true, true, false, false, false, false, false, false, false, false, false, false, false, false, false, false, false, false, false, false, false, false, false] rfl rfl (any_of HT_.out (by kernel_rfl)) (fun _ _ _ h => h) (Or.inl ⟨by rfl, ?_⟩) ?_ ?_
                            rotate_left
                            ·intro w'
                             go_simp
                             with_reducible rfl
                            rotate_left
                            ·simp only [Act.put, List.setIfInBounds_toArray, List.set_cons_zero, List.set_cons_succ, i64_w, i32_w]
                             rfl
                            refine pure_ (i := 7) (N := some 79) (v := ?_) (a' := ?_) #[true, true, true, false, true, true, true, true, false, false, false, false, false, false, false, false, false, false, false, false, false, false, false, false, false, false, false, false] rfl rfl (any_of HT_.out (by kernel_rfl)) (fun _ _ _ h => h) (Or.inl ⟨by rfl, ?_⟩) ?_ ?_
                            rotate_left
                            ·intro w'
                             go_simp
                             with_reducible rfl
                            rotate_left
                            ·simp only [Act.put, List.setIfInBounds_toArray, List.set_cons_zero, List.set_cons_succ, i64_w, i32_w]
                             rfl
                            refine pure_ (i := 9) (N := some 81) (v := ?_) (a' := ?_) #[true, true, true, false, true, true, true, true, false, true, false, false, false, false, false, false, false, false, false, false, false, false, false, false, false, false, false, false] rfl rfl (any_of HT_.out (by kernel_rfl)) (fun _ _ _ h => h) (Or.inl ⟨by rfl, ?_⟩) ?_ ?_
                            rotate_left
                            ·intro w'
                             go_simp
                             with_reducible rfl
                            rotate_left
                            ·simp only [Act.put, List.setIfInBounds_toArray, List.set_cons_zero, List.set_cons_succ, i64_w, i32_w]
                             rfl
                            refine pure_ (i := 12) (N := some 84) (v := ?_) (a' := ?_) #[true, true, true, false, true, true, true, true, false, true, false, false, true, false, false, false, false, false, false, false, false, false, false, false, false, false, false, false] rfl rfl (any_of HT_.out (by kernel_rfl)) (fun _ _ _ h => h) (Or.inl ⟨by rfl, ?_⟩) ?_ ?_
                            rotate_left
                            ·intro w'
                             go_simp
                             with_reducible rfl
                            rotate_left
                            ·simp only [Act.put, List.setIfInBounds_toArray, List.set_cons_zero, List.set_cons_succ, i64_w, i32_w]
                             rfl
                            refine pure_ (i := 13) (N := some 85) (v := ?_) (a' := ?_) #[true, true, true, false, true, true, true, true, false, true, false, false, true, true, false, false, false, false, false, false, false, false, false, false, false, false, false, false] rfl rfl (any_of HT_.out (by kernel_rfl)) (fun _ _ _ h => h) (Or.inl ⟨by rfl, ?_⟩) ?_ ?_
                            rotate_left
                            ·intro w'
                             go_simp
                             with_reducible rfl
                            rotate_left
                            ·simp only [Act.put, List.setIfInBounds_toArray, List.set_cons_zero, List.set_cons_succ, i64_w, i32_w]
                             rfl
                            refine pure_ (i := 14) (N := some 86) (v := ?_) (a' := ?_) #[true, true, true, false, true, true, true, true, false, true, false, false, true, true, true, false, false, false, false, false, false, false, false, false, false, false, false, false] rfl rfl (any_of HT_.out (by kernel_rfl)) (fun _ _ _ h => h) (Or.inl ⟨by rfl, ?_⟩) ?_ ?_
                            rotate_left
                            ·intro w'
                             go_simp
                             with_reducible rfl
                            rotate_left
                            ·simp only [Act.put, List.setIfInBounds_toArray, List.set_cons_zero, List.set_cons_succ, i64_w, i32_w]
                             rfl
                            refine pure_ (i := 15) (N := some 87) (v := ?_) (a' := ?_) #[true, true, true, false, true, true, true, true, false, true, false, false, true, true, true, true, false, false, false, false, false, false, false, false, false, false, false, false] rfl rfl (any_of HT_.out (by kernel_rfl)) (fun _ _ _ h => h) (Or.inl ⟨by rfl, ?_⟩) ?_ ?_
                            rotate_left
                            ·intro w'
                             go_simp
                             with_reducible rfl
                            rotate_left
                            ·simp only [Act.put, List.setIfInBounds_toArray, List.set_cons_zero, List.set_cons_succ, i64_w, i32_w]
                             rfl
                            refine pure_ (i := 17) (N := some 89) (v := ?_) (a' := ?_) #[true, true, true, false, true, true, true, true, false, true, false, false, true, true, true, true, false, true, false, false, false, false, false, false, false, false, false, false] rfl rfl (any_of HT_.out (by kernel_rfl)) (fun _ _ _ h => h) (Or.inl ⟨by rfl, ?_⟩) ?_ ?_
                            rotate_left
                            ·intro w'
                             go_simp
                             with_reducible rfl
                            rotate_left
                            ·simp only [Act.put, List.setIfInBounds_toArray, List.set_cons_zero, List.set_cons_succ, i64_w, i32_w]
                             rfl
                            refine pure_ (i := 18) (N := some 90) (v := ?_) (a' := ?_) #[true, true, true, false, true, true, true, true, false, true, false, false, true, true, true, true, false, true, true, false, false, false, false, false, false, false, false, false] rfl rfl (any_of HT_.out (by kernel_rfl)) (fun _ _ _ h => h) (Or.inl ⟨by rfl, ?_⟩) ?_ ?_
                            rotate_left
                            ·intro w'
                             go_simp
                             with_reducible rfl
                            rotate_left
                            ·simp only [Act.put, List.setIfInBounds_toArray, List.set_cons_zero, List.set_cons_succ, i64_w, i32_w]
                             rfl
                            refine pure_ (i := 19) (N := some 91) (v := ?_) (a' := ?_) #[true, true, true, false, true, true, true, true, false, true, false, false, true, true, true, true, false, true, true, true, false, false, false, false, false, false, false, false] rfl rfl (any_of HT_.out (by kernel_rfl)) (fun _ _ _ h => h) (Or.inl ⟨by rfl, ?_⟩) ?_ ?_
                            rotate_left
                            ·intro w'
                             go_simp
                             with_reducible rfl
                            rotate_left
                            ·simp only [Act.put, List.setIfInBounds_toArray, List.set_cons_zero, List.set_cons_succ, i64_w, i32_w]
                             rfl
                            refine pure_ (i := 20) (N := some 92) (v := ?_) (a' := ?_) #[true, true, true, false, true, true, true, true, false, true, false, false, true, true, true, true, false, true, true, true, true, false, false, false, false, false, false, false] rfl rfl (any_of HT_.out (by kernel_rfl)) (fun _ _ _ h => h) (Or.inl ⟨by rfl, ?_⟩) ?_ ?_
                            rotate_left
                            ·intro w'
                             go_simp
                             with_reducible rfl
                            rotate_left
                            ·simp only [Act.put, List.setIfInBounds_toArray, List.set_cons_zero, List.set_cons_succ, i64_w, i32_w]
                             rfl
                            refine take_ (i := 3) (N := some 75) (v := ?_) (a' := ?_) #[true, true, true, true, true, true, true, true, false, true, false, false, true, true, true, true, false, true, true, true, true, false, false, false, false, false, false, false] rfl rfl (take_ofW HT_.out HW_.out (by kernel_rfl)) (fun _ _ _ h => h) (Or.inl ⟨by rfl, ?_⟩) hHeld ?_ ?_
                            rotate_left
                            ·rintro w' ⟨s0, s1, s2, s3, s4, s5⟩
                             go_simp
                             with_reducible rfl
                            rotate_left
                            ·simp only [Act.put, List.setIfInBounds_toArray, List.set_cons_zero, List.set_cons_succ, i64_w, i32_w]
                             rfl
                            refine take_ (i := 8) (N := some 80) (v := ?_) (a' := ?_) #[true, true, true, true, true, true, true, true, true, true, false, false, true, true, true, true, false, true, true, true, true, false, false, false, false, false, false, false] rfl rfl (take_ofW HT_.out HW_.out (by kernel_rfl)) (fun _ _ _ h => h) (Or.inl ⟨by rfl, ?_⟩) hHeld ?_ ?_
                            rotate_left
                            ·rintro w' ⟨s0, s1, s2, s3, s4, s5⟩
                             go_simp
                             with_reducible rfl
                            rotate_left
                            ·simp only [Act.put, List.setIfInBounds_toArray, List.set_cons_zero, List.set_cons_succ, i64_w, i32_w]
                             rfl
                            refine pure_ (i := 10) (N := some 82) (v := ?_) (a' := ?_) #[true, true, true, true, true, true, true, true, true, true, true, false, true, true, true, true, false, true, true, true, true, false, false, false, false, false, false, false] rfl rfl (any_of HT_.out (by kernel_rfl)) (fun _ _ _ h => h) (Or.inl ⟨by rfl, ?_⟩) ?_ ?_
                            rotate_left
                            ·intro w'
                             go_simp
                             with_reducible rfl
                            rotate_left
                            ·simp only [Act.put, List.setIfInBounds_toArray, List.set_cons_zero, List.set_cons_succ, i64_w, i32_w]
                             rfl
                            refine take_ (i := 11) (N := some 83) (v := ?_) (a' := ?_) #[true, true, true, true, true, true, true, true, true, true, true, true, true, true, true, true, false, true, true, true, true, false, false, false, false, false, false, false] rfl rfl (take_ofW HT_.out HW_.out (by kernel_rfl)) (fun _ _ _ h => h) (Or.inl ⟨by rfl, ?_⟩) hHeld ?_ ?_
                            rotate_left
                            ·rintro w' ⟨s0, s1, s2, s3, s4, s5⟩
                             go_simp
                             with_reducible rfl
                            rotate_left
                            ·simp only [Act.put, List.setIfInBounds_toArray, List.set_cons_zero, List.set_cons_succ, i64_w, i32_w]
                             rfl
                            refine take_ (i := 16) (N := some 88) (v := ?_) (a' := ?_) #[true, true, true, true, true, true, true, true, true, true, true, true, true, true, true, true, true, true, true, true, true, false, false, false, false, false, false, false] rfl rfl (take_ofW HT_.out HW_.out (by kernel_rfl)) (fun _ _ _ h => h) (Or.inl ⟨by rfl, ?_⟩) hHeld ?_ ?_
                            rotate_left
                            ·rintro w' ⟨s0, s1, s2, s3, s4, s5⟩
                             go_simp
                             with_reducible rfl
                            rotate_left
                            ·simp only [Act.put, List.setIfInBounds_toArray, List.set_cons_zero, List.set_cons_succ, i64_w, i32_w]
                             rfl
                            refine take_ (i := 21) (N := some 93) (v := ?_) (a' := ?_) #[true, true, true, true, true, true, true, true, true, true, true, true, true, true, true, true, true, true, true, true, true, true, false, false, false, false, false, false] rfl rfl (take_ofW HT_.out HW_.out (by kernel_rfl)) (fun _ _ _ h => h) (Or.inl ⟨by rfl, ?_⟩) hHeld ?_ ?_
                            rotate_left
                            ·rintro w' ⟨s0, s1, s2, s3, s4, s5⟩
                             go_simp
                             with_reducible rfl
                            rotate_left
                            ·simp only [Act.put, List.setIfInBounds_toArray, List.set_cons_zero, List.set_cons_succ, i64_w, i32_w]
                             rfl
                            refine pure_ (i := 22) (N := some 94) (v := ?_) (a' := ?_) #[true, true, true, true, true, true, true, true, true, true, true, true, true, true, true, true, true, true, true, true, true, true, true, false, false, false, false, false] rfl rfl (any_of HT_.out (by kernel_rfl)) (fun _ _ _ h => h) (Or.inl ⟨by rfl, ?_⟩) ?_ ?_
                            rotate_left
                            ·intro w'
                             go_simp
                             with_reducible rfl
                            rotate_left
                            ·simp only [Act.put, List.setIfInBounds_toArray, List.set_cons_zero, List.set_cons_succ, i64_w, i32_w]
                             rfl
                            refine pure_ (i := 23) (N := some 95) (v := ?_) (a' := ?_) #[true, true, true, true, true, true, true, true, true, true, true, true, true, true, true, true, true, true, true, true, true, true, true, true, false, false, false, false] rfl rfl (any_of HT_.out (by kernel_rfl)) (fun _ _ _ h => h) (Or.inl ⟨by rfl, ?_⟩) ?_ ?_
                            rotate_left
                            ·intro w'
                             go_simp
                             with_reducible rfl
                            rotate_left
                            ·simp only [Act.put, List.setIfInBounds_toArray, List.set_cons_zero, List.set_cons_succ, i64_w, i32_w]
                             rfl
                            refine take_ (i := 24) (N := some 96) (v := ?_) (a' := ?_) #[true, true, true, true, true, true, true, true, true, true, true, true, true, true, true, true, true, true, true, true, true, true, true, true, true, false, false, false] rfl rfl (take_ofW HT_.out HW_.out (by kernel_rfl)) (fun _ _ _ h => h) (Or.inl ⟨by rfl, ?_⟩) hHeld ?_ ?_
                            rotate_left
                            ·rintro w' ⟨s0, s1, s2, s3, s4, s5⟩
                             go_simp
                             with_reducible rfl
                            rotate_left
                            ·simp only [Act.put, List.setIfInBounds_toArray, List.set_cons_zero, List.set_cons_succ, i64_w, i32_w]
                             rfl
                            refine pure_ (i := 25) (N := some 97) (v := ?_) (a' := ?_) #[true, true, true, true, true, true, true, true, true, true, true, true, true, true, true, true, true, true, true, true, true, true, true, true, true, true, false, false] rfl rfl (any_of HT_.out (by kernel_rfl)) (fun _ _ _ h => h) (Or.inl ⟨by rfl, ?_⟩) ?_ ?_
                            rotate_left
                            ·intro w'
                             go_simp
                             with_reducible rfl
                            rotate_left
                            ·simp only [Act.put, List.setIfInBounds_toArray, List.set_cons_zero, List.set_cons_succ, i64_w, i32_w]
                             rfl
                            refine pure_ (i := 26) (N := some 98) (v := ?_) (a' := ?_) #[true, true, true, true, true, true, true, true, true, true, true, true, true, true, true, true, true, true, true, true, true, true, true, true, true, true, true, false] rfl rfl (any_of HT_.out (by kernel_rfl)) (fun _ _ _ h => h) (Or.inl ⟨by rfl, ?_⟩) ?_ ?_
                            rotate_left
                            ·intro w'
                             go_simp
                             with_reducible rfl
                            rotate_left
                            ·simp only [Act.put, List.setIfInBounds_toArray, List.set_cons_zero, List.set_cons_succ, i64_w, i32_w]
                             rfl
                            refine last_ (i := 27) (N := none) #[true, true, true, true, true, true, true, true, true, true, true, true, true, true, true, true, true, true, true, true, true, true, true, true, true, true, true, true] rfl rfl (one_of HT_.out (by kernel_rfl)) (by decide) (fun K hK => ?_)
                            refine skip_ (w1 := ?_) (by rfl) rfl ?_ ?_
                            rotate_left
                            ·go_simp
                             rfl
                            refine hK.out _ _ ?_
                            clear hK K
                            refine done_ (done_of HT_.out (by kernel_rfl)) ?_
                            try go_wp2
                            (try simp only [← hl7_4, ← hl11_4])
                            go_roundg k4
                            case measure => have := HK1.out; have := HK2.out; have := HK3.out; have := HK4.out; omega
                            case rel => exact ⟨(x7_4), (y440), (wrap64 (x15_4 - 1)), (by first | rfl | (simp; done) | (simp [*]; done)), H', ⟨by have := HK1.out; have := HK2.out; have := HK3.out; have := HK4.out; omega⟩, ⟨by (try simp only [hl7_2]); (try simp only [hl11_2]); (try simp only [hl7_3]); (try simp only [hl11_3]); (try simp only [hl7_4]); (try simp only [hl11_4]); (with_reducible repeat (first | apply Kd.R_alloc | apply Kd.R_drewN | apply Kd.R_drew)); exact Kd.R_mono (Kd.R_far (p := ⟨go44, (x15_4 : Int).toNat, none⟩) (Kd.R_far1 HO_7.out rfl ((HL432_0.out.1 _ rfl).1)) (fun _ hk => hk.2) (.int .i64 (wrap64 ((rd (rd_L1 x11_4 x14_3) x15_4) + (rd (rd_L1 x11_4 (ji38)) (ji41)))))) (fun _ hk => trivial)⟩, ⟨by (try simp only [hl7_2]); (try simp only [hl11_2]); (try simp only [hl7_3]); (try simp only [hl11_3]); (try simp only [hl7_4]); (try simp only [hl11_4]); (with_reducible repeat (first | apply Kd.S_alloc | apply Kd.S_drewN | apply Kd.S_drew)); exact HQ46.out⟩, ⟨by repeat (first | (with_reducible first | exact HB.out | apply lqA | apply lqN | apply lqD | refine lqS ?_ GB44.out) | exact HB.out)⟩⟩
                           ·rw [if_neg c43] at H
                            exact absurd H (by simp)
                          ·rw [if_neg c42] at H
                           exact absurd H (by simp)
                         ·rw [if_neg c40] at H
                          exact absurd H (by simp)
                        ·rw [if_neg c39] at H
                         exact absurd H (by simp)
                       ·rw [if_neg c37] at H
                        exact absurd H (by simp)
                      ·rw [if_neg c36] at H
                       exact absurd H (by simp)
                     ·rw [if_neg c35] at H
                      exact absurd H (by simp)
                    ·rw [if_neg c34] at H
                     exact absurd H (by simp)
                   ·rw [if_neg c33] at H
                    have c33b0 : decide ((rd x7_4 x13_2) ≤ x15_4) = false := decide_eq_false c33
                    clear c33
                    have H' := Aside0.mk H
                    clear H
                    have p431 : 0 ≤ (x13_2 : Int) := of_decide_eq_true (by first | (with_reducible assumption) | assumption)
                    have q431 : x13_2 < (x7_4.length : Int) := of_decide_eq_true (by first | (with_reducible assumption) | assumption)
                    obtain ⟨ad431, e431, hx431_0⟩ := Kd.at_int (Kd.R_reads' HO_7.out).2.2 x13_2 p431 q431
                    cases e431
                    replace p431 := eq_true p431
                    replace q431 := eq_true q431
                    go_wp2
                    (try simp only [← hl7_3, ← hl11_3, ← hl7_4, ← hl11_4])
                    go_roundg k4
                    case measure => have := HK1.out; have := HK2.out; have := HK3.out; have := HK4.out; omega
                    case rel => exact ⟨(x7_4), (x11_4), (wrap64 (x14_3 - 1)), (by first | rfl | (simp; done) | (simp [*]; done)), H', ⟨by have := HK1.out; have := HK2.out; have := HK3.out; have := HK4.out; omega⟩, ⟨by (try simp only [hl7_2]); (try simp only [hl11_2]); (try simp only [hl7_3]); (try simp only [hl11_3]); (try simp only [hl7_4]); (try simp only [hl11_4]); (with_reducible repeat (first | apply Kd.R_alloc | apply Kd.R_drewN | apply Kd.R_drew)); exact HO_7.out⟩, ⟨by (try simp only [hl7_2]); (try simp only [hl11_2]); (try simp only [hl7_3]); (try simp only [hl11_3]); (try simp only [hl7_4]); (try simp only [hl11_4]); (with_reducible repeat (first | apply Kd.S_alloc | apply Kd.S_drewN | apply Kd.S_drew)); exact HO_11.out⟩, ⟨by repeat (first | (with_reducible first | exact HB.out | apply lqA | apply lqN | apply lqD) | exact HB.out)⟩⟩
                  ·rw [if_neg c32] at H
                   exact absurd H (by simp)
                 ·rw [if_neg c31] at H
                  exact absurd H (by simp)
              ·rw [if_neg c30] at H
               have c30b0 : decide (0 < x14_3) = false := decide_eq_false c30
               clear c30
               have H' := Aside0.mk H
               clear H
               go_wp2
               (try simp only [← hl7_2, ← hl11_2, ← hl7_3, ← hl11_3])
               go_roundg k3
               case measure => have := HK1.out; have := HK2.out; have := HK3.out; omega
               case rel => exact ⟨(x7_3), (x11_3), (wrap64 (x13_2 + 1)), (by first | rfl | (simp; done) | (simp [*]; done)), H', ⟨by have := HK1.out; have := HK2.out; have := HK3.out; omega⟩, ⟨by (try simp only [hl7_2]); (try simp only [hl11_2]); (try simp only [hl7_3]); (try simp only [hl11_3]); (with_reducible repeat (first | apply Kd.R_alloc | apply Kd.R_drewN | apply Kd.R_drew)); exact HO_7.out⟩, ⟨by (try simp only [hl7_2]); (try simp only [hl11_2]); (try simp only [hl7_3]); (try simp only [hl11_3]); (with_reducible repeat (first | apply Kd.S_alloc | apply Kd.S_drewN | apply Kd.S_drew)); exact HO_11.out⟩, ⟨by repeat (first | (with_reducible first | exact HB.out | apply lqA | apply lqN | apply lqD) | exact HB.out)⟩⟩
           ·rw [if_neg c29] at H
            have c29b0 : decide (x13_2 < (x7_2.length : Int)) = false := decide_eq_false c29
            clear c29
            have H' := Aside0.mk H
            clear H
            go_wp2
            go_loopg [16, 17] k2 (fun kq v16 v17 w' => ∃ (x16_3 : Int) (x17_3 : Int), v16 = .int .i64 x16_3 ∧ v17 = .int .i64 x17_3 ∧ Aside0 (spileref33_AtLeast.l4 kq l0 x7_2 t417 x11_2 x16_3 x17_3 = some (r1, r2, r3)) ∧ Aside0 (kq ≤ k2) ∧ Aside0 (Kd.R (Kd.int .i64) 3 w' w.heap.size (fun _ => True) (.slice Ao11 x7_2.length co11) x7_2) ∧ Aside0 (Kd.S (Kd.slice 3 (Kd.int .i64)) 27 w' w.heap.size (fun k_ => some k_ ≠ ((.slice Ao11 x7_2.length co11) : Value).ownBlock) (.slice (some ad427) x11_2.length co26) x11_2) ∧ Aside0 (Below w.heap.size w w'))
            case atStart => exact ⟨(0), (t416), (by first | rfl | (simp; done) | (simp [*]; done)), (by first | rfl | (simp; done) | (simp [*]; done)), H', ⟨Nat.le_refl _⟩, ⟨by (try simp only [hl7_2]); (try simp only [hl11_2]); (with_reducible repeat (first | apply Kd.R_alloc | apply Kd.R_drewN | apply Kd.R_drew)); exact HO_7.out⟩, ⟨by (try simp only [hl7_2]); (try simp only [hl11_2]); (with_reducible repeat (first | apply Kd.S_alloc | apply Kd.S_drewN | apply Kd.S_drew)); exact HO_11.out⟩, ⟨by repeat (first | (with_reducible first | exact HB.out | apply lqA | apply lqN | apply lqD) | exact HB.out)⟩⟩
            case round =>
             clear H'
             try clear c1
             try clear q1
             try clear c2
             try clear p2
             try clear q2
             try clear hx2
             try clear qi2
             try clear hf2
             try clear c3
             try clear c4
             try clear c4b0
             try clear c4b1
             try clear p4
             try clear q4
             try clear hx4
             try clear qi4
             try clear hf4
             try clear c5
             try clear c5b0
             try clear c5b1
             try clear c6
             try clear c6b0
             try clear c6b1
             try clear p6
             try clear q10
             try clear c14
             try clear c14b0
             try clear c16
             try clear c16b0
             try clear c16b1
             try clear c17
             try clear c17b0
             try clear c17b1
             try clear c18
             try clear c23
             try clear c23b0
             try clear c23b1
             try clear c24
             try clear c24b0
             try clear c24b1
             try clear p25
             try clear q25
             try clear hx25
             try clear qi25
             try clear hf25
             try clear c26
             try clear c27
             try clear q27
             try clear c29
             try clear c29b0
             try clear c30
             try clear c30b0
             try clear c31
             try clear c31b0
             try clear c32
             try clear c32b0
             try clear c33
             try clear c33b0
             try clear c34
             try clear c34b0
             try clear c35
             try clear c35b0
             try clear c36
             try clear c36b0
             try clear c37
             try clear c37b0
             try clear c39
             try clear c39b0
             try clear c40
             try clear c40b0
             try clear c42
             try clear c42b0
             try clear p42
             try clear q42
             try clear hx42
             try clear c43
             try clear c43b0
             try clear p43
             try clear q43
             try clear hx43
             try clear p44
             try clear q44
             try clear hx44
             try clear hf44
             try clear c46
             try clear q46
             try clear hx25_0
             try clear hx427_0
             try clear hx431_0
             try clear hx432_0
             try clear hx433_0
             try clear hx434_0
             try clear hx435_0
             try clear hx436_0
             try clear hx437_0
             try clear hx44_0
             try clear p2
             try clear p25
             try clear p4
             try clear p427
             try clear p431
             try clear p432
             try clear p433
             try clear p434
             try clear p435
             try clear p436
             try clear p437
             try clear p44
             try clear p6
             try clear q1
             try clear q10
             try clear q2
             try clear q25
             try clear q27
             try clear q4
             try clear q427
             try clear q431
             try clear q432
             try clear q433
             try clear q434
             try clear q435
             try clear q436
             try clear q437
             try clear q44
             obtain ⟨x16_3, x17_3, rfl, rfl, HA, HK3, HO_7, HO_11, HB⟩ := hrel
             cases gk with
             | zero => exact absurd HA.out (by simp [spileref33_AtLeast.l4])
             | succ k3 =>
              have H := HA.out
              clear HA
              simp only [spileref33_AtLeast.l4] at H
              by_cases c48 : x17_3 ≤ t417
              ·rw [if_pos c48] at H
               have c48b0 : decide (x17_3 ≤ t417) = true := decide_eq_true c48
               clear c48
               by_cases c49 : 0 ≤ (l0.length : Int)
               ·rw [if_pos c49] at H
                have c49b0 : decide (0 ≤ (l0.length : Int)) = true := decide_eq_true c49
                have c49b1 : decide (0 ≤ l0.length) = true := decide_eq_true (by omega)
                clear c49
                by_cases c50 : (l0.length : Int) < (x11_2.length : Int)
                ·rw [if_pos c50] at H
                 have c50b0 : decide ((l0.length : Int) < (x11_2.length : Int)) = true := decide_eq_true c50
                 have c50b1 : decide (l0.length < x11_2.length) = true := decide_eq_true (Int.ofNat_lt.mp c50)
                 clear c50
                 by_cases c51 : 0 ≤ x17_3
                 ·rw [if_pos c51] at H
                  have c51b0 : decide (0 ≤ x17_3) = true := decide_eq_true c51
                  clear c51
                  by_cases c52 : x17_3 < ((rd_L1 x11_2 (l0.length : Int)).length : Int)
                  ·rw [if_pos c52] at H
                   have c52b0 : decide (x17_3 < ((rd_L1 x11_2 (l0.length : Int)).length : Int)) = true := decide_eq_true c52
                   clear c52
                   have H' := Aside0.mk H
                   clear H
                   have p441 : 0 ≤ ((l0.length : Int) : Int) := of_decide_eq_true (by first | (with_reducible assumption) | assumption)
                   have q441 : (l0.length : Int) < (x11_2.length : Int) := of_decide_eq_true (by first | (with_reducible assumption) | assumption)
                   obtain ⟨ad441, A441_0, c441_0, e441, hx441_0, hl441_0, hi441_0⟩ := at_L1 (Kd.S_reads' HO_11.out).2.2 (l0.length : Int) p441 q441
                   obtain rfl : ad427 = ad441 := (by injection e441)
                   obtain ⟨ce441, hce441, hMe441, hcc441⟩ := Kd.S_get HO_11.out [] (l0.length : Int) p441 (by first | exact q441 | exact of_decide_eq_true (by first | (with_reducible assumption) | assumption) | (have e_ := (Kd.S_reads' HO_11.out).1; omega))
                   obtain ⟨ve441_0, rfl, ge441_0⟩ := hMe441
                   have hv441_0 := hcc441 0 _ rfl
                   rw [Nat.add_zero, show ((Kd.slice 3 (Kd.int .i64))).sz = 1 from rfl, Nat.mul_one] at hv441_0
                   replace hv441_0 := Option.some.inj (hv441_0.symm.trans hx441_0)
                   rw [hv441_0] at ge441_0
                   have HL441_0 := Aside0.mk (show Kd.R (Kd.int .i64) 3 _ _ _ _ (rd_L1 x11_2 (l0.length : Int)) from ge441_0)
                   clear hv441_0 ge441_0
                   have HX441_0 := Aside0.mk hx441_0
                   clear hcc441 hce441
                   have HR441_0 := Aside0.mk hi441_0
                   have HC441_0 := Aside0.mk hl441_0
                   clear hi441_0 hl441_0
                   (try simp only [Go.IntWalk.toNatUp] at hx441_0)
                   (try simp only [hl7_2, hl11_2] at p441)
                   (try simp only [hl7_2, hl11_2] at q441)
                   (try simp only [hl7_2, hl11_2] at hx441_0)
                   replace p441 := eq_true p441
                   replace q441 := eq_true q441
                   have p442 : 0 ≤ (x17_3 : Int) := of_decide_eq_true (by first | (with_reducible assumption) | assumption)
                   have q442 : x17_3 < ((rd_L1 x11_2 (l0.length : Int)).length : Int) := of_decide_eq_true (by first | (with_reducible assumption) | assumption)
                   obtain ⟨ad442, e442, hx442_0⟩ := Kd.at_int (by repeat (first | (with_reducible exact HR441_0.out) | (with_reducible refine Kd.C_alloc ?_ _) | (with_reducible refine Kd.C_drewN ?_ _) | (with_reducible refine Kd.C_drew ?_) | exact HR441_0.out)) x17_3 p442 q442
                   cases e442
                   replace p442 := eq_true p442
                   replace q442 := eq_true q442
                   go_wp2
                   go_roundg k3
                   case measure => have := HK1.out; have := HK2.out; have := HK3.out; omega
                   case rel => exact ⟨(wrap64 (x16_3 + (rd (rd_L1 x11_2 (l0.length : Int)) x17_3))), (wrap64 (x17_3 + 1)), (by first | rfl | (simp; done) | (simp [*]; done)), (by first | rfl | (simp; done) | (simp [*]; done)), H', ⟨by have := HK1.out; have := HK2.out; have := HK3.out; omega⟩, ⟨by (try simp only [hl7_2]); (try simp only [hl11_2]); (with_reducible repeat (first | apply Kd.R_alloc | apply Kd.R_drewN | apply Kd.R_drew)); exact HO_7.out⟩, ⟨by (try simp only [hl7_2]); (try simp only [hl11_2]); (with_reducible repeat (first | apply Kd.S_alloc | apply Kd.S_drewN | apply Kd.S_drew)); exact HO_11.out⟩, ⟨by repeat (first | (with_reducible first | exact HB.out | apply lqA | apply lqN | apply lqD) | exact HB.out)⟩⟩
                  ·rw [if_neg c52] at H
                   exact absurd H (by simp)
                 ·rw [if_neg c51] at H
                  exact absurd H (by simp)
                ·rw [if_neg c50] at H
                 exact absurd H (by simp)
               ·rw [if_neg c49] at H
                exact absurd H (by simp)
              ·rw [if_neg c48] at H
               have c48b0 : decide (x17_3 ≤ t417) = false := decide_eq_false c48
               clear c48
               replace H := Option.bind_eq_some_iff.mp H
               obtain ⟨t443, A530, H⟩ := H
               replace H : (some (x16_3, t443, 0)) = some (r1, r2, r3) := H
               have A53 := Aside0.mk A530
               clear A530
               simp only [Option.some.injEq, Prod.mk.injEq] at H
               obtain ⟨rfl, rfl, rfl⟩ := H
               go_wp2_with (first | ((with_reducible refine gqC (f := 49) rfl ?_); refine goesL_ (some 120) rfl rfl Try.func49 (by kernel_rfl) rfl #[.int .i64 (x7_2.length : Int), .int .i64 (l0.length : Int)] rfl (by (try simp only [List.map_toArray, List.map_cons, List.map_nil]); first | done | rfl | (simp only [List.length_drop, List.length_take]; rfl)) ?_; (with_reducible refine (spileref33_ways.calls k3 (x7_2.length : Int) (l0.length : Int) t443 _ A53.out).mono ?_); rintro e w54 ⟨rfl, hb⟩; refine ⟨_, rfl, ?_⟩; have n0_ := Aside0.mk (Kd.R_below (by (with_reducible repeat (first | apply Kd.R_alloc | apply Kd.R_drewN | apply Kd.R_drew)); exact HO_7.out) hb); have n1_ := Aside0.mk (Kd.S_below (by (with_reducible repeat (first | apply Kd.S_alloc | apply Kd.S_drewN | apply Kd.S_drew)); exact HO_11.out) hb); have n2_ := Aside0.mk (lqT (by repeat (first | (with_reducible first | exact HB.out | apply lqA | apply lqN | apply lqD) | exact HB.out)) hb); clear HO_7; clear HO_11; clear HB; have HO_7 := n0_; have HO_11 := n1_; have HB := n2_; clear n0_ n1_ n2_; (try clear hb); (try clear hb2); (try clear hk); (try clear hi)))
               go_ret3
               exact ⟨by first | rfl | (simp [errW_none, errW_some] <;> rfl) | (simp [*, errW_none, errW_some] <;> rfl), by repeat (first | (with_reducible first | exact HB.out | apply lqA | apply lqN | apply lqD) | exact HB.out)⟩
        ·rw [if_neg c24] at H
         exact absurd H (by simp)
       ·rw [if_neg c23] at H
        exact absurd H (by simp)
   ·rw [if_neg c6] at H
    exact absurd H (by simp)
  ·rw [if_neg c5] at H
   exact absurd H (by simp)
 ·rw [if_neg c4] at H
  have c4b0 : (t409 == 0) = false := beq_eq_false_iff_ne.mpr c4
  try simp only [beq_self_eq_true, Bool.not_true, Bool.false_or, Bool.true_and] at c4b0
  have c4b1 : (t409 != 0) = true := bne_iff_ne.mpr c4
  simp only [Option.some.injEq, Prod.mk.injEq] at H
  obtain ⟨rfl, rfl, rfl⟩ := H
  go_enter Try.func26, Try.ntmps26
  go_wp2_with (first | ((with_reducible refine gqC (f := 46) rfl ?_); refine goesL_ (some 21) rfl rfl Try.func46 (by kernel_rfl) rfl #[.slice A0 l0.length c0, .slice A1 l1.length c1] rfl (by (try simp only [List.map_toArray, List.map_cons, List.map_nil]); first | done | rfl | (simp only [List.length_drop, List.length_take]; rfl)) ?_; (with_reducible refine (spileref33_start.calls k _ _ l0 _ _ l1 t408 t409 _ ?side1 ?side2 ?side3 ?side4 A3.out).mono ?_); (case side1 => repeat (first | exact HR0.out | (with_reducible refine Kd.C_alloc ?_ _) | (with_reducible refine Kd.C_drewN ?_ _) | (with_reducible refine Kd.C_drew ?_))); (case side2 => exact HC0.out); (case side3 => repeat (first | exact HR1.out | (with_reducible refine Kd.C_alloc ?_ _) | (with_reducible refine Kd.C_drewN ?_ _) | (with_reducible refine Kd.C_drew ?_))); (case side4 => exact HC1.out); rintro e w55 ⟨v410, rfl, ho0, hb⟩; refine ⟨_, rfl, ?_⟩; have n0_ := Aside0.mk (Kd.R_lower ho0 (lqZ (by repeat (first | (with_reducible first | exact HB.out | apply lqA | apply lqN | apply lqD) | exact HB.out)))); have n1_ := Aside0.mk (lqT (by repeat (first | (with_reducible first | exact HB.out | apply lqA | apply lqN | apply lqD) | exact HB.out)) hb); clear HB; have HO411 := n0_; have HB := n1_; clear n0_ n1_; (try clear hb); (try clear hb2); (try clear hk); (try clear hi); (try clear ho0)))
  go_ret3
  exact ⟨by first | rfl | (simp [errW_none, errW_some] <;> rfl) | (simp [*, errW_none, errW_some] <;> rfl), by repeat (first | (with_reducible first | exact HB.out | apply lqA | apply lqN | apply lqD) | exact HB.out)⟩

end Go.Proofs.Ytbkoghmbacdiiaa.K
