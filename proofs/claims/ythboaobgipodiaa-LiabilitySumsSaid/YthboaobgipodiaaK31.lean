-- PRINTED by print.py (a twelfth state) out of the translation. Not trusted: Lean checks it.
import Derived.Test.YthboaobgipodiaaK0
import Derived.Test.YthboaobgipodiaaGCap
import Derived.Test.YthboaobgipodiaaGPu
import Derived.Test.YthboaobgipodiaaGShort
import Derived.Test.YthboaobgipodiaaGSym
import Derived.Test.YthboaobgipodiaaK20
import Derived.Test.YthboaobgipodiaaK21
namespace Go.Proofs.Ythboaobgipodiaa.K
open Go.RowKit Go.Proofs.YthboaobgipodiaaW.PrintWords Go.Proofs.YthboaobgipodiaaW.PrintLast Go.Proofs.YthboaobgipodiaaW.PrintMore
attribute [local go_sem] max2_int min2_int max_two min_two max_three min_three max_four min_four   -- for this text's walks alone
set_option linter.unusedVariables false
set_option linter.unusedSimpArgs false

/-! ### spileref51_Bonds: function 16 -/
mutual
def spileref51_Bonds.l0 : Nat → List (S35) → Int → List (S42) → Int → Int → List (S60) → Option ((List (S42)) × Int)
 | 0, _, _, _, _, _, _ => none
 | k + 1, x1, x2, x9, x10, x513000, x513001 => if x10 < (x1.length : Int) then (if 0 ≤ x10 then ((spileref51_most.f k x513000 x513001 ((rd_T35 x1 x10).f0) ((rd_T35 x1 x10).f1) ((rd_T35 x1 x10).f2) ((rd_T35 x1 x10).f3) ((rd_T35 x1 x10).f4) x2).bind fun bt515 => (spileref51_Bonds.l1 k x1 x2 x9 x10 bt515.1 0 x513000 x513001)) else (none)) else (some (x9, 0))
def spileref51_Bonds.j2 : Nat → List (S35) → Int → List (S42) → Int → Int → Int → Int → List (S60) → Option ((List (S42)) × Int)
 | 0, _, _, _, _, _, _, _, _ => none
 | k + 1, x1, x2, x9, x10, x11, x13, x513000, x513001 => if x13 < (x9.length : Int) then (if 0 ≤ x13 then (if 0 ≤ x10 then (if x10 < (x1.length : Int) then (if ((rd_T42 x9 x13).f0) = ((rd_T35 x1 x10).f1) then (spileref51_Bonds.l0 k x1 x2 (x9.set (x13 : Int).toNat (⟨(rd_T42 x9 x13).f0, (rd_T42 x9 x13).f1, wrap64 (((rd_T42 x9 x13).f2) + x11)⟩ : S42)) (wrap64 (x10 + 1)) x513000 x513001) else ((some (([(⟨(rd_T35 x1 x10).f1, 0, x11⟩ : S42)] : List (S42)) : List (S42))).bind fun y524 => (if x13 ≤ (x9.length : Int) then ((some (x9.drop (x13 : Int).toNat : List (S42))).bind fun y527 => (if y524.length + y527.length < 5864062014805 then ((some (y524 ++ y527 : List (S42))).bind fun y531 => ((some (x9.take (x13 : Int).toNat : List (S42))).bind fun y534 => (if y534.length + y531.length < 5864062014805 then (spileref51_Bonds.l0 k x1 x2 (y534 ++ y531) (wrap64 (x10 + 1)) x513000 x513001) else (none)))) else (none))) else (none)))) else (none)) else (none)) else (none)) else (if 0 ≤ x10 then (if x10 < (x1.length : Int) then ((some (([(⟨(rd_T35 x1 x10).f1, 0, x11⟩ : S42)] : List (S42)) : List (S42))).bind fun y541 => (if 0 ≤ x13 then (if x13 ≤ (x9.length : Int) then ((some (x9.drop (x13 : Int).toNat : List (S42))).bind fun y544 => (if y541.length + y544.length < 5864062014805 then ((some (y541 ++ y544 : List (S42))).bind fun y548 => ((some (x9.take (x13 : Int).toNat : List (S42))).bind fun y551 => (if y551.length + y548.length < 5864062014805 then (spileref51_Bonds.l0 k x1 x2 (y551 ++ y548) (wrap64 (x10 + 1)) x513000 x513001) else (none)))) else (none))) else (none)) else (none))) else (none)) else (none))
def spileref51_Bonds.l1 : Nat → List (S35) → Int → List (S42) → Int → Int → Int → Int → List (S60) → Option ((List (S42)) × Int)
 | 0, _, _, _, _, _, _, _, _ => none
 | k + 1, x1, x2, x9, x10, x11, x13, x513000, x513001 => if x13 < (x9.length : Int) then (if 0 ≤ x13 then (if 0 ≤ x10 then (if x10 < (x1.length : Int) then (if ((rd_T42 x9 x13).f0) < ((rd_T35 x1 x10).f1) then (spileref51_Bonds.l1 k x1 x2 x9 x10 x11 (wrap64 (x13 + 1)) x513000 x513001) else (spileref51_Bonds.j2 k x1 x2 x9 x10 x11 x13 x513000 x513001)) else (none)) else (none)) else (none)) else (spileref51_Bonds.j2 k x1 x2 x9 x10 x11 x13 x513000 x513001)
end
def spileref51_Bonds.f (k : Nat) (a0_0 : Int) (l0_1 : List (S60)) (l1 : List (S35)) (a2 : Int) : Option ((List (S42)) × Int) := (spileref51_asked.f k a0_0 l0_1 l1 a2).bind fun t513 => (if t513 = 0 then (spileref51_Bonds.l0 k l1 a2 ([] : List (S42)) 0 a0_0 l0_1) else (some (([] : List (S42)), t513)))
theorem spileref51_Bonds.mono_l : ∀ k, (∀ y0 y1 y2 y3 y4 y5, LeO (spileref51_Bonds.l0 k y0 y1 y2 y3 y4 y5) (spileref51_Bonds.l0 (k + 1) y0 y1 y2 y3 y4 y5)) ∧ (∀ y0 y1 y2 y3 y4 y5 y6 y7, LeO (spileref51_Bonds.j2 k y0 y1 y2 y3 y4 y5 y6 y7) (spileref51_Bonds.j2 (k + 1) y0 y1 y2 y3 y4 y5 y6 y7)) ∧ (∀ y0 y1 y2 y3 y4 y5 y6 y7, LeO (spileref51_Bonds.l1 k y0 y1 y2 y3 y4 y5 y6 y7) (spileref51_Bonds.l1 (k + 1) y0 y1 y2 y3 y4 y5 y6 y7))
 | 0 => ⟨fun _ _ _ _ _ _ r h => by simp [spileref51_Bonds.l0] at h, fun _ _ _ _ _ _ _ _ r h => by simp [spileref51_Bonds.j2] at h, fun _ _ _ _ _ _ _ _ r h => by simp [spileref51_Bonds.l1] at h⟩
 | k + 1 => by
  obtain ⟨ih0, ih1, ih2⟩ := spileref51_Bonds.mono_l k
  refine ⟨?_, ?_, ?_⟩
  ·intro y0 y1 y2 y3 y4 y5
   unfold spileref51_Bonds.l0
   repeat' first
   | (with_reducible exact ih0 _ _ _ _ _ _)
   | (with_reducible exact ih1 _ _ _ _ _ _ _ _)
   | (with_reducible exact ih2 _ _ _ _ _ _ _ _)
   | (with_reducible exact spileref51_asked.mono _ _ _ _ _)
   | (with_reducible exact spileref51_most.mono _ _ _ _ _ _ _ _ _)
   | (with_reducible exact LeO.refl _)
   | (with_reducible exact LeO.none _)
   | (with_reducible refine LeO.ite ?_ ?_)
   | (with_reducible refine LeO.bind ?_ (fun _ => ?_))
   | exact ih0 _ _ _ _ _ _
   | exact ih1 _ _ _ _ _ _ _ _
   | exact ih2 _ _ _ _ _ _ _ _
   | exact spileref51_asked.mono _ _ _ _ _
   | exact spileref51_most.mono _ _ _ _ _ _ _ _ _
   | exact LeO.none _
   | refine LeO.ite ?_ ?_
   | refine LeO.bind ?_ (fun _ => ?_)
  ·intro y0 y1 y2 y3 y4 y5 y6 y7
   unfold spileref51_Bonds.j2
   repeat' first
   | (with_reducible exact ih0 _ _ _ _ _ _)
   | (with_reducible exact ih1 _ _ _ _ _ _ _ _)
   | (with_reducible exact ih2 _ _ _ _ _ _ _ _)
   | (with_reducible exact spileref51_asked.mono _ _ _ _ _)
   | (with_reducible exact spileref51_most.mono _ _ _ _ _ _ _ _ _)
   | (with_reducible exact LeO.refl _)
   | (with_reducible exact LeO.none _)
   | (with_reducible refine LeO.ite ?_ ?_)
   | (with_reducible refine LeO.bind ?_ (fun _ => ?_))
   | exact ih0 _ _ _ _ _ _
   | exact ih1 _ _ _ _ _ _ _ _
   | exact ih2 _ _ _ _ _ _ _ _
   | exact spileref51_asked.mono _ _ _ _ _
   | exact spileref51_most.mono _ _ _ _ _ _ _ _ _
   | exact LeO.none _
   | refine LeO.ite ?_ ?_
   | refine LeO.bind ?_ (fun _ => ?_)
  ·intro y0 y1 y2 y3 y4 y5 y6 y7
   unfold spileref51_Bonds.l1
   repeat' first
   | (with_reducible exact ih0 _ _ _ _ _ _)
   | (with_reducible exact ih1 _ _ _ _ _ _ _ _)
   | (with_reducible exact ih2 _ _ _ _ _ _ _ _)
   | (with_reducible exact spileref51_asked.mono _ _ _ _ _)
   | (with_reducible exact spileref51_most.mono _ _ _ _ _ _ _ _ _)
   | (with_reducible exact LeO.refl _)
   | (with_reducible exact LeO.none _)
   | (with_reducible refine LeO.ite ?_ ?_)
   | (with_reducible refine LeO.bind ?_ (fun _ => ?_))
   | exact ih0 _ _ _ _ _ _
   | exact ih1 _ _ _ _ _ _ _ _
   | exact ih2 _ _ _ _ _ _ _ _
   | exact spileref51_asked.mono _ _ _ _ _
   | exact spileref51_most.mono _ _ _ _ _ _ _ _ _
   | exact LeO.none _
   | refine LeO.ite ?_ ?_
   | refine LeO.bind ?_ (fun _ => ?_)
theorem spileref51_Bonds.mono : ∀ a0 a1 a2 a3 k, LeO (spileref51_Bonds.f k a0 a1 a2 a3) (spileref51_Bonds.f (k + 1) a0 a1 a2 a3) := by
 intro a0 a1 a2 a3 k
 obtain ⟨ih0, ih1, ih2⟩ := spileref51_Bonds.mono_l k
 unfold spileref51_Bonds.f
 repeat' first
   | (with_reducible exact ih0 _ _ _ _ _ _)
   | (with_reducible exact ih1 _ _ _ _ _ _ _ _)
   | (with_reducible exact ih2 _ _ _ _ _ _ _ _)
   | (with_reducible exact spileref51_asked.mono _ _ _ _ _)
   | (with_reducible exact spileref51_most.mono _ _ _ _ _ _ _ _ _)
   | (with_reducible exact LeO.refl _)
   | (with_reducible exact LeO.none _)
   | (with_reducible refine LeO.ite ?_ ?_)
   | (with_reducible refine LeO.bind ?_ (fun _ => ?_))
   | exact ih0 _ _ _ _ _ _
   | exact ih1 _ _ _ _ _ _ _ _
   | exact ih2 _ _ _ _ _ _ _ _
   | exact spileref51_asked.mono _ _ _ _ _
   | exact spileref51_most.mono _ _ _ _ _ _ _ _ _
   | exact LeO.none _
   | refine LeO.ite ?_ ?_
   | refine LeO.bind ?_ (fun _ => ?_)
def spileref51_Bonds.T8 : Bool × List (List Nat × List Nat) := (true, [([], []), ([], []), ([], []), ([1, 2], [1, 2]), ([3], [3]), ([], []), ([0, 4, 5], [0, 4, 5]), ([6], [6]), ([7], [7]), ([7], [7]), ([8, 6, 0, 1, 2, 3, 4, 5, 6, 7, 8], [8]), ([9, 10, 0, 1, 2, 3, 4, 5, 6, 7, 8, 9, 10], [9])])
def spileref51_Bonds.B8 : List Nat := [0, 0, 0, 6, 14, 0, 63, 127, 255, 255, 511, 2047]
theorem spileref51_Bonds.tab8 : rtab .any (opsOf Try.f16 8) = spileref51_Bonds.T8 := by kernel_rfl
theorem spileref51_Bonds.bits8 : waitsOk spileref51_Bonds.T8.2 spileref51_Bonds.B8 = true := by kernel_rfl
def spileref51_Bonds.T10 : Bool × List (List Nat × List Nat) := (true, [([], []), ([], []), ([1], [1]), ([0, 2], [0, 2]), ([3], [3]), ([4], [4]), ([4], [4]), ([5, 6, 4], [4, 5, 6]), ([7, 4], [4, 7]), ([8, 4], [4, 8]), ([4], [4]), ([4], [4]), ([10, 11, 4], [4, 10, 11]), ([12, 4], [4, 12]), ([13, 4], [4, 13]), ([9, 14, 4], [4, 9, 14]), ([4, 15], [4, 15])])
def spileref51_Bonds.B10 : List Nat := [0, 0, 2, 7, 15, 31, 31, 127, 255, 511, 31, 31, 3103, 7199, 15391, 32767, 65535]
theorem spileref51_Bonds.tab10 : rtab .any (opsOf Try.f16 10) = spileref51_Bonds.T10 := by kernel_rfl
theorem spileref51_Bonds.bits10 : waitsOk spileref51_Bonds.T10.2 spileref51_Bonds.B10 = true := by kernel_rfl
def spileref51_Bonds.T12 : Bool × List (List Nat × List Nat) := (true, [([], []), ([], []), ([1], [1]), ([0, 2], [0, 2]), ([3], [3]), ([4], [4]), ([4], [4]), ([5, 6, 4], [4, 5, 6]), ([7, 4], [4, 7]), ([8, 4], [4, 8]), ([4], [4]), ([4], [4]), ([10, 11, 4], [4, 10, 11]), ([12, 4], [4, 12]), ([13, 4], [4, 13]), ([9, 14, 4], [4, 9, 14]), ([4, 15], [4, 15])])
def spileref51_Bonds.B12 : List Nat := [0, 0, 2, 7, 15, 31, 31, 127, 255, 511, 31, 31, 3103, 7199, 15391, 32767, 65535]
theorem spileref51_Bonds.tab12 : rtab .any (opsOf Try.f16 12) = spileref51_Bonds.T12 := by kernel_rfl
theorem spileref51_Bonds.bits12 : waitsOk spileref51_Bonds.T12.2 spileref51_Bonds.B12 = true := by kernel_rfl
def spileref51_Bonds.T14 : Bool × List (List Nat × List Nat) := (true, [([], []), ([], []), ([0, 1], [0, 1]), ([2], [2]), ([3], [3]), ([], []), ([4, 5], [4, 5]), ([6], [6]), ([], []), ([], []), ([8, 9], [8, 9]), ([7, 10], [7, 10]), ([11, 11, 0, 1, 2, 3, 4, 5, 6, 7, 8, 9, 10, 11], [11])])
def spileref51_Bonds.B14 : List Nat := [0, 0, 3, 7, 15, 0, 63, 127, 0, 0, 768, 2047, 4095]
theorem spileref51_Bonds.tab14 : rtab .any (opsOf Try.f16 14) = spileref51_Bonds.T14 := by kernel_rfl
theorem spileref51_Bonds.bits14 : waitsOk spileref51_Bonds.T14.2 spileref51_Bonds.B14 = true := by kernel_rfl
set_option maxHeartbeats 8000000 in
set_option maxRecDepth 100000 in
theorem spileref51_Bonds.calls (k : Nat) (a0_0 : Int) (A0_1 : Option Addr) (c0_1 : Nat) (l0_1 : List (S60)) (A1 : Option Addr) (c1 : Nat) (l1 : List (S35)) (a2 : Int) (r1 : List (S42)) (r2 : Int) (w : World) (hr0_1 : Kd.C k60 w A0_1 l0_1.length l0_1) (hc0_1 : l0_1.length ≤ c0_1) (hr1 : Kd.C k35 w A1 l1.length l1) (hc1 : l1.length ≤ c1) (h : spileref51_Bonds.f k a0_0 l0_1 l1 a2 = some (r1, r2)) :
  Calls Try.prog 16 #[.agg #[.int .i64 a0_0, .slice A0_1 l0_1.length c0_1], .slice A1 l1.length c1, .int .i64 a2] w fun e w' => ∃ v0_ : Value, e = .returned (.tuple #[v0_, .int .i64 r2]) ∧ Kd.R k42 42 w' w.heap.size (fun _ => True) v0_ r1 ∧ Below w.heap.size w w' := by
 have hu24 := Try.underlying24
 have hu35 := Try.underlying35
 have hu42 := Try.underlying42
 have HR0_1 := Aside0.mk hr0_1
 have HC0_1 := Aside0.mk hc0_1
 clear hr0_1 hc0_1
 have HR1 := Aside0.mk hr1
 have HC1 := Aside0.mk hc1
 clear hr1 hc1
 have HB := Aside0.mk (Below.refl w.heap.size w)
 have H : ((spileref51_asked.f k a0_0 l0_1 l1 a2).bind fun t513 => (if t513 = 0 then (spileref51_Bonds.l0 k l1 a2 ([] : List (S42)) 0 a0_0 l0_1) else (some (([] : List (S42)), t513)))) = some (r1, r2) := h
 clear h
 replace H := Option.bind_eq_some_iff.mp H
 obtain ⟨t513, A40, H⟩ := H
 replace H : (if t513 = 0 then (spileref51_Bonds.l0 k l1 a2 ([] : List (S42)) 0 a0_0 l0_1) else (some (([] : List (S42)), t513))) = some (r1, r2) := H
 have A4 := Aside0.mk A40
 clear A40
 by_cases c5 : t513 = 0
 ·rw [if_pos c5] at H
  have c5b0 : (t513 == 0) = true := beq_iff_eq.mpr c5
  try simp only [beq_self_eq_true, Bool.not_true, Bool.false_or, Bool.true_and] at c5b0
  have c5b1 : (t513 != 0) = false := bne_eq_false_iff_eq.mpr c5
  clear c5
  have H' := Aside0.mk H
  clear H
  go_enter Try.func16, Try.ntmps16
  go_wp2_with (first | ((with_reducible refine gqD (N := 3) rfl ?_); refine GS.bx (N := 3) (cs := #[.int .i64 a0_0, .slice A0_1 l0_1.length c0_1]) (t := 24) ?_; intro gb512 hg w6 hbox hb; have n0_ := Aside0.mk (lqT (GS.lB HB.out) hb); have n1_ := Aside0.mk (hbox); have n2_ := Aside0.mk ((by rw [hg]; exact (lqZ (GS.lB HB.out)) : w.heap.size ≤ gb512)); have n3_ := Aside0.mk ((by rw [hg]; exact (lqZ (GS.lB HB.out)) : w.heap.size ≤ gb512)); clear HB; have HB := n0_; have BK512 := n1_; have GW512 := n2_; have GE512 := n3_; clear n0_ n1_ n2_ n3_; clear hb hbox hg; obtain ⟨hcz7_0, hcz7_1, hfz7_0, hfz7_1⟩ := GS.c2 BK512.out) | ((with_reducible refine gqC (f := 33) rfl ?_); refine GS.gL (some 18) Try.func33 #[.agg #[.int .i64 a0_0, .slice A0_1 l0_1.length c0_1], .slice A1 l1.length c1, .int .i64 a2] ?_; (with_reducible refine (spileref51_asked.calls k a0_0 _ _ l0_1 _ _ l1 a2 t513 _ ?side1 ?side2 ?side3 ?side4 A4.out).mono ?_); (case side1 => exact GS.rC (Kd.C_below HR0_1.out HB.out)); (case side2 => exact HC0_1.out); (case side3 => exact GS.rC (Kd.C_below HR1.out HB.out)); (case side4 => exact HC1.out); rintro e w8 ⟨rfl, hb⟩; refine ⟨_, rfl, ?_⟩; have n0_ := Aside0.mk (bqB (GS.bqX BK512.out) hb); have n1_ := Aside0.mk (lqT (GS.lB HB.out) hb); clear BK512; clear HB; have BK512 := n0_; have HB := n1_; clear n0_ n1_; (try clear hb); (try clear hb2); (try clear hk); (try clear hi)))
  go_loopg [9, 10] k (fun kq v9 v10 w' => ∃ (x9_1 : List (S42)) (x10_1 : Int), v10 = .int .i64 x10_1 ∧ Aside0 (spileref51_Bonds.l0 kq l1 a2 x9_1 x10_1 a0_0 l0_1 = some (r1, r2)) ∧ Aside0 (kq ≤ k) ∧ Aside0 (Kd.R k42 42 w' w.heap.size (fun _ => True) v9 x9_1) ∧ Aside0 (w'.heap[gb512]? = some (.cells #[.int .i64 a0_0, (.slice A0_1 l0_1.length c0_1)] 24 (0, 0))) ∧ Aside0 (Below w.heap.size w w'))
  case atStart => exact ⟨(([] : List (S42))), (0), (by first | rfl | (simp; done) | (simp [*]; done)), H', ⟨Nat.le_refl _⟩, ⟨by first | exact Kd.R_nil _ _ _ _ _ | exact Kd.N_nil _ _ _ _ _ | exact Kd.V_nil _ _ _ _ _ | exact Kd.Q_nil _ _ _ _ _ | exact Kd.S_nil _ _ _ _ _⟩, ⟨GS.bqX BK512.out⟩, ⟨GS.lB HB.out⟩⟩
  case round =>
   clear H'
   try clear c1
   try clear p2
   try clear c3
   try clear c5
   try clear c5b0
   try clear c5b1
   try clear hcz7_0
   try clear hcz7_1
   try clear hfz7_0
   try clear hfz7_1
   obtain ⟨x9_1, x10_1, rfl, HA, HK1, HO_9, BK512, HB⟩ := hrel
   cases gk with
   | zero => exact absurd HA.out (by simp [spileref51_Bonds.l0])
   | succ k1 =>
    have H := HA.out
    clear HA
    simp only [spileref51_Bonds.l0] at H
    by_cases c9 : x10_1 < (l1.length : Int)
    ·rw [if_pos c9] at H
     have c9b0 : decide (x10_1 < (l1.length : Int)) = true := decide_eq_true c9
     clear c9
     by_cases c10 : 0 ≤ x10_1
     ·rw [if_pos c10] at H
      have c10b0 : decide (0 ≤ x10_1) = true := decide_eq_true c10
      clear c10
      replace H := Option.bind_eq_some_iff.mp H
      obtain ⟨⟨t515, t516⟩, A110, H⟩ := H
      replace H : (spileref51_Bonds.l1 k1 l1 a2 x9_1 x10_1 t515 0 a0_0 l0_1) = some (r1, r2) := H
      have A11 := Aside0.mk A110
      clear A110
      have HC12 := Aside0.mk H
      clear H
      try go_wp2
      have n0_ := Aside0.mk (Kd.R_drew HO_9.out)
      have n1_ := Aside0.mk (bqD BK512.out)
      have n2_ := Aside0.mk (lqD HB.out)
      clear HO_9
      clear BK512
      clear HB
      have HO_9 := n0_
      have BK512 := n1_
      have HB := n2_
      clear n0_ n1_ n2_
      have p514 : 0 ≤ (x10_1 : Int) := of_decide_eq_true (by first | (with_reducible assumption) | assumption)
      have q514 : x10_1 < (l1.length : Int) := of_decide_eq_true (by first | (with_reducible assumption) | assumption)
      obtain ⟨ad514, e514, hx514_0, hx514_1, hx514_2, hx514_3, hx514_4⟩ := at_T35 HR1.out x10_1 p514 q514
      have hw514_4 := hx514_4
      have hw514_3 := hx514_3
      have hw514_2 := hx514_2
      have hw514_1 := hx514_1
      have hw514_0 := hx514_0
      cases e514
      replace hx514_0 := (HB.out.cell (World.block_lt_of_cell? w _ hx514_0)).trans hx514_0
      replace hx514_1 := (HB.out.cell (World.block_lt_of_cell? w _ hx514_1)).trans hx514_1
      replace hx514_2 := (HB.out.cell (World.block_lt_of_cell? w _ hx514_2)).trans hx514_2
      replace hx514_3 := (HB.out.cell (World.block_lt_of_cell? w _ hx514_3)).trans hx514_3
      replace hx514_4 := (HB.out.cell (World.block_lt_of_cell? w _ hx514_4)).trans hx514_4
      replace p514 := eq_true p514
      replace q514 := eq_true q514
      refine start_ (n := 12) (S := fun w' => w'.cell? ⟨gb512, 0, none⟩ = some (.int .i64 a0_0) ∧ w'.cell? ⟨gb512, 1, none⟩ = some (.slice A0_1 l0_1.length c0_1) ∧ w'.cell? (ad514.add ((x10_1).toNat * 5)) = some (.int .i64 ((rd_T35 l1 x10_1).f0)) ∧ w'.cell? ⟨(ad514.add ((x10_1).toNat * 5)).block, (ad514.add ((x10_1).toNat * 5)).off + 1, none⟩ = some (.int .i64 ((rd_T35 l1 x10_1).f1)) ∧ w'.cell? ⟨(ad514.add ((x10_1).toNat * 5)).block, (ad514.add ((x10_1).toNat * 5)).off + 2, none⟩ = some (.int .i64 ((rd_T35 l1 x10_1).f2)) ∧ w'.cell? ⟨(ad514.add ((x10_1).toNat * 5)).block, (ad514.add ((x10_1).toNat * 5)).off + 3, none⟩ = some (.int .i64 ((rd_T35 l1 x10_1).f3)) ∧ w'.cell? ⟨(ad514.add ((x10_1).toNat * 5)).block, (ad514.add ((x10_1).toNat * 5)).off + 4, none⟩ = some (.int .i64 ((rd_T35 l1 x10_1).f4))) (ds := []) #[false, false, false, false, false, false, false, false, false, false, false, false] (by kernel_rfl) rfl rfl ⟨(bqC BK512.out 0).trans rfl, (bqC BK512.out 1).trans rfl, ((HB.out.cell (World.block_lt_of_cell? w _ hw514_0)).trans hw514_0), ((HB.out.cell (World.block_lt_of_cell? w _ hw514_1)).trans hw514_1), ((HB.out.cell (World.block_lt_of_cell? w _ hw514_2)).trans hw514_2), ((HB.out.cell (World.block_lt_of_cell? w _ hw514_3)).trans hw514_3), ((HB.out.cell (World.block_lt_of_cell? w _ hw514_4)).trans hw514_4)⟩ (fun hHeld => ?_); refine with_tabW spileref51_Bonds.tab8 spileref51_Bonds.bits8 (fun HT_ HW_ => ?_)
      generalize wr.drew = w13 at HO_9 BK512 HB hx514_0 hx514_1 hx514_2 hx514_3 hx514_4 hHeld ⊢
      refine GS.pu 1 (some 30) HT_.out ?_
      refine GS.pu 2 (some 31) HT_.out ?_
      refine GS.pu 3 (some 32) HT_.out ?_
      refine GS.pu 5 (some 34) HT_.out ?_
      refine GS.tk 0 (some 29) HT_.out HW_.out hHeld ?_
      refine GS.tk 4 (some 33) HT_.out HW_.out hHeld ?_
      refine one_ (i := 6) (N := some 35) #[true, true, true, true, true, true, true, false, false, false, false, false] rfl rfl (one_of HT_.out (by kernel_rfl)) (by decide) (fun K hK => ?_)
      refine goes_ Try.func34 (by kernel_rfl) rfl #[.agg #[.int .i64 a0_0, .slice A0_1 l0_1.length c0_1], .agg #[.int .i64 ((rd_T35 l1 x10_1).f0), .int .i64 ((rd_T35 l1 x10_1).f1), .int .i64 ((rd_T35 l1 x10_1).f2), .int .i64 ((rd_T35 l1 x10_1).f3), .int .i64 ((rd_T35 l1 x10_1).f4)], .int .i64 a2] (by rfl) rfl rfl (by (try simp only [List.map_toArray, List.map_cons, List.map_nil]); first | done | rfl | (simp only [List.length_drop, List.length_take]; rfl)) ?_
      with_reducible refine (spileref51_most.calls k1 a0_0 _ _ l0_1 ((rd_T35 l1 x10_1).f0) ((rd_T35 l1 x10_1).f1) ((rd_T35 l1 x10_1).f2) ((rd_T35 l1 x10_1).f3) ((rd_T35 l1 x10_1).f4) a2 t515 t516 _ ?side1 ?side2 A11.out).mono ?_
      (case side1 => exact GS.rC (Kd.C_below HR0_1.out HB.out))
      (case side2 => exact HC0_1.out)
      rintro e w14 ⟨rfl, hb⟩
      refine ⟨_, rfl, ?_⟩
      have n0_ := Aside0.mk (Kd.R_below (GS.rR HO_9.out) hb)
      have n1_ := Aside0.mk (bqB (GS.bqX BK512.out) hb)
      have n2_ := Aside0.mk (lqT (GS.lB HB.out) hb)
      clear HO_9
      clear BK512
      clear HB
      have HO_9 := n0_
      have BK512 := n1_
      have HB := n2_
      clear n0_ n1_ n2_
      (try clear hb)
      (try clear hb2)
      (try clear hk)
      (try clear hi)
      refine hK.out _ _ ⟨(bqC BK512.out 0).trans rfl, (bqC BK512.out 1).trans rfl, ((HB.out.cell (World.block_lt_of_cell? w _ hw514_0)).trans hw514_0), ((HB.out.cell (World.block_lt_of_cell? w _ hw514_1)).trans hw514_1), ((HB.out.cell (World.block_lt_of_cell? w _ hw514_2)).trans hw514_2), ((HB.out.cell (World.block_lt_of_cell? w _ hw514_3)).trans hw514_3), ((HB.out.cell (World.block_lt_of_cell? w _ hw514_4)).trans hw514_4)⟩ (fun hHeld => ?_)
      clear hK K
      refine norm_ (a' := ?_) ?_ ?_
      rotate_left
      ·show Act.put _ (some 35) _ = _
       simp only [Act.put, List.setIfInBounds_toArray, List.set_cons_zero, List.set_cons_succ, i64_w, i32_w]
       rfl
      refine GS.pu 7 (some 28) HT_.out ?_
      refine GS.pu 8 (some 36) HT_.out ?_
      refine GS.pu 9 (some 37) HT_.out ?_
      refine GS.pu 10 (some 11) HT_.out ?_
      refine GS.pu 11 (some 12) HT_.out ?_
      refine done_ (done_of HT_.out (by kernel_rfl)) ?_
      go_upto_block 2 with (fail)
      go_cut [13] (fun v13 wc => ∃ (kq : Nat) (x13_11 : Int), v13 = .int .i64 x13_11 ∧ Aside0 (spileref51_Bonds.j2 kq l1 a2 x9_1 x10_1 t515 x13_11 a0_0 l0_1 = some (r1, r2)) ∧ Aside0 (kq ≤ k1) ∧ Aside0 (Kd.R k42 42 wc w.heap.size (fun _ => True) u9 x9_1) ∧ Aside0 (wc.heap[gb512]? = some (.cells #[.int .i64 a0_0, (.slice A0_1 l0_1.length c0_1)] 24 (0, 0))) ∧ Aside0 (Below w.heap.size w wc))
      case first =>
       have H := HC12.out
       clear HC12
       have H' := Aside0.mk H
       clear H
       go_wp2
       go_loopg [13] k1 (fun kq v13 w' => ∃ (x13_2 : Int), v13 = .int .i64 x13_2 ∧ Aside0 (spileref51_Bonds.l1 kq l1 a2 x9_1 x10_1 t515 x13_2 a0_0 l0_1 = some (r1, r2)) ∧ Aside0 (kq ≤ k1) ∧ Aside0 (Kd.R k42 42 w' w.heap.size (fun _ => True) u9 x9_1) ∧ Aside0 (w'.heap[gb512]? = some (.cells #[.int .i64 a0_0, (.slice A0_1 l0_1.length c0_1)] 24 (0, 0))) ∧ Aside0 (Below w.heap.size w w'))
       case atStart => exact ⟨(0), (by first | rfl | (simp; done) | (simp [*]; done)), H', ⟨Nat.le_refl _⟩, ⟨by (with_reducible repeat (first | apply Kd.R_alloc | apply Kd.R_drewN | apply Kd.R_drew)); exact HO_9.out⟩, ⟨GS.bqX BK512.out⟩, ⟨GS.lB HB.out⟩⟩
       case round =>
        clear H'
        try clear c1
        try clear p2
        try clear c3
        try clear c5
        try clear c5b0
        try clear c5b1
        try clear p5
        try clear q5
        try clear hx5
        try clear c9
        try clear c9b0
        try clear c10
        try clear c10b0
        try clear hcz7_0
        try clear hcz7_1
        try clear hfz7_0
        try clear hfz7_1
        try clear hx514_0
        try clear hx514_1
        try clear hx514_2
        try clear hx514_3
        try clear hx514_4
        try clear p2
        try clear p514
        try clear q514
        obtain ⟨x13_2, rfl, HA, HK2, HO_9, BK512, HB⟩ := hrel
        cases gk with
        | zero => exact absurd HA.out (by simp [spileref51_Bonds.l1])
        | succ k2 =>
         have H := HA.out
         clear HA
         simp only [spileref51_Bonds.l1] at H
         by_cases c15 : x13_2 < (x9_1.length : Int)
         ·rw [if_pos c15] at H
          have c15b0 : decide (x13_2 < (x9_1.length : Int)) = true := decide_eq_true c15
          clear c15
          (first | rw [c15b0] | (simp only [i64_w, i32_w]; rw [c15b0]) | skip)
          by_cases c16 : 0 ≤ x13_2
          ·rw [if_pos c16] at H
           have c16b0 : decide (0 ≤ x13_2) = true := decide_eq_true c16
           clear c16
           by_cases c17 : 0 ≤ x10_1
           ·rw [if_pos c17] at H
            have c17b0 : decide (0 ≤ x10_1) = true := decide_eq_true c17
            clear c17
            by_cases c18 : x10_1 < (l1.length : Int)
            ·rw [if_pos c18] at H
             have c18b0 : decide (x10_1 < (l1.length : Int)) = true := decide_eq_true c18
             clear c18
             by_cases c19 : ((rd_T42 x9_1 x13_2).f0) < ((rd_T35 l1 x10_1).f1)
             ·rw [if_pos c19] at H
              have c19b0 : decide (((rd_T42 x9_1 x13_2).f0) < ((rd_T35 l1 x10_1).f1)) = true := decide_eq_true c19
              clear c19
              have H' := Aside0.mk H
              clear H
              try go_wp2
              have n0_ := Aside0.mk (Kd.R_drew HO_9.out)
              have n1_ := Aside0.mk (bqD BK512.out)
              have n2_ := Aside0.mk (lqD HB.out)
              clear HO_9
              clear BK512
              clear HB
              have HO_9 := n0_
              have BK512 := n1_
              have HB := n2_
              clear n0_ n1_ n2_
              obtain ⟨Ao21, co21, eo21⟩ := Kd.R_slice HO_9.out
              (first | subst eo21 | (injection eo21 with f1_ f2_ f3_; have f4_ := f1_.symm; have f5_ := f3_.symm; clear f1_ f2_ f3_; subst f4_; subst f5_))
              have p517 : 0 ≤ (x13_2 : Int) := of_decide_eq_true (by first | (with_reducible assumption) | assumption)
              have q517 : x13_2 < (x9_1.length : Int) := of_decide_eq_true (by first | (with_reducible assumption) | assumption)
              obtain ⟨ad517, e517, hx517_0, hx517_1, hx517_2⟩ := at_T42 (Kd.R_reads' HO_9.out).2.2 x13_2 p517 q517
              cases e517
              replace p517 := eq_true p517
              replace q517 := eq_true q517
              have p518 : 0 ≤ (x10_1 : Int) := of_decide_eq_true (by first | (with_reducible assumption) | assumption)
              have q518 : x10_1 < (l1.length : Int) := of_decide_eq_true (by first | (with_reducible assumption) | assumption)
              obtain ⟨ad518, e518, hx518_0, hx518_1, hx518_2, hx518_3, hx518_4⟩ := at_T35 HR1.out x10_1 p518 q518
              have hw518_4 := hx518_4
              have hw518_3 := hx518_3
              have hw518_2 := hx518_2
              have hw518_1 := hx518_1
              have hw518_0 := hx518_0
              obtain rfl : ad514 = ad518 := (by injection e518)
              replace hx518_0 := (HB.out.cell (World.block_lt_of_cell? w _ hx518_0)).trans hx518_0
              replace hx518_1 := (HB.out.cell (World.block_lt_of_cell? w _ hx518_1)).trans hx518_1
              replace hx518_2 := (HB.out.cell (World.block_lt_of_cell? w _ hx518_2)).trans hx518_2
              replace hx518_3 := (HB.out.cell (World.block_lt_of_cell? w _ hx518_3)).trans hx518_3
              replace hx518_4 := (HB.out.cell (World.block_lt_of_cell? w _ hx518_4)).trans hx518_4
              replace p518 := eq_true p518
              replace q518 := eq_true q518
              refine start_ (n := 17) (S := fun w' => w'.cell? (ad517.add ((x13_2).toNat * 3)) = some (.int .i64 ((rd_T42 x9_1 x13_2).f0)) ∧ w'.cell? ⟨(ad517.add ((x13_2).toNat * 3)).block, (ad517.add ((x13_2).toNat * 3)).off + 1, none⟩ = some (.int .i64 ((rd_T42 x9_1 x13_2).f1)) ∧ w'.cell? ⟨(ad517.add ((x13_2).toNat * 3)).block, (ad517.add ((x13_2).toNat * 3)).off + 2, none⟩ = some (.int .i64 ((rd_T42 x9_1 x13_2).f2)) ∧ w'.cell? (ad514.add ((x10_1).toNat * 5)) = some (.int .i64 ((rd_T35 l1 x10_1).f0)) ∧ w'.cell? ⟨(ad514.add ((x10_1).toNat * 5)).block, (ad514.add ((x10_1).toNat * 5)).off + 1, none⟩ = some (.int .i64 ((rd_T35 l1 x10_1).f1)) ∧ w'.cell? ⟨(ad514.add ((x10_1).toNat * 5)).block, (ad514.add ((x10_1).toNat * 5)).off + 2, none⟩ = some (.int .i64 ((rd_T35 l1 x10_1).f2)) ∧ w'.cell? ⟨(ad514.add ((x10_1).toNat * 5)).block, (ad514.add ((x10_1).toNat * 5)).off + 3, none⟩ = some (.int .i64 ((rd_T35 l1 x10_1).f3)) ∧ w'.cell? ⟨(ad514.add ((x10_1).toNat * 5)).block, (ad514.add ((x10_1).toNat * 5)).off + 4, none⟩ = some (.int .i64 ((rd_T35 l1 x10_1).f4))) (ds := []) #[false, false, false, false, false, false, false, false, false, false, false, false, false, false, false, false, false] (by kernel_rfl) rfl rfl ⟨hx517_0, hx517_1, hx517_2, ((HB.out.cell (World.block_lt_of_cell? w _ hw518_0)).trans hw518_0), ((HB.out.cell (World.block_lt_of_cell? w _ hw518_1)).trans hw518_1), ((HB.out.cell (World.block_lt_of_cell? w _ hw518_2)).trans hw518_2), ((HB.out.cell (World.block_lt_of_cell? w _ hw518_3)).trans hw518_3), ((HB.out.cell (World.block_lt_of_cell? w _ hw518_4)).trans hw518_4)⟩ (fun hHeld => ?_); refine with_tabW spileref51_Bonds.tab10 spileref51_Bonds.bits10 (fun HT_ HW_ => ?_)
              generalize wr.drew = w20 at HO_9 BK512 HB hx517_0 hx517_1 hx517_2 hx518_0 hx518_1 hx518_2 hx518_3 hx518_4 hHeld ⊢
              refine GS.pu 0 (some 38) HT_.out ?_
              refine GS.pu 1 (some 39) HT_.out ?_
              refine GS.pu 2 (some 40) HT_.out ?_
              refine GS.pu 3 (some 41) HT_.out ?_
              refine GS.pu 4 (some 42) HT_.out ?_
              refine GS.pu 5 (some 43) HT_.out ?_
              refine GS.pu 6 (some 44) HT_.out ?_
              refine GS.pu 7 (some 45) HT_.out ?_
              refine GS.pu 8 (some 46) HT_.out ?_
              refine GS.pu 10 (some 48) HT_.out ?_
              refine GS.pu 11 (some 49) HT_.out ?_
              refine GS.pu 12 (some 50) HT_.out ?_
              refine GS.pu 13 (some 51) HT_.out ?_
              refine GS.tk 9 (some 47) HT_.out HW_.out hHeld ?_
              refine GS.tk 14 (some 52) HT_.out HW_.out hHeld ?_
              refine GS.pu 15 (some 53) HT_.out ?_
              refine GS.pu 16 (some 54) HT_.out ?_
              refine done_ (done_of HT_.out (by kernel_rfl)) ?_
              try go_wp2
              go_roundg k2
              case measure => have := HK1.out; have := HK2.out; omega
              case rel => exact ⟨(wrap64 (x13_2 + 1)), (by first | rfl | (simp; done) | (simp [*]; done)), H', ⟨by have := HK1.out; have := HK2.out; omega⟩, ⟨by (with_reducible repeat (first | apply Kd.R_alloc | apply Kd.R_drewN | apply Kd.R_drew)); exact HO_9.out⟩, ⟨GS.bqX BK512.out⟩, ⟨GS.lB HB.out⟩⟩
             ·rw [if_neg c19] at H
              have c19b0 : decide (((rd_T42 x9_1 x13_2).f0) < ((rd_T35 l1 x10_1).f1)) = false := decide_eq_false c19
              clear c19
              have H' := Aside0.mk H
              clear H
              try go_wp2
              have n0_ := Aside0.mk (Kd.R_drew HO_9.out)
              have n1_ := Aside0.mk (bqD BK512.out)
              have n2_ := Aside0.mk (lqD HB.out)
              clear HO_9
              clear BK512
              clear HB
              have HO_9 := n0_
              have BK512 := n1_
              have HB := n2_
              clear n0_ n1_ n2_
              obtain ⟨Ao23, co23, eo23⟩ := Kd.R_slice HO_9.out
              (first | subst eo23 | (injection eo23 with f1_ f2_ f3_; have f4_ := f1_.symm; have f5_ := f3_.symm; clear f1_ f2_ f3_; subst f4_; subst f5_))
              have p517 : 0 ≤ (x13_2 : Int) := of_decide_eq_true (by first | (with_reducible assumption) | assumption)
              have q517 : x13_2 < (x9_1.length : Int) := of_decide_eq_true (by first | (with_reducible assumption) | assumption)
              obtain ⟨ad517, e517, hx517_0, hx517_1, hx517_2⟩ := at_T42 (Kd.R_reads' HO_9.out).2.2 x13_2 p517 q517
              cases e517
              replace p517 := eq_true p517
              replace q517 := eq_true q517
              have p518 : 0 ≤ (x10_1 : Int) := of_decide_eq_true (by first | (with_reducible assumption) | assumption)
              have q518 : x10_1 < (l1.length : Int) := of_decide_eq_true (by first | (with_reducible assumption) | assumption)
              obtain ⟨ad518, e518, hx518_0, hx518_1, hx518_2, hx518_3, hx518_4⟩ := at_T35 HR1.out x10_1 p518 q518
              have hw518_4 := hx518_4
              have hw518_3 := hx518_3
              have hw518_2 := hx518_2
              have hw518_1 := hx518_1
              have hw518_0 := hx518_0
              obtain rfl : ad514 = ad518 := (by injection e518)
              replace hx518_0 := (HB.out.cell (World.block_lt_of_cell? w _ hx518_0)).trans hx518_0
              replace hx518_1 := (HB.out.cell (World.block_lt_of_cell? w _ hx518_1)).trans hx518_1
              replace hx518_2 := (HB.out.cell (World.block_lt_of_cell? w _ hx518_2)).trans hx518_2
              replace hx518_3 := (HB.out.cell (World.block_lt_of_cell? w _ hx518_3)).trans hx518_3
              replace hx518_4 := (HB.out.cell (World.block_lt_of_cell? w _ hx518_4)).trans hx518_4
              replace p518 := eq_true p518
              replace q518 := eq_true q518
              refine start_ (n := 17) (S := fun w' => w'.cell? (ad517.add ((x13_2).toNat * 3)) = some (.int .i64 ((rd_T42 x9_1 x13_2).f0)) ∧ w'.cell? ⟨(ad517.add ((x13_2).toNat * 3)).block, (ad517.add ((x13_2).toNat * 3)).off + 1, none⟩ = some (.int .i64 ((rd_T42 x9_1 x13_2).f1)) ∧ w'.cell? ⟨(ad517.add ((x13_2).toNat * 3)).block, (ad517.add ((x13_2).toNat * 3)).off + 2, none⟩ = some (.int .i64 ((rd_T42 x9_1 x13_2).f2)) ∧ w'.cell? (ad514.add ((x10_1).toNat * 5)) = some (.int .i64 ((rd_T35 l1 x10_1).f0)) ∧ w'.cell? ⟨(ad514.add ((x10_1).toNat * 5)).block, (ad514.add ((x10_1).toNat * 5)).off + 1, none⟩ = some (.int .i64 ((rd_T35 l1 x10_1).f1)) ∧ w'.cell? ⟨(ad514.add ((x10_1).toNat * 5)).block, (ad514.add ((x10_1).toNat * 5)).off + 2, none⟩ = some (.int .i64 ((rd_T35 l1 x10_1).f2)) ∧ w'.cell? ⟨(ad514.add ((x10_1).toNat * 5)).block, (ad514.add ((x10_1).toNat * 5)).off + 3, none⟩ = some (.int .i64 ((rd_T35 l1 x10_1).f3)) ∧ w'.cell? ⟨(ad514.add ((x10_1).toNat * 5)).block, (ad514.add ((x10_1).toNat * 5)).off + 4, none⟩ = some (.int .i64 ((rd_T35 l1 x10_1).f4))) (ds := []) #[false, false, false, false, false, false, false, false, false, false, false, false, false, false, false, false, false] (by kernel_rfl) rfl rfl ⟨hx517_0, hx517_1, hx517_2, ((HB.out.cell (World.block_lt_of_cell? w _ hw518_0)).trans hw518_0), ((HB.out.cell (World.block_lt_of_cell? w _ hw518_1)).trans hw518_1), ((HB.out.cell (World.block_lt_of_cell? w _ hw518_2)).trans hw518_2), ((HB.out.cell (World.block_lt_of_cell? w _ hw518_3)).trans hw518_3), ((HB.out.cell (World.block_lt_of_cell? w _ hw518_4)).trans hw518_4)⟩ (fun hHeld => ?_); refine with_tabW spileref51_Bonds.tab10 spileref51_Bonds.bits10 (fun HT_ HW_ => ?_)
              generalize wr.drew = w22 at HO_9 BK512 HB hx517_0 hx517_1 hx517_2 hx518_0 hx518_1 hx518_2 hx518_3 hx518_4 hHeld ⊢
              refine GS.pu 0 (some 38) HT_.out ?_
              refine GS.pu 1 (some 39) HT_.out ?_
              refine GS.pu 2 (some 40) HT_.out ?_
              refine GS.pu 3 (some 41) HT_.out ?_
              refine GS.pu 4 (some 42) HT_.out ?_
              refine GS.pu 5 (some 43) HT_.out ?_
              refine GS.pu 6 (some 44) HT_.out ?_
              refine GS.pu 7 (some 45) HT_.out ?_
              refine GS.pu 8 (some 46) HT_.out ?_
              refine GS.pu 10 (some 48) HT_.out ?_
              refine GS.pu 11 (some 49) HT_.out ?_
              refine GS.pu 12 (some 50) HT_.out ?_
              refine GS.pu 13 (some 51) HT_.out ?_
              refine GS.tk 9 (some 47) HT_.out HW_.out hHeld ?_
              refine GS.tk 14 (some 52) HT_.out HW_.out hHeld ?_
              refine GS.pu 15 (some 53) HT_.out ?_
              refine GS.pu 16 (some 54) HT_.out ?_
              refine done_ (done_of HT_.out (by kernel_rfl)) ?_
              try go_wp2
              go_meet
              case rel => exact ⟨_, (x13_2), (by first | rfl | (simp; done) | (simp [*]; done)), H', ⟨by have := HK1.out; have := HK2.out; first | omega | exact Nat.le_refl _⟩, ⟨by (with_reducible repeat (first | apply Kd.R_alloc | apply Kd.R_drewN | apply Kd.R_drew)); exact HO_9.out⟩, ⟨GS.bqX BK512.out⟩, ⟨GS.lB HB.out⟩⟩
            ·rw [if_neg c18] at H
             exact absurd H (by simp)
           ·rw [if_neg c17] at H
            exact absurd H (by simp)
          ·rw [if_neg c16] at H
           exact absurd H (by simp)
         ·rw [if_neg c15] at H
          have c15b0 : decide (x13_2 < (x9_1.length : Int)) = false := decide_eq_false c15
          clear c15
          (first | rw [c15b0] | (simp only [i64_w, i32_w]; rw [c15b0]) | skip)
          have H' := Aside0.mk H
          clear H
          try go_wp2
          have n0_ := Aside0.mk (Kd.R_drew HO_9.out)
          have n1_ := Aside0.mk (bqD BK512.out)
          have n2_ := Aside0.mk (lqD HB.out)
          clear HO_9
          clear BK512
          clear HB
          have HO_9 := n0_
          have BK512 := n1_
          have HB := n2_
          clear n0_ n1_ n2_
          obtain ⟨Ao25, co25, eo25⟩ := Kd.R_slice HO_9.out
          (first | subst eo25 | (injection eo25 with f1_ f2_ f3_; have f4_ := f1_.symm; have f5_ := f3_.symm; clear f1_ f2_ f3_; subst f4_; subst f5_))
          refine start_ (n := 17) (S := fun w' => True) (ds := []) #[false, false, false, false, false, false, false, false, false, false, false, false, false, false, false, false, false] (by kernel_rfl) rfl rfl trivial (fun hHeld => ?_); refine with_tabW spileref51_Bonds.tab10 spileref51_Bonds.bits10 (fun HT_ HW_ => ?_)
          generalize wr.drew = w24 at HO_9 BK512 HB hHeld ⊢
          refine GS.pu 0 (some 38) HT_.out ?_
          refine GS.pu 1 (some 39) HT_.out ?_
          refine GS.pu 2 (some 40) HT_.out ?_
          refine GS.pu 3 (some 41) HT_.out ?_
          refine GS.pu 4 (some 42) HT_.out ?_
          refine GS.pn 5 (some 43) HT_.out ?_
          refine GS.pn 6 (some 44) HT_.out ?_
          refine GS.pn 7 (some 45) HT_.out ?_
          refine GS.pn 8 (some 46) HT_.out ?_
          refine GS.pn 9 (some 47) HT_.out ?_
          refine GS.pn 10 (some 48) HT_.out ?_
          refine GS.pn 11 (some 49) HT_.out ?_
          refine GS.pn 12 (some 50) HT_.out ?_
          refine GS.pn 13 (some 51) HT_.out ?_
          refine GS.pn 14 (some 52) HT_.out ?_
          refine GS.pn 15 (some 53) HT_.out ?_
          refine GS.pu 16 (some 54) HT_.out ?_
          refine done_ (done_of HT_.out (by kernel_rfl)) ?_
          try go_wp2
          go_meet
          case rel => exact ⟨_, (x13_2), (by first | rfl | (simp; done) | (simp [*]; done)), H', ⟨by have := HK1.out; have := HK2.out; first | omega | exact Nat.le_refl _⟩, ⟨by (with_reducible repeat (first | apply Kd.R_alloc | apply Kd.R_drewN | apply Kd.R_drew)); exact HO_9.out⟩, ⟨GS.bqX BK512.out⟩, ⟨GS.lB HB.out⟩⟩
      case rest =>
       clear HC12
       try clear c1
       try clear p2
       try clear c3
       try clear c5
       try clear c5b0
       try clear c5b1
       try clear p5
       try clear q5
       try clear hx5
       try clear p6
       try clear c9
       try clear c9b0
       try clear c10
       try clear c10b0
       try clear c15
       try clear c15b0
       try clear c16
       try clear c16b0
       try clear c17
       try clear c17b0
       try clear c18
       try clear c18b0
       try clear c19
       try clear c19b0
       try clear hcz7_0
       try clear hcz7_1
       try clear hfz7_0
       try clear hfz7_1
       try clear hx514_0
       try clear hx514_1
       try clear hx514_2
       try clear hx514_3
       try clear hx514_4
       try clear hx517_0
       try clear hx517_1
       try clear hx517_2
       try clear hx518_0
       try clear hx518_1
       try clear hx518_2
       try clear hx518_3
       try clear hx518_4
       try clear p2
       try clear p5
       try clear p514
       try clear p517
       try clear p518
       try clear q5
       try clear q514
       try clear q517
       try clear q518
       obtain ⟨kq, x13_11, rfl, HA, HJ11, HO_9, BK512, HB⟩ := hcut
       cases kq with
       | zero => exact absurd HA.out (by simp [spileref51_Bonds.j2])
       | succ kj11 =>
        have H := HA.out
        clear HA
        simp only [spileref51_Bonds.j2] at H
        by_cases c26 : x13_11 < (x9_1.length : Int)
        ·rw [if_pos c26] at H
         have c26b0 : decide (x13_11 < (x9_1.length : Int)) = true := decide_eq_true c26
         clear c26
         by_cases c27 : 0 ≤ x13_11
         ·rw [if_pos c27] at H
          have c27b0 : decide (0 ≤ x13_11) = true := decide_eq_true c27
          clear c27
          by_cases c28 : 0 ≤ x10_1
          ·rw [if_pos c28] at H
           have c28b0 : decide (0 ≤ x10_1) = true := decide_eq_true c28
           clear c28
           by_cases c29 : x10_1 < (l1.length : Int)
           ·rw [if_pos c29] at H
            have c29b0 : decide (x10_1 < (l1.length : Int)) = true := decide_eq_true c29
            clear c29
            by_cases c30 : ((rd_T42 x9_1 x13_11).f0) = ((rd_T35 l1 x10_1).f1)
            ·rw [if_pos c30] at H
             have c30b0 : (((rd_T42 x9_1 x13_11).f0) == ((rd_T35 l1 x10_1).f1)) = true := beq_iff_eq.mpr c30
             try simp only [beq_self_eq_true, Bool.not_true, Bool.false_or, Bool.true_and] at c30b0
             have c30b1 : (((rd_T42 x9_1 x13_11).f0) != ((rd_T35 l1 x10_1).f1)) = false := bne_eq_false_iff_eq.mpr c30
             clear c30
             obtain ⟨y522, hy522⟩ : ∃ y_ : List (S42), y_ = (x9_1.set (x13_11 : Int).toNat (⟨(rd_T42 x9_1 x13_11).f0, (rd_T42 x9_1 x13_11).f1, wrap64 (((rd_T42 x9_1 x13_11).f2) + t515)⟩ : S42)) := ⟨_, rfl⟩
             replace H : (spileref51_Bonds.l0 kj11 l1 a2 y522 (wrap64 (x10_1 + 1)) a0_0 l0_1) = some (r1, r2) := by first | (rw [hy522]; with_reducible exact H) | (have H2_ := (Option.bind_some _ _).symm.trans H; rw [hy522]; with_reducible exact H2_) | (have H2_ := (Option.bind_some _ _).symm.trans H; with_reducible exact H2_) | with_reducible exact H | (rw [hy522]; exact H) | exact H
             have Ny522 := Aside0.mk hy522
             clear hy522
             have H' := Aside0.mk H
             clear H
             try go_wp2
             have n0_ := Aside0.mk (Kd.R_drew HO_9.out)
             have n1_ := Aside0.mk (bqD BK512.out)
             have n2_ := Aside0.mk (lqD HB.out)
             clear HO_9
             clear BK512
             clear HB
             have HO_9 := n0_
             have BK512 := n1_
             have HB := n2_
             clear n0_ n1_ n2_
             obtain ⟨Ao33, co33, eo33⟩ := Kd.R_slice HO_9.out
             (first | subst eo33 | (injection eo33 with f1_ f2_ f3_; have f4_ := f1_.symm; have f5_ := f3_.symm; clear f1_ f2_ f3_; subst f4_; subst f5_))
             have p519 : 0 ≤ (x13_11 : Int) := of_decide_eq_true (by first | (with_reducible assumption) | assumption)
             have q519 : x13_11 < (x9_1.length : Int) := of_decide_eq_true (by first | (with_reducible assumption) | assumption)
             obtain ⟨ad519, e519, hx519_0, hx519_1, hx519_2⟩ := at_T42 (Kd.R_reads' HO_9.out).2.2 x13_11 p519 q519
             cases e519
             replace p519 := eq_true p519
             replace q519 := eq_true q519
             have p520 : 0 ≤ (x10_1 : Int) := of_decide_eq_true (by first | (with_reducible assumption) | assumption)
             have q520 : x10_1 < (l1.length : Int) := of_decide_eq_true (by first | (with_reducible assumption) | assumption)
             obtain ⟨ad520, e520, hx520_0, hx520_1, hx520_2, hx520_3, hx520_4⟩ := at_T35 HR1.out x10_1 p520 q520
             have hw520_4 := hx520_4
             have hw520_3 := hx520_3
             have hw520_2 := hx520_2
             have hw520_1 := hx520_1
             have hw520_0 := hx520_0
             obtain rfl : ad514 = ad520 := (by injection e520)
             replace hx520_0 := (HB.out.cell (World.block_lt_of_cell? w _ hx520_0)).trans hx520_0
             replace hx520_1 := (HB.out.cell (World.block_lt_of_cell? w _ hx520_1)).trans hx520_1
             replace hx520_2 := (HB.out.cell (World.block_lt_of_cell? w _ hx520_2)).trans hx520_2
             replace hx520_3 := (HB.out.cell (World.block_lt_of_cell? w _ hx520_3)).trans hx520_3
             replace hx520_4 := (HB.out.cell (World.block_lt_of_cell? w _ hx520_4)).trans hx520_4
             replace p520 := eq_true p520
             replace q520 := eq_true q520
             refine start_ (n := 17) (S := fun w' => w'.cell? (ad519.add ((x13_11).toNat * 3)) = some (.int .i64 ((rd_T42 x9_1 x13_11).f0)) ∧ w'.cell? ⟨(ad519.add ((x13_11).toNat * 3)).block, (ad519.add ((x13_11).toNat * 3)).off + 1, none⟩ = some (.int .i64 ((rd_T42 x9_1 x13_11).f1)) ∧ w'.cell? ⟨(ad519.add ((x13_11).toNat * 3)).block, (ad519.add ((x13_11).toNat * 3)).off + 2, none⟩ = some (.int .i64 ((rd_T42 x9_1 x13_11).f2)) ∧ w'.cell? (ad514.add ((x10_1).toNat * 5)) = some (.int .i64 ((rd_T35 l1 x10_1).f0)) ∧ w'.cell? ⟨(ad514.add ((x10_1).toNat * 5)).block, (ad514.add ((x10_1).toNat * 5)).off + 1, none⟩ = some (.int .i64 ((rd_T35 l1 x10_1).f1)) ∧ w'.cell? ⟨(ad514.add ((x10_1).toNat * 5)).block, (ad514.add ((x10_1).toNat * 5)).off + 2, none⟩ = some (.int .i64 ((rd_T35 l1 x10_1).f2)) ∧ w'.cell? ⟨(ad514.add ((x10_1).toNat * 5)).block, (ad514.add ((x10_1).toNat * 5)).off + 3, none⟩ = some (.int .i64 ((rd_T35 l1 x10_1).f3)) ∧ w'.cell? ⟨(ad514.add ((x10_1).toNat * 5)).block, (ad514.add ((x10_1).toNat * 5)).off + 4, none⟩ = some (.int .i64 ((rd_T35 l1 x10_1).f4))) (ds := []) #[false, false, false, false, false, false, false, false, false, false, false, false, false, false, false, false, false] (by kernel_rfl) rfl rfl ⟨hx519_0, hx519_1, hx519_2, ((HB.out.cell (World.block_lt_of_cell? w _ hw520_0)).trans hw520_0), ((HB.out.cell (World.block_lt_of_cell? w _ hw520_1)).trans hw520_1), ((HB.out.cell (World.block_lt_of_cell? w _ hw520_2)).trans hw520_2), ((HB.out.cell (World.block_lt_of_cell? w _ hw520_3)).trans hw520_3), ((HB.out.cell (World.block_lt_of_cell? w _ hw520_4)).trans hw520_4)⟩ (fun hHeld => ?_); refine with_tabW spileref51_Bonds.tab12 spileref51_Bonds.bits12 (fun HT_ HW_ => ?_)
             generalize wc.drew = w32 at HO_9 BK512 HB hx519_0 hx519_1 hx519_2 hx520_0 hx520_1 hx520_2 hx520_3 hx520_4 hHeld ⊢
             refine GS.pu 0 (some 57) HT_.out ?_
             refine GS.pu 1 (some 58) HT_.out ?_
             refine GS.pu 2 (some 59) HT_.out ?_
             refine GS.pu 3 (some 60) HT_.out ?_
             refine GS.pu 4 (some 61) HT_.out ?_
             refine GS.pu 5 (some 62) HT_.out ?_
             refine GS.pu 6 (some 63) HT_.out ?_
             refine GS.pu 7 (some 64) HT_.out ?_
             refine GS.pu 8 (some 65) HT_.out ?_
             refine GS.pu 10 (some 67) HT_.out ?_
             refine GS.pu 11 (some 68) HT_.out ?_
             refine GS.pu 12 (some 69) HT_.out ?_
             refine GS.pu 13 (some 70) HT_.out ?_
             refine GS.tk 9 (some 66) HT_.out HW_.out hHeld ?_
             refine GS.tk 14 (some 71) HT_.out HW_.out hHeld ?_
             refine GS.pu 15 (some 72) HT_.out ?_
             refine GS.pu 16 (some 73) HT_.out ?_
             refine done_ (done_of HT_.out (by kernel_rfl)) ?_
             have p521 : 0 ≤ (x13_11 : Int) := of_decide_eq_true (by first | (with_reducible assumption) | assumption)
             have q521 : x13_11 < (x9_1.length : Int) := of_decide_eq_true (by first | (with_reducible assumption) | assumption)
             obtain ⟨ad521, e521, hx521_0, hx521_1, hx521_2⟩ := at_T42 (Kd.R_reads' HO_9.out).2.2 x13_11 p521 q521
             obtain rfl : ad519 = ad521 := (by injection e521)
             replace p521 := eq_true p521
             replace q521 := eq_true q521
             have p31 : 0 ≤ (x13_11 : Int) := of_decide_eq_true (by first | (with_reducible assumption) | assumption)
             have q31 : (x13_11 : Int) < ((x9_1.length : Int) : Int) := of_decide_eq_true (by first | (with_reducible assumption) | assumption)
             obtain ⟨go31, co31, eo31, gb31, gl31, cl31, HG31⟩ := Kd.R_form HO_9.out (by omega)
             (first | cases eo31 | (injection eo31 with ea_ en_ ec_; (first | subst ea_ | (injection ea_ with ea_; subst ea_)); subst ec_; clear en_))
             have GB31 := Aside0.mk gb31
             have GG31 := Aside0.mk HG31
             clear gb31 gl31 HG31
             (first | simp only [add_plain] at hx519_0 | skip)
             (first | simp only [add_plain] at hx519_1 | skip)
             (first | simp only [add_plain] at hx519_2 | skip)
             (first | simp only [add_plain] at hx521_0 | skip)
             (first | simp only [add_plain] at hx521_1 | skip)
             (first | simp only [add_plain] at hx521_2 | skip)
             obtain ⟨ce31, hcl31, hM31, hcc31, hfr31⟩ := Kd.R_elem HO_9.out z42 (x13_11 : Int) p31 q31
             obtain rfl := k42_openM hM31
             have hx31_0 : w32.cell? ⟨go31, (x13_11 : Int).toNat * 3, none⟩ = some (.int .i64 ((rd_T42 x9_1 x13_11).f0)) := hcc31 0 _ rfl
             have hx31_1 : w32.cell? ⟨go31, (x13_11 : Int).toNat * 3 + 1, none⟩ = some (.int .i64 ((rd_T42 x9_1 x13_11).f1)) := hcc31 1 _ rfl
             have hx31_2 : w32.cell? ⟨go31, (x13_11 : Int).toNat * 3 + 2, none⟩ = some (.int .i64 ((rd_T42 x9_1 x13_11).f2)) := hcc31 2 _ rfl
             have hf31_0 : w32.frozen? ⟨go31, (x13_11 : Int).toNat * 3, none⟩ = false := hfr31 0
             have hf31_1 : w32.frozen? ⟨go31, (x13_11 : Int).toNat * 3 + 1, none⟩ = false := hfr31 1
             have hf31_2 : w32.frozen? ⟨go31, (x13_11 : Int).toNat * 3 + 2, none⟩ = false := hfr31 2
             clear hcl31 hcc31 hfr31 hM31
             replace p31 := eq_true p31
             replace q31 := eq_true q31
             have HX34 := Aside0.mk (show Kd.R k42 42 w32 w.heap.size (fun _ => True) (.slice (some ⟨go31, 0, none⟩) x9_1.length co33) x9_1 from (GS.rR HO_9.out))
             obtain ⟨ce34, hcl34, hM34, hcc34, hfr34⟩ := Kd.R_elem HX34.out z42 (x13_11 : Int) (of_decide_eq_true (by first | (with_reducible assumption) | assumption)) (by have h_ : (x13_11 : Int) < ((x9_1.length : Int) : Int) := of_decide_eq_true (by first | (with_reducible assumption) | assumption); first | exact h_ | (have e_ := (Kd.R_reads' HO_9.out).1; omega) | simpa using h_)
             obtain rfl := k42_openM hM34
             have HP34 := Kd.R_seg HX34.out (x13_11 : Int) (of_decide_eq_true (by first | (with_reducible assumption) | assumption)) (by have h_ : (x13_11 : Int) < ((x9_1.length : Int) : Int) := of_decide_eq_true (by first | (with_reducible assumption) | assumption); first | exact h_ | (have e_ := (Kd.R_reads' HO_9.out).1; omega) | simpa using h_) (seg := [.int .i64 (wrap64 (((rd_T42 x9_1 x13_11).f2) + t515))]) (j := 2) hcl34 hcc34 (show 3 ≤ 3 from by decide) (x' := (⟨(rd_T42 x9_1 x13_11).f0, (rd_T42 x9_1 x13_11).f1, wrap64 (((rd_T42 x9_1 x13_11).f2) + t515)⟩ : S42)) (k42_mkM _ _ _ (⟨(rd_T42 x9_1 x13_11).f0, (rd_T42 x9_1 x13_11).f1, wrap64 (((rd_T42 x9_1 x13_11).f2) + t515)⟩ : S42) ) (fun _ hk => hk)
             have hx34_2 := hcc34 2 _ rfl
             (try simp only [show (k42).sz = 3 from rfl, Nat.mul_one, Nat.add_zero] at hx34_2)
             have hf34_2 := hfr34 2
             (try simp only [show (k42).sz = 3 from rfl, Nat.mul_one, Nat.add_zero] at hf34_2)
             clear hcl34 hcc34 hfr34 hM34
             try go_wp2_with (first | ((with_reducible refine gate_store (t := 3) (p := 82) rfl ?_); refine store_event (t := 3) (p := 82) (v := ?vo_w35) (w1 := (w32.setCell ⟨go31, (x13_11 : Int).toNat * 3 + 2, none⟩ (.int .i64 (wrap64 (((rd_T42 x9_1 x13_11).f2) + t515))))) ?hg ?ho ?hn ?hr ?_; (case ho => rfl); (case hg => rfl); (case hn => rfl); (case hr => first | (go_simp; done) | (go_simp; rfl)); intro w35 hw; have hg : w32.grownBy w35 (some go31) := (by rw [hw]; exact HP34.2); have hp_ : Kd.R k42 42 w35 w.heap.size (fun _ => True) (.slice (some ⟨go31, 0, none⟩) x9_1.length co33) y522 := (by rw [hw, Ny522.out]; exact HP34.1); clear HP34; have n0_ := Aside0.mk (hp_); have n1_ := Aside0.mk (blk_grown (GS.bqX BK512.out) hg (Kd.R_ne HO_9.out BK512.out (by decide))); have n2_ := Aside0.mk ((by rw [hw]; exact lqS (HB.out) GB31.out : Below w.heap.size w w35)); clear HO_9; clear BK512; clear HB; have HO_9 := n0_; have BK512 := n1_; have HB := n2_; clear n0_ n1_ n2_; clear hg hw hp_))
             go_roundg kj11
             case measure => have := HK1.out; have := HJ11.out; omega
             case rel => exact ⟨(y522), (wrap64 (x10_1 + 1)), (by first | rfl | (simp; done) | (simp [*]; done)), H', ⟨by have := HK1.out; have := HJ11.out; omega⟩, ⟨by (with_reducible repeat (first | apply Kd.R_alloc | apply Kd.R_drewN | apply Kd.R_drew)); exact HO_9.out⟩, ⟨GS.bqX BK512.out⟩, ⟨GS.lB HB.out⟩⟩
            ·rw [if_neg c30] at H
             have c30b0 : (((rd_T42 x9_1 x13_11).f0) == ((rd_T35 l1 x10_1).f1)) = false := beq_eq_false_iff_ne.mpr c30
             try simp only [beq_self_eq_true, Bool.not_true, Bool.false_or, Bool.true_and] at c30b0
             have c30b1 : (((rd_T42 x9_1 x13_11).f0) != ((rd_T35 l1 x10_1).f1)) = true := bne_iff_ne.mpr c30
             obtain ⟨y524, hy524⟩ : ∃ y_ : List (S42), y_ = (([(⟨(rd_T35 l1 x10_1).f1, 0, t515⟩ : S42)] : List (S42))) := ⟨_, rfl⟩
             replace H : (if x13_11 ≤ (x9_1.length : Int) then ((some (x9_1.drop (x13_11 : Int).toNat : List (S42))).bind fun y527 => (if y524.length + y527.length < 5864062014805 then ((some (y524 ++ y527 : List (S42))).bind fun y531 => ((some (x9_1.take (x13_11 : Int).toNat : List (S42))).bind fun y534 => (if y534.length + y531.length < 5864062014805 then (spileref51_Bonds.l0 kj11 l1 a2 (y534 ++ y531) (wrap64 (x10_1 + 1)) a0_0 l0_1) else (none)))) else (none))) else (none)) = some (r1, r2) := by first | (rw [hy524]; with_reducible exact H) | (have H2_ := (Option.bind_some _ _).symm.trans H; rw [hy524]; with_reducible exact H2_) | (have H2_ := (Option.bind_some _ _).symm.trans H; with_reducible exact H2_) | with_reducible exact H | (rw [hy524]; exact H) | exact H
             have Ny524 := Aside0.mk hy524
             clear hy524
             have c36b0 := eq_true (of_decide_eq_true (by first | (with_reducible assumption) | assumption) : 0 ≤ x13_11)
             by_cases c37 : x13_11 ≤ (x9_1.length : Int)
             ·rw [if_pos c37] at H
              have c37b0 := eq_true c37
              have c37b1 : decide (x13_11 ≤ (x9_1.length : Int)) = true := decide_eq_true c37
              clear c37
              obtain ⟨y527, hy527⟩ : ∃ y_ : List (S42), y_ = (x9_1.drop (x13_11 : Int).toNat) := ⟨_, rfl⟩
              replace H : (if y524.length + y527.length < 5864062014805 then ((some (y524 ++ y527 : List (S42))).bind fun y531 => ((some (x9_1.take (x13_11 : Int).toNat : List (S42))).bind fun y534 => (if y534.length + y531.length < 5864062014805 then (spileref51_Bonds.l0 kj11 l1 a2 (y534 ++ y531) (wrap64 (x10_1 + 1)) a0_0 l0_1) else (none)))) else (none)) = some (r1, r2) := by first | (rw [hy527]; with_reducible exact H) | (have H2_ := (Option.bind_some _ _).symm.trans H; rw [hy527]; with_reducible exact H2_) | (have H2_ := (Option.bind_some _ _).symm.trans H; with_reducible exact H2_) | with_reducible exact H | (rw [hy527]; exact H) | exact H
              have Ny527 := Aside0.mk hy527
              clear hy527
              by_cases c38 : y524.length + y527.length < 5864062014805
              ·rw [if_pos c38] at H
               have LMc38 := Aside0.mk c38
               clear c38
               obtain ⟨y531, hy531⟩ : ∃ y_ : List (S42), y_ = (y524 ++ y527) := ⟨_, rfl⟩
               replace H : ((some (x9_1.take (x13_11 : Int).toNat : List (S42))).bind fun y534 => (if y534.length + y531.length < 5864062014805 then (spileref51_Bonds.l0 kj11 l1 a2 (y534 ++ y531) (wrap64 (x10_1 + 1)) a0_0 l0_1) else (none))) = some (r1, r2) := by first | (rw [hy531]; with_reducible exact H) | (have H2_ := (Option.bind_some _ _).symm.trans H; rw [hy531]; with_reducible exact H2_) | (have H2_ := (Option.bind_some _ _).symm.trans H; with_reducible exact H2_) | with_reducible exact H | (rw [hy531]; exact H) | exact H
               have Ny531 := Aside0.mk hy531
               clear hy531
               have c39b0 := eq_true (of_decide_eq_true (by first | (with_reducible assumption) | assumption) : x13_11 ≤ (x9_1.length : Int))
               obtain ⟨y534, hy534⟩ : ∃ y_ : List (S42), y_ = (x9_1.take (x13_11 : Int).toNat) := ⟨_, rfl⟩
               replace H : (if y534.length + y531.length < 5864062014805 then (spileref51_Bonds.l0 kj11 l1 a2 (y534 ++ y531) (wrap64 (x10_1 + 1)) a0_0 l0_1) else (none)) = some (r1, r2) := by first | (rw [hy534]; with_reducible exact H) | (have H2_ := (Option.bind_some _ _).symm.trans H; rw [hy534]; with_reducible exact H2_) | (have H2_ := (Option.bind_some _ _).symm.trans H; with_reducible exact H2_) | with_reducible exact H | (rw [hy534]; exact H) | exact H
               have Ny534 := Aside0.mk hy534
               clear hy534
               by_cases c40 : y534.length + y531.length < 5864062014805
               ·rw [if_pos c40] at H
                have LMc40 := Aside0.mk c40
                clear c40
                obtain ⟨y537, hy537⟩ : ∃ y_ : List (S42), y_ = (y534 ++ y531) := ⟨_, rfl⟩
                replace H : (spileref51_Bonds.l0 kj11 l1 a2 y537 (wrap64 (x10_1 + 1)) a0_0 l0_1) = some (r1, r2) := by first | (rw [hy537]; with_reducible exact H) | (have H2_ := (Option.bind_some _ _).symm.trans H; rw [hy537]; with_reducible exact H2_) | (have H2_ := (Option.bind_some _ _).symm.trans H; with_reducible exact H2_) | with_reducible exact H | (rw [hy537]; exact H) | exact H
                have Ny537 := Aside0.mk hy537
                clear hy537
                have H' := Aside0.mk H
                clear H
                try go_wp2
                have n0_ := Aside0.mk (Kd.R_drew HO_9.out)
                have n1_ := Aside0.mk (bqD BK512.out)
                have n2_ := Aside0.mk (lqD HB.out)
                clear HO_9
                clear BK512
                clear HB
                have HO_9 := n0_
                have BK512 := n1_
                have HB := n2_
                clear n0_ n1_ n2_
                obtain ⟨Ao42, co42, eo42⟩ := Kd.R_slice HO_9.out
                (first | subst eo42 | (injection eo42 with f1_ f2_ f3_; have f4_ := f1_.symm; have f5_ := f3_.symm; clear f1_ f2_ f3_; subst f4_; subst f5_))
                have p519 : 0 ≤ (x13_11 : Int) := of_decide_eq_true (by first | (with_reducible assumption) | assumption)
                have q519 : x13_11 < (x9_1.length : Int) := of_decide_eq_true (by first | (with_reducible assumption) | assumption)
                obtain ⟨ad519, e519, hx519_0, hx519_1, hx519_2⟩ := at_T42 (Kd.R_reads' HO_9.out).2.2 x13_11 p519 q519
                cases e519
                replace p519 := eq_true p519
                replace q519 := eq_true q519
                have p520 : 0 ≤ (x10_1 : Int) := of_decide_eq_true (by first | (with_reducible assumption) | assumption)
                have q520 : x10_1 < (l1.length : Int) := of_decide_eq_true (by first | (with_reducible assumption) | assumption)
                obtain ⟨ad520, e520, hx520_0, hx520_1, hx520_2, hx520_3, hx520_4⟩ := at_T35 HR1.out x10_1 p520 q520
                have hw520_4 := hx520_4
                have hw520_3 := hx520_3
                have hw520_2 := hx520_2
                have hw520_1 := hx520_1
                have hw520_0 := hx520_0
                obtain rfl : ad514 = ad520 := (by injection e520)
                replace hx520_0 := (HB.out.cell (World.block_lt_of_cell? w _ hx520_0)).trans hx520_0
                replace hx520_1 := (HB.out.cell (World.block_lt_of_cell? w _ hx520_1)).trans hx520_1
                replace hx520_2 := (HB.out.cell (World.block_lt_of_cell? w _ hx520_2)).trans hx520_2
                replace hx520_3 := (HB.out.cell (World.block_lt_of_cell? w _ hx520_3)).trans hx520_3
                replace hx520_4 := (HB.out.cell (World.block_lt_of_cell? w _ hx520_4)).trans hx520_4
                replace p520 := eq_true p520
                replace q520 := eq_true q520
                refine start_ (n := 17) (S := fun w' => w'.cell? (ad519.add ((x13_11).toNat * 3)) = some (.int .i64 ((rd_T42 x9_1 x13_11).f0)) ∧ w'.cell? ⟨(ad519.add ((x13_11).toNat * 3)).block, (ad519.add ((x13_11).toNat * 3)).off + 1, none⟩ = some (.int .i64 ((rd_T42 x9_1 x13_11).f1)) ∧ w'.cell? ⟨(ad519.add ((x13_11).toNat * 3)).block, (ad519.add ((x13_11).toNat * 3)).off + 2, none⟩ = some (.int .i64 ((rd_T42 x9_1 x13_11).f2)) ∧ w'.cell? (ad514.add ((x10_1).toNat * 5)) = some (.int .i64 ((rd_T35 l1 x10_1).f0)) ∧ w'.cell? ⟨(ad514.add ((x10_1).toNat * 5)).block, (ad514.add ((x10_1).toNat * 5)).off + 1, none⟩ = some (.int .i64 ((rd_T35 l1 x10_1).f1)) ∧ w'.cell? ⟨(ad514.add ((x10_1).toNat * 5)).block, (ad514.add ((x10_1).toNat * 5)).off + 2, none⟩ = some (.int .i64 ((rd_T35 l1 x10_1).f2)) ∧ w'.cell? ⟨(ad514.add ((x10_1).toNat * 5)).block, (ad514.add ((x10_1).toNat * 5)).off + 3, none⟩ = some (.int .i64 ((rd_T35 l1 x10_1).f3)) ∧ w'.cell? ⟨(ad514.add ((x10_1).toNat * 5)).block, (ad514.add ((x10_1).toNat * 5)).off + 4, none⟩ = some (.int .i64 ((rd_T35 l1 x10_1).f4))) (ds := []) #[false, false, false, false, false, false, false, false, false, false, false, false, false, false, false, false, false] (by kernel_rfl) rfl rfl ⟨hx519_0, hx519_1, hx519_2, ((HB.out.cell (World.block_lt_of_cell? w _ hw520_0)).trans hw520_0), ((HB.out.cell (World.block_lt_of_cell? w _ hw520_1)).trans hw520_1), ((HB.out.cell (World.block_lt_of_cell? w _ hw520_2)).trans hw520_2), ((HB.out.cell (World.block_lt_of_cell? w _ hw520_3)).trans hw520_3), ((HB.out.cell (World.block_lt_of_cell? w _ hw520_4)).trans hw520_4)⟩ (fun hHeld => ?_); refine with_tabW spileref51_Bonds.tab12 spileref51_Bonds.bits12 (fun HT_ HW_ => ?_)
                generalize wc.drew = w41 at HO_9 BK512 HB hx519_0 hx519_1 hx519_2 hx520_0 hx520_1 hx520_2 hx520_3 hx520_4 hHeld ⊢
                refine GS.pu 0 (some 57) HT_.out ?_
                refine GS.pu 1 (some 58) HT_.out ?_
                refine GS.pu 2 (some 59) HT_.out ?_
                refine GS.pu 3 (some 60) HT_.out ?_
                refine GS.pu 4 (some 61) HT_.out ?_
                refine GS.pu 5 (some 62) HT_.out ?_
                refine GS.pu 6 (some 63) HT_.out ?_
                refine GS.pu 7 (some 64) HT_.out ?_
                refine GS.pu 8 (some 65) HT_.out ?_
                refine GS.pu 10 (some 67) HT_.out ?_
                refine GS.pu 11 (some 68) HT_.out ?_
                refine GS.pu 12 (some 69) HT_.out ?_
                refine GS.pu 13 (some 70) HT_.out ?_
                refine GS.tk 9 (some 66) HT_.out HW_.out hHeld ?_
                refine GS.tk 14 (some 71) HT_.out HW_.out hHeld ?_
                refine GS.pu 15 (some 72) HT_.out ?_
                refine GS.pu 16 (some 73) HT_.out ?_
                refine done_ (done_of HT_.out (by kernel_rfl)) ?_
                try go_wp2
                have n0_ := Aside0.mk (Kd.R_drew HO_9.out)
                have n1_ := Aside0.mk (bqD BK512.out)
                have n2_ := Aside0.mk (lqD HB.out)
                clear HO_9
                clear BK512
                clear HB
                have HO_9 := n0_
                have BK512 := n1_
                have HB := n2_
                clear n0_ n1_ n2_
                have p523 : 0 ≤ (x10_1 : Int) := of_decide_eq_true (by first | (with_reducible assumption) | assumption)
                have q523 : x10_1 < (l1.length : Int) := of_decide_eq_true (by first | (with_reducible assumption) | assumption)
                obtain ⟨ad523, e523, hx523_0, hx523_1, hx523_2, hx523_3, hx523_4⟩ := at_T35 HR1.out x10_1 p523 q523
                have hw523_4 := hx523_4
                have hw523_3 := hx523_3
                have hw523_2 := hx523_2
                have hw523_1 := hx523_1
                have hw523_0 := hx523_0
                obtain rfl : ad514 = ad523 := (by injection e523)
                replace hx523_0 := (HB.out.cell (World.block_lt_of_cell? w _ hx523_0)).trans hx523_0
                replace hx523_1 := (HB.out.cell (World.block_lt_of_cell? w _ hx523_1)).trans hx523_1
                replace hx523_2 := (HB.out.cell (World.block_lt_of_cell? w _ hx523_2)).trans hx523_2
                replace hx523_3 := (HB.out.cell (World.block_lt_of_cell? w _ hx523_3)).trans hx523_3
                replace hx523_4 := (HB.out.cell (World.block_lt_of_cell? w _ hx523_4)).trans hx523_4
                replace p523 := eq_true p523
                replace q523 := eq_true q523
                have q44 : (x13_11 : Int) ≤ ((x9_1.length : Int) : Int) := of_decide_eq_true (by first | (with_reducible assumption) | assumption)
                obtain ⟨i044, hi044, _, hsz44, _⟩ := info_parts info42
                have hroom44 : x9_1.length ≤ co42 := (Kd.R_reads' HO_9.out).2.1
                have hC44 : Kd.C k42 _ (some ad519) x9_1.length x9_1 := (Kd.R_reads' HO_9.out).2.2
                have q044 : (0 : Int) ≤ (x13_11 : Int) := of_decide_eq_true (by first | (with_reducible assumption) | assumption)
                have hcut44 := cut_from (P := Try.prog) 36 42 .i64 Try.underlying36 hi044 3 hsz44 (some ad519) x9_1.length co42 x13_11 q044 q44
                have hr44 := Kd.C_drop (m := (x13_11 : Int).toNat) (c := co42) hC44 (by omega) hroom44
                obtain ⟨A44, hA44⟩ : ∃ A1, A1 = (if co42 = (x13_11 : Int).toNat then (some ad519) else ((some ad519) : Option Addr).map (·.add ((x13_11 : Int).toNat * 3))) := ⟨_, rfl⟩
                obtain ⟨c44, hc44⟩ : ∃ c1, c1 = co42 - (x13_11 : Int).toNat := ⟨_, rfl⟩
                have hy44 : y527.length = x9_1.length - (x13_11 : Int).toNat := (by rw [Ny527.out, List.length_drop] <;> omega)
                rw [show (x9_1).drop (x13_11 : Int).toNat = y527 from Ny527.out.symm] at hr44
                replace hr44 : Kd.C k42 _ A44 y527.length y527 := (by rw [hA44]; exact hr44)
                rw [← hy44, ← hA44, ← hc44] at hcut44
                have HR530 := Aside0.mk hr44
                have HC530 := Aside0.mk (show y527.length ≤ c44 from by rw [hy44, hc44]; exact Nat.sub_le_sub_right hroom44 _)
                clear hr44 hC44 hroom44 hi044 hsz44 hc44
                have KY44 := Aside0.mk hy44
                have KA44 := Aside0.mk hA44
                clear hy44 hA44
                have KL44 := Aside0.mk (show (x13_11 : Int).toNat ≤ x9_1.length from by omega)
                replace q44 := eq_true q44
                refine start_ (n := 13) (S := fun w' => w'.cell? (ad514.add ((x10_1).toNat * 5)) = some (.int .i64 ((rd_T35 l1 x10_1).f0)) ∧ w'.cell? ⟨(ad514.add ((x10_1).toNat * 5)).block, (ad514.add ((x10_1).toNat * 5)).off + 1, none⟩ = some (.int .i64 ((rd_T35 l1 x10_1).f1)) ∧ w'.cell? ⟨(ad514.add ((x10_1).toNat * 5)).block, (ad514.add ((x10_1).toNat * 5)).off + 2, none⟩ = some (.int .i64 ((rd_T35 l1 x10_1).f2)) ∧ w'.cell? ⟨(ad514.add ((x10_1).toNat * 5)).block, (ad514.add ((x10_1).toNat * 5)).off + 3, none⟩ = some (.int .i64 ((rd_T35 l1 x10_1).f3)) ∧ w'.cell? ⟨(ad514.add ((x10_1).toNat * 5)).block, (ad514.add ((x10_1).toNat * 5)).off + 4, none⟩ = some (.int .i64 ((rd_T35 l1 x10_1).f4))) (ds := []) #[false, false, false, false, false, false, false, false, false, false, false, false, false] (by kernel_rfl) rfl rfl ⟨((HB.out.cell (World.block_lt_of_cell? w _ hw523_0)).trans hw523_0), ((HB.out.cell (World.block_lt_of_cell? w _ hw523_1)).trans hw523_1), ((HB.out.cell (World.block_lt_of_cell? w _ hw523_2)).trans hw523_2), ((HB.out.cell (World.block_lt_of_cell? w _ hw523_3)).trans hw523_3), ((HB.out.cell (World.block_lt_of_cell? w _ hw523_4)).trans hw523_4)⟩ (fun hHeld => ?_); refine with_tabW spileref51_Bonds.tab14 spileref51_Bonds.bits14 (fun HT_ HW_ => ?_)
                generalize w41.drew = w43 at HO_9 BK512 HB HR530 hx523_0 hx523_1 hx523_2 hx523_3 hx523_4 hHeld ⊢
                refine GS.pu 0 (some 83) HT_.out ?_
                refine GS.pu 1 (some 84) HT_.out ?_
                refine GS.pu 2 (some 85) HT_.out ?_
                refine GS.pu 3 (some 86) HT_.out ?_
                refine GS.pu 5 (some 88) HT_.out ?_
                refine GS.pu 8 (some 91) HT_.out ?_
                refine GS.pu 9 (some 92) HT_.out ?_
                refine GS.pu 10 (some 93) HT_.out ?_
                refine GS.tk 4 (some 87) HT_.out HW_.out hHeld ?_
                refine GS.pu 6 (some 89) HT_.out ?_
                refine one_ (i := 7) (N := some 90) #[true, true, true, true, true, true, true, true, true, true, true, false, false] rfl rfl (one_of HT_.out (by kernel_rfl)) (by decide) (fun K hK => ?_)
                refine Kd.R_lit_step k42 _ 42 ?hg (N := 90) ?hd (xs := ([(⟨(rd_T35 l1 x10_1).f1, 0, t515⟩ : S42)] : List (S42))) (inner := [.int .i64 ((rd_T35 l1 x10_1).f1), .int .i64 0, .int .i64 t515]) (ok := fun _ => True) (okp := fun _ => True) ?hr ?hp (fun _ hk => hk) trivial (Below.refl _ _) (Nat.le_refl _) (by simp) ?_; (case hd => rfl); (case hg => rfl); (case hr => first | (go_simp; done) | (go_simp; rfl)); (case hp => exact (Reps.c3 (show Kd.M k42 _ _ _ (⟨(rd_T35 l1 x10_1).f1, 0, t515⟩ : S42) [.int .i64 ((rd_T35 l1 x10_1).f1), .int .i64 0, .int .i64 t515] from (k42_mkM _ _ _ (⟨(rd_T35 l1 x10_1).f1, 0, t515⟩ : S42) )) (Reps.none _ _)))
                intro v525 w45 ho46 hb hg_ hnew_
                clear hg_ hnew_
                (first | rw [← Ny524.out] at ho46 | (simp only [Int.reduceToNat] at ho46; rw [← Ny524.out] at ho46))
                have n0_ := Aside0.mk (Kd.R_elder' (GS.rR HO_9.out) (Kd.R_base ho46) hb)
                have n1_ := Aside0.mk (Kd.R_lower (Kd.R_new' ho46 (Kd.R_lt (GS.rR HO_9.out))) (lqZ (GS.lB HB.out)))
                have n2_ := Aside0.mk (bqB (GS.bqX BK512.out) hb)
                have n3_ := Aside0.mk (Kd.C_below (by repeat (first | (with_reducible exact HR530.out) | (with_reducible refine Kd.C_alloc ?_ _) | (with_reducible refine Kd.C_drewN ?_ _) | (with_reducible refine Kd.C_drew ?_) | exact HR530.out)) hb)
                have n4_ := Aside0.mk (lqT (GS.lB HB.out) hb)
                clear HO_9
                clear BK512
                clear HR530
                clear HB
                have HO_9 := n0_
                have HO526 := n1_
                have BK512 := n2_
                have HR530 := n3_
                have HB := n4_
                clear n0_ n1_ n2_ n3_ n4_
                clear hb ho46
                refine hK.out _ _ ⟨((HB.out.cell (World.block_lt_of_cell? w _ hw523_0)).trans hw523_0), ((HB.out.cell (World.block_lt_of_cell? w _ hw523_1)).trans hw523_1), ((HB.out.cell (World.block_lt_of_cell? w _ hw523_2)).trans hw523_2), ((HB.out.cell (World.block_lt_of_cell? w _ hw523_3)).trans hw523_3), ((HB.out.cell (World.block_lt_of_cell? w _ hw523_4)).trans hw523_4)⟩ (fun hHeld => ?_)
                clear hK K
                refine norm_ (a' := ?_) ?_ ?_
                rotate_left
                ·show Act.put _ (some 90) _ = _
                 simp only [Act.put, List.setIfInBounds_toArray, List.set_cons_zero, List.set_cons_succ, i64_w, i32_w]
                 rfl
                refine one_ (i := 11) (N := some 94) #[true, true, true, true, true, true, true, true, true, true, true, true, false] rfl rfl (one_of HT_.out (by kernel_rfl)) (by decide) (fun K hK => ?_)
                refine Kd.R_append_rows_step k42 (w0 := w) w.heap.size (by rfl) (.tmp 90) (.tmp 93) 36 42 (.agg #[(.int .i64 0), (.int .i64 0), (.int .i64 0)]) 24 rfl Try.underlying36 info42 rfl (by decide) (by omega) v525 y524 y527 _ _ _ (fun k_ => some k_ ≠ (.slice (some ad519) x9_1.length co42 : Value).ownBlock) (fun _ => False) rfl rfl ?aO ?aR (fun _ _ h => h) (fun _ h => h.elim) ?aF ?aB ?aS ?aL ?_
                (case aR => repeat (first | exact (by repeat (first | (with_reducible exact HR530.out) | (with_reducible refine Kd.C_alloc ?_ _) | (with_reducible refine Kd.C_drewN ?_ _) | (with_reducible refine Kd.C_drew ?_) | exact HR530.out)) | (with_reducible refine Kd.C_alloc ?_ _) | (with_reducible refine Kd.C_drewN ?_ _) | (with_reducible refine Kd.C_drew ?_)))
                (case aB => exact (GS.lB HB.out))
                (case aF => exact (fun k_ hk => Kd.fresh' (Kd.R_lt (GS.rR HO_9.out)) k_ hk))
                (case aO => exact (GS.rR (Kd.R_mono HO526.out (fun _ hk => GS.cj hk))))
                (case aS => exact (lqZ (GS.lB HB.out)))
                (case aL => have := LMc38.out; omega)
                intro v532 w47 ho hb hg hat
                rw [← Ny531.out] at ho
                have n0_ := Aside0.mk (Kd.R_after (ok := (fun _ => True)) (GS.rR HO_9.out) hg hat)
                have n1_ := Aside0.mk (blk_grown (GS.bqX BK512.out) hg (Kd.R_ne HO526.out BK512.out (by decide)))
                have n2_ := Aside0.mk (hb)
                have n3_ := Aside0.mk ((show Kd.C k42 w47 A44 y527.length y527 from by rw [Ny527.out, KA44.out]; exact Kd.C_drop (m := (x13_11 : Int).toNat) (c := co42) ((Kd.R_reads' (Kd.R_after (ok := (fun _ => True)) (GS.rR HO_9.out) hg hat)).2.2) KL44.out ((Kd.R_reads' (Kd.R_after (ok := (fun _ => True)) (GS.rR HO_9.out) hg hat)).2.1)))
                have n4_ := Aside0.mk (ho)
                clear HO_9
                clear BK512
                clear HB
                clear HR530
                clear HO526
                have HO_9 := n0_
                have BK512 := n1_
                have HB := n2_
                have HR530 := n3_
                have HO533 := n4_
                clear n0_ n1_ n2_ n3_ n4_
                clear ho hb hg hat
                refine hK.out _ _ ⟨((HB.out.cell (World.block_lt_of_cell? w _ hw523_0)).trans hw523_0), ((HB.out.cell (World.block_lt_of_cell? w _ hw523_1)).trans hw523_1), ((HB.out.cell (World.block_lt_of_cell? w _ hw523_2)).trans hw523_2), ((HB.out.cell (World.block_lt_of_cell? w _ hw523_3)).trans hw523_3), ((HB.out.cell (World.block_lt_of_cell? w _ hw523_4)).trans hw523_4)⟩ (fun hHeld => ?_)
                clear hK K
                refine norm_ (a' := ?_) ?_ ?_
                rotate_left
                ·show Act.put _ (some 94) _ = _
                 simp only [Act.put, List.setIfInBounds_toArray, List.set_cons_zero, List.set_cons_succ, i64_w, i32_w]
                 rfl
                refine GS.pu 12 (some 14) HT_.out ?_
                refine done_ (done_of HT_.out (by kernel_rfl)) ?_
                have q48 : (x13_11 : Int) ≤ ((x9_1.length : Int) : Int) := of_decide_eq_true (by first | (with_reducible assumption) | assumption)
                obtain ⟨i048, hi048, _, hsz48, _⟩ := info_parts info42
                have hcut48 := GW.cut_cap (P := Try.prog) 36 42 .i64 Try.underlying36 hi048 (some ad519) x9_1.length co42 x13_11 (of_decide_eq_true (by first | (with_reducible assumption) | assumption)) q48 (Kd.R_reads' HO_9.out).2.1
                have hr48 := Kd.R_take (m := (x13_11 : Int).toNat) HO_9.out (by omega)
                have hy48 : y534.length = (x13_11 : Int).toNat := (by rw [Ny534.out, List.length_take]; omega)
                rw [← Ny534.out] at hr48
                rw [← hy48] at hr48 hcut48
                clear hy48 hi048 hsz48 HO_9
                have HO536 := Aside0.mk hr48
                clear hr48
                replace q48 := eq_true q48
                obtain ⟨Ao50, co50, eo50⟩ := Kd.R_slice HO533.out
                subst eo50
                try go_wp2_with (first | ((with_reducible refine gate_builtin (b := .append) (xs := #[.tmp 98, .tmp 99]) rfl ?_); at_builtin; refine GW.R_append_cut k42 (w0 := w) w.heap.size rfl (.tmp 98) (.tmp 99) 36 42 (.agg #[(.int .i64 0), (.int .i64 0), (.int .i64 0)]) 24 rfl Try.underlying36 info42 rfl (by decide) (by omega) (some ad519) y534.length co42 y534 y531 _ _ _ (fun k_ => some k_ ≠ (.slice Ao50 y531.length co50 : Value).ownBlock) (fun _ => False) rfl rfl ?aO ?aR (fun _ _ h => h) (fun _ h => h.elim) ?aF ?aB ?aS ?aL ?aM ?_; (case aR => repeat (first | exact (Kd.R_reads' HO533.out).2.2 | (with_reducible refine Kd.C_alloc ?_ _) | (with_reducible refine Kd.C_drewN ?_ _) | (with_reducible refine Kd.C_drew ?_))); (case aB => exact (GS.lB HB.out)); (case aF => exact (fun k_ hk => Kd.fresh' (Kd.R_lt (GS.rR HO533.out)) k_ hk)); (case aO => exact (GS.rR (Kd.R_mono HO536.out (fun _ hk => GS.cj hk)))); (case aS => exact (lqZ (GS.lB HB.out))); (case aM => rw [Ny531.out, List.length_append, Ny524.out]; exact Nat.lt_of_lt_of_le (Nat.zero_lt_one) (Nat.le_add_right _ _)); (case aL => have := LMc40.out; omega); intro v538 w49 ho hb hg hat; rw [← Ny537.out] at ho; have n0_ := Aside0.mk (blk_grown (GS.bqX BK512.out) hg (Kd.R_ne HO536.out BK512.out (by decide))); have n1_ := Aside0.mk (Kd.R_after (ok := (fun _ => True)) (GS.rR (Kd.R_mono HO533.out (fun _ hk => ⟨trivial, GW.own_ne hk⟩))) hg hat); have n2_ := Aside0.mk (hb); have n3_ := Aside0.mk (ho); clear BK512; clear HO533; clear HB; clear HO536; have BK512 := n0_; have HO533 := n1_; have HB := n2_; have HO539 := n3_; clear n0_ n1_ n2_ n3_; clear ho hb hg hat))
                go_roundg kj11
                case measure => have := HK1.out; have := HJ11.out; omega
                case rel => exact ⟨(y537), (wrap64 (x10_1 + 1)), (by first | rfl | (simp; done) | (simp [*]; done)), H', ⟨by have := HK1.out; have := HJ11.out; omega⟩, ⟨by (with_reducible repeat (first | apply Kd.R_alloc | apply Kd.R_drewN | apply Kd.R_drew)); exact Kd.R_mono HO539.out (fun _ hk => trivial)⟩, ⟨GS.bqX BK512.out⟩, ⟨GS.lB HB.out⟩⟩
               ·rw [if_neg c40] at H
                exact absurd H (by simp)
              ·rw [if_neg c38] at H
               exact absurd H (by simp)
             ·rw [if_neg c37] at H
              exact absurd H (by simp)
           ·rw [if_neg c29] at H
            exact absurd H (by simp)
          ·rw [if_neg c28] at H
           exact absurd H (by simp)
         ·rw [if_neg c27] at H
          exact absurd H (by simp)
        ·rw [if_neg c26] at H
         have c26b0 : decide (x13_11 < (x9_1.length : Int)) = false := decide_eq_false c26
         clear c26
         by_cases c51 : 0 ≤ x10_1
         ·rw [if_pos c51] at H
          have c51b0 : decide (0 ≤ x10_1) = true := decide_eq_true c51
          clear c51
          by_cases c52 : x10_1 < (l1.length : Int)
          ·rw [if_pos c52] at H
           have c52b0 : decide (x10_1 < (l1.length : Int)) = true := decide_eq_true c52
           clear c52
           obtain ⟨y541, hy541⟩ : ∃ y_ : List (S42), y_ = (([(⟨(rd_T35 l1 x10_1).f1, 0, t515⟩ : S42)] : List (S42))) := ⟨_, rfl⟩
           replace H : (if 0 ≤ x13_11 then (if x13_11 ≤ (x9_1.length : Int) then ((some (x9_1.drop (x13_11 : Int).toNat : List (S42))).bind fun y544 => (if y541.length + y544.length < 5864062014805 then ((some (y541 ++ y544 : List (S42))).bind fun y548 => ((some (x9_1.take (x13_11 : Int).toNat : List (S42))).bind fun y551 => (if y551.length + y548.length < 5864062014805 then (spileref51_Bonds.l0 kj11 l1 a2 (y551 ++ y548) (wrap64 (x10_1 + 1)) a0_0 l0_1) else (none)))) else (none))) else (none)) else (none)) = some (r1, r2) := by first | (rw [hy541]; with_reducible exact H) | (have H2_ := (Option.bind_some _ _).symm.trans H; rw [hy541]; with_reducible exact H2_) | (have H2_ := (Option.bind_some _ _).symm.trans H; with_reducible exact H2_) | with_reducible exact H | (rw [hy541]; exact H) | exact H
           have Ny541 := Aside0.mk hy541
           clear hy541
           by_cases c53 : 0 ≤ x13_11
           ·rw [if_pos c53] at H
            have c53b0 := eq_true c53
            have c53b1 : decide (0 ≤ x13_11) = true := decide_eq_true c53
            clear c53
            by_cases c54 : x13_11 ≤ (x9_1.length : Int)
            ·rw [if_pos c54] at H
             have c54b0 := eq_true c54
             have c54b1 : decide (x13_11 ≤ (x9_1.length : Int)) = true := decide_eq_true c54
             clear c54
             obtain ⟨y544, hy544⟩ : ∃ y_ : List (S42), y_ = (x9_1.drop (x13_11 : Int).toNat) := ⟨_, rfl⟩
             replace H : (if y541.length + y544.length < 5864062014805 then ((some (y541 ++ y544 : List (S42))).bind fun y548 => ((some (x9_1.take (x13_11 : Int).toNat : List (S42))).bind fun y551 => (if y551.length + y548.length < 5864062014805 then (spileref51_Bonds.l0 kj11 l1 a2 (y551 ++ y548) (wrap64 (x10_1 + 1)) a0_0 l0_1) else (none)))) else (none)) = some (r1, r2) := by first | (rw [hy544]; with_reducible exact H) | (have H2_ := (Option.bind_some _ _).symm.trans H; rw [hy544]; with_reducible exact H2_) | (have H2_ := (Option.bind_some _ _).symm.trans H; with_reducible exact H2_) | with_reducible exact H | (rw [hy544]; exact H) | exact H
             have Ny544 := Aside0.mk hy544
             clear hy544
             by_cases c55 : y541.length + y544.length < 5864062014805
             ·rw [if_pos c55] at H
              have LMc55 := Aside0.mk c55
              clear c55
              obtain ⟨y548, hy548⟩ : ∃ y_ : List (S42), y_ = (y541 ++ y544) := ⟨_, rfl⟩
              replace H : ((some (x9_1.take (x13_11 : Int).toNat : List (S42))).bind fun y551 => (if y551.length + y548.length < 5864062014805 then (spileref51_Bonds.l0 kj11 l1 a2 (y551 ++ y548) (wrap64 (x10_1 + 1)) a0_0 l0_1) else (none))) = some (r1, r2) := by first | (rw [hy548]; with_reducible exact H) | (have H2_ := (Option.bind_some _ _).symm.trans H; rw [hy548]; with_reducible exact H2_) | (have H2_ := (Option.bind_some _ _).symm.trans H; with_reducible exact H2_) | with_reducible exact H | (rw [hy548]; exact H) | exact H
              have Ny548 := Aside0.mk hy548
              clear hy548
              have c56b0 := eq_true (of_decide_eq_true (by first | (with_reducible assumption) | assumption) : x13_11 ≤ (x9_1.length : Int))
              obtain ⟨y551, hy551⟩ : ∃ y_ : List (S42), y_ = (x9_1.take (x13_11 : Int).toNat) := ⟨_, rfl⟩
              replace H : (if y551.length + y548.length < 5864062014805 then (spileref51_Bonds.l0 kj11 l1 a2 (y551 ++ y548) (wrap64 (x10_1 + 1)) a0_0 l0_1) else (none)) = some (r1, r2) := by first | (rw [hy551]; with_reducible exact H) | (have H2_ := (Option.bind_some _ _).symm.trans H; rw [hy551]; with_reducible exact H2_) | (have H2_ := (Option.bind_some _ _).symm.trans H; with_reducible exact H2_) | with_reducible exact H | (rw [hy551]; exact H) | exact H
              have Ny551 := Aside0.mk hy551
              clear hy551
              by_cases c57 : y551.length + y548.length < 5864062014805
              ·rw [if_pos c57] at H
               have LMc57 := Aside0.mk c57
               clear c57
               obtain ⟨y554, hy554⟩ : ∃ y_ : List (S42), y_ = (y551 ++ y548) := ⟨_, rfl⟩
               replace H : (spileref51_Bonds.l0 kj11 l1 a2 y554 (wrap64 (x10_1 + 1)) a0_0 l0_1) = some (r1, r2) := by first | (rw [hy554]; with_reducible exact H) | (have H2_ := (Option.bind_some _ _).symm.trans H; rw [hy554]; with_reducible exact H2_) | (have H2_ := (Option.bind_some _ _).symm.trans H; with_reducible exact H2_) | with_reducible exact H | (rw [hy554]; exact H) | exact H
               have Ny554 := Aside0.mk hy554
               clear hy554
               have H' := Aside0.mk H
               clear H
               try go_wp2
               have n0_ := Aside0.mk (Kd.R_drew HO_9.out)
               have n1_ := Aside0.mk (bqD BK512.out)
               have n2_ := Aside0.mk (lqD HB.out)
               clear HO_9
               clear BK512
               clear HB
               have HO_9 := n0_
               have BK512 := n1_
               have HB := n2_
               clear n0_ n1_ n2_
               obtain ⟨Ao59, co59, eo59⟩ := Kd.R_slice HO_9.out
               (first | subst eo59 | (injection eo59 with f1_ f2_ f3_; have f4_ := f1_.symm; have f5_ := f3_.symm; clear f1_ f2_ f3_; subst f4_; subst f5_))
               refine start_ (n := 17) (S := fun w' => True) (ds := []) #[false, false, false, false, false, false, false, false, false, false, false, false, false, false, false, false, false] (by kernel_rfl) rfl rfl trivial (fun hHeld => ?_); refine with_tabW spileref51_Bonds.tab12 spileref51_Bonds.bits12 (fun HT_ HW_ => ?_)
               generalize wc.drew = w58 at HO_9 BK512 HB hHeld ⊢
               refine GS.pu 0 (some 57) HT_.out ?_
               refine GS.pu 1 (some 58) HT_.out ?_
               refine GS.pu 2 (some 59) HT_.out ?_
               refine GS.pu 3 (some 60) HT_.out ?_
               refine GS.pu 4 (some 61) HT_.out ?_
               refine GS.pn 5 (some 62) HT_.out ?_
               refine GS.pn 6 (some 63) HT_.out ?_
               refine GS.pn 7 (some 64) HT_.out ?_
               refine GS.pn 8 (some 65) HT_.out ?_
               refine GS.pn 9 (some 66) HT_.out ?_
               refine GS.pn 10 (some 67) HT_.out ?_
               refine GS.pn 11 (some 68) HT_.out ?_
               refine GS.pn 12 (some 69) HT_.out ?_
               refine GS.pn 13 (some 70) HT_.out ?_
               refine GS.pn 14 (some 71) HT_.out ?_
               refine GS.pn 15 (some 72) HT_.out ?_
               refine GS.pu 16 (some 73) HT_.out ?_
               refine done_ (done_of HT_.out (by kernel_rfl)) ?_
               try go_wp2
               have n0_ := Aside0.mk (Kd.R_drew HO_9.out)
               have n1_ := Aside0.mk (bqD BK512.out)
               have n2_ := Aside0.mk (lqD HB.out)
               clear HO_9
               clear BK512
               clear HB
               have HO_9 := n0_
               have BK512 := n1_
               have HB := n2_
               clear n0_ n1_ n2_
               have p540 : 0 ≤ (x10_1 : Int) := of_decide_eq_true (by first | (with_reducible assumption) | assumption)
               have q540 : x10_1 < (l1.length : Int) := of_decide_eq_true (by first | (with_reducible assumption) | assumption)
               obtain ⟨ad540, e540, hx540_0, hx540_1, hx540_2, hx540_3, hx540_4⟩ := at_T35 HR1.out x10_1 p540 q540
               have hw540_4 := hx540_4
               have hw540_3 := hx540_3
               have hw540_2 := hx540_2
               have hw540_1 := hx540_1
               have hw540_0 := hx540_0
               obtain rfl : ad514 = ad540 := (by injection e540)
               replace hx540_0 := (HB.out.cell (World.block_lt_of_cell? w _ hx540_0)).trans hx540_0
               replace hx540_1 := (HB.out.cell (World.block_lt_of_cell? w _ hx540_1)).trans hx540_1
               replace hx540_2 := (HB.out.cell (World.block_lt_of_cell? w _ hx540_2)).trans hx540_2
               replace hx540_3 := (HB.out.cell (World.block_lt_of_cell? w _ hx540_3)).trans hx540_3
               replace hx540_4 := (HB.out.cell (World.block_lt_of_cell? w _ hx540_4)).trans hx540_4
               replace p540 := eq_true p540
               replace q540 := eq_true q540
               have q61 : (x13_11 : Int) ≤ ((x9_1.length : Int) : Int) := of_decide_eq_true (by first | (with_reducible assumption) | assumption)
               obtain ⟨i061, hi061, _, hsz61, _⟩ := info_parts info42
               have hroom61 : x9_1.length ≤ co59 := (Kd.R_reads' HO_9.out).2.1
               have hC61 : Kd.C k42 _ Ao59 x9_1.length x9_1 := (Kd.R_reads' HO_9.out).2.2
               have q061 : (0 : Int) ≤ (x13_11 : Int) := of_decide_eq_true (by first | (with_reducible assumption) | assumption)
               have hcut61 := cut_from (P := Try.prog) 36 42 .i64 Try.underlying36 hi061 3 hsz61 Ao59 x9_1.length co59 x13_11 q061 q61
               have hr61 := Kd.C_drop (m := (x13_11 : Int).toNat) (c := co59) hC61 (by omega) hroom61
               obtain ⟨A61, hA61⟩ : ∃ A1, A1 = (if co59 = (x13_11 : Int).toNat then Ao59 else (Ao59 : Option Addr).map (·.add ((x13_11 : Int).toNat * 3))) := ⟨_, rfl⟩
               obtain ⟨c61, hc61⟩ : ∃ c1, c1 = co59 - (x13_11 : Int).toNat := ⟨_, rfl⟩
               have hy61 : y544.length = x9_1.length - (x13_11 : Int).toNat := (by rw [Ny544.out, List.length_drop] <;> omega)
               rw [show (x9_1).drop (x13_11 : Int).toNat = y544 from Ny544.out.symm] at hr61
               replace hr61 : Kd.C k42 _ A61 y544.length y544 := (by rw [hA61]; exact hr61)
               rw [← hy61, ← hA61, ← hc61] at hcut61
               have HR547 := Aside0.mk hr61
               have HC547 := Aside0.mk (show y544.length ≤ c61 from by rw [hy61, hc61]; exact Nat.sub_le_sub_right hroom61 _)
               clear hr61 hC61 hroom61 hi061 hsz61 hc61
               have KY61 := Aside0.mk hy61
               have KA61 := Aside0.mk hA61
               clear hy61 hA61
               have KL61 := Aside0.mk (show (x13_11 : Int).toNat ≤ x9_1.length from by omega)
               replace q61 := eq_true q61
               refine start_ (n := 13) (S := fun w' => w'.cell? (ad514.add ((x10_1).toNat * 5)) = some (.int .i64 ((rd_T35 l1 x10_1).f0)) ∧ w'.cell? ⟨(ad514.add ((x10_1).toNat * 5)).block, (ad514.add ((x10_1).toNat * 5)).off + 1, none⟩ = some (.int .i64 ((rd_T35 l1 x10_1).f1)) ∧ w'.cell? ⟨(ad514.add ((x10_1).toNat * 5)).block, (ad514.add ((x10_1).toNat * 5)).off + 2, none⟩ = some (.int .i64 ((rd_T35 l1 x10_1).f2)) ∧ w'.cell? ⟨(ad514.add ((x10_1).toNat * 5)).block, (ad514.add ((x10_1).toNat * 5)).off + 3, none⟩ = some (.int .i64 ((rd_T35 l1 x10_1).f3)) ∧ w'.cell? ⟨(ad514.add ((x10_1).toNat * 5)).block, (ad514.add ((x10_1).toNat * 5)).off + 4, none⟩ = some (.int .i64 ((rd_T35 l1 x10_1).f4))) (ds := []) #[false, false, false, false, false, false, false, false, false, false, false, false, false] (by kernel_rfl) rfl rfl ⟨((HB.out.cell (World.block_lt_of_cell? w _ hw540_0)).trans hw540_0), ((HB.out.cell (World.block_lt_of_cell? w _ hw540_1)).trans hw540_1), ((HB.out.cell (World.block_lt_of_cell? w _ hw540_2)).trans hw540_2), ((HB.out.cell (World.block_lt_of_cell? w _ hw540_3)).trans hw540_3), ((HB.out.cell (World.block_lt_of_cell? w _ hw540_4)).trans hw540_4)⟩ (fun hHeld => ?_); refine with_tabW spileref51_Bonds.tab14 spileref51_Bonds.bits14 (fun HT_ HW_ => ?_)
               generalize w58.drew = w60 at HO_9 BK512 HB HR547 hx540_0 hx540_1 hx540_2 hx540_3 hx540_4 hHeld ⊢
               refine GS.pu 0 (some 83) HT_.out ?_
               refine GS.pu 1 (some 84) HT_.out ?_
               refine GS.pu 2 (some 85) HT_.out ?_
               refine GS.pu 3 (some 86) HT_.out ?_
               refine GS.pu 5 (some 88) HT_.out ?_
               refine GS.pu 8 (some 91) HT_.out ?_
               refine GS.pu 9 (some 92) HT_.out ?_
               refine GS.pu 10 (some 93) HT_.out ?_
               refine GS.tk 4 (some 87) HT_.out HW_.out hHeld ?_
               refine GS.pu 6 (some 89) HT_.out ?_
               refine one_ (i := 7) (N := some 90) #[true, true, true, true, true, true, true, true, true, true, true, false, false] rfl rfl (one_of HT_.out (by kernel_rfl)) (by decide) (fun K hK => ?_)
               refine Kd.R_lit_step k42 _ 42 ?hg (N := 90) ?hd (xs := ([(⟨(rd_T35 l1 x10_1).f1, 0, t515⟩ : S42)] : List (S42))) (inner := [.int .i64 ((rd_T35 l1 x10_1).f1), .int .i64 0, .int .i64 t515]) (ok := fun _ => True) (okp := fun _ => True) ?hr ?hp (fun _ hk => hk) trivial (Below.refl _ _) (Nat.le_refl _) (by simp) ?_; (case hd => rfl); (case hg => rfl); (case hr => first | (go_simp; done) | (go_simp; rfl)); (case hp => exact (Reps.c3 (show Kd.M k42 _ _ _ (⟨(rd_T35 l1 x10_1).f1, 0, t515⟩ : S42) [.int .i64 ((rd_T35 l1 x10_1).f1), .int .i64 0, .int .i64 t515] from (k42_mkM _ _ _ (⟨(rd_T35 l1 x10_1).f1, 0, t515⟩ : S42) )) (Reps.none _ _)))
               intro v542 w62 ho63 hb hg_ hnew_
               clear hg_ hnew_
               (first | rw [← Ny541.out] at ho63 | (simp only [Int.reduceToNat] at ho63; rw [← Ny541.out] at ho63))
               have n0_ := Aside0.mk (Kd.R_elder' (GS.rR HO_9.out) (Kd.R_base ho63) hb)
               have n1_ := Aside0.mk (Kd.R_lower (Kd.R_new' ho63 (Kd.R_lt (GS.rR HO_9.out))) (lqZ (GS.lB HB.out)))
               have n2_ := Aside0.mk (bqB (GS.bqX BK512.out) hb)
               have n3_ := Aside0.mk (Kd.C_below (by repeat (first | (with_reducible exact HR547.out) | (with_reducible refine Kd.C_alloc ?_ _) | (with_reducible refine Kd.C_drewN ?_ _) | (with_reducible refine Kd.C_drew ?_) | exact HR547.out)) hb)
               have n4_ := Aside0.mk (lqT (GS.lB HB.out) hb)
               clear HO_9
               clear BK512
               clear HR547
               clear HB
               have HO_9 := n0_
               have HO543 := n1_
               have BK512 := n2_
               have HR547 := n3_
               have HB := n4_
               clear n0_ n1_ n2_ n3_ n4_
               clear hb ho63
               refine hK.out _ _ ⟨((HB.out.cell (World.block_lt_of_cell? w _ hw540_0)).trans hw540_0), ((HB.out.cell (World.block_lt_of_cell? w _ hw540_1)).trans hw540_1), ((HB.out.cell (World.block_lt_of_cell? w _ hw540_2)).trans hw540_2), ((HB.out.cell (World.block_lt_of_cell? w _ hw540_3)).trans hw540_3), ((HB.out.cell (World.block_lt_of_cell? w _ hw540_4)).trans hw540_4)⟩ (fun hHeld => ?_)
               clear hK K
               refine norm_ (a' := ?_) ?_ ?_
               rotate_left
               ·show Act.put _ (some 90) _ = _
                simp only [Act.put, List.setIfInBounds_toArray, List.set_cons_zero, List.set_cons_succ, i64_w, i32_w]
                rfl
               refine one_ (i := 11) (N := some 94) #[true, true, true, true, true, true, true, true, true, true, true, true, false] rfl rfl (one_of HT_.out (by kernel_rfl)) (by decide) (fun K hK => ?_)
               refine Kd.R_append_rows_step k42 (w0 := w) w.heap.size (by rfl) (.tmp 90) (.tmp 93) 36 42 (.agg #[(.int .i64 0), (.int .i64 0), (.int .i64 0)]) 24 rfl Try.underlying36 info42 rfl (by decide) (by omega) v542 y541 y544 _ _ _ (fun k_ => some k_ ≠ (.slice Ao59 x9_1.length co59 : Value).ownBlock) (fun _ => False) rfl rfl ?aO ?aR (fun _ _ h => h) (fun _ h => h.elim) ?aF ?aB ?aS ?aL ?_
               (case aR => repeat (first | exact (by repeat (first | (with_reducible exact HR547.out) | (with_reducible refine Kd.C_alloc ?_ _) | (with_reducible refine Kd.C_drewN ?_ _) | (with_reducible refine Kd.C_drew ?_) | exact HR547.out)) | (with_reducible refine Kd.C_alloc ?_ _) | (with_reducible refine Kd.C_drewN ?_ _) | (with_reducible refine Kd.C_drew ?_)))
               (case aB => exact (GS.lB HB.out))
               (case aF => exact (fun k_ hk => Kd.fresh' (Kd.R_lt (GS.rR HO_9.out)) k_ hk))
               (case aO => exact (GS.rR (Kd.R_mono HO543.out (fun _ hk => GS.cj hk))))
               (case aS => exact (lqZ (GS.lB HB.out)))
               (case aL => have := LMc55.out; omega)
               intro v549 w64 ho hb hg hat
               rw [← Ny548.out] at ho
               have n0_ := Aside0.mk (Kd.R_after (ok := (fun _ => True)) (GS.rR HO_9.out) hg hat)
               have n1_ := Aside0.mk (blk_grown (GS.bqX BK512.out) hg (Kd.R_ne HO543.out BK512.out (by decide)))
               have n2_ := Aside0.mk (hb)
               have n3_ := Aside0.mk ((show Kd.C k42 w64 A61 y544.length y544 from by rw [Ny544.out, KA61.out]; exact Kd.C_drop (m := (x13_11 : Int).toNat) (c := co59) ((Kd.R_reads' (Kd.R_after (ok := (fun _ => True)) (GS.rR HO_9.out) hg hat)).2.2) KL61.out ((Kd.R_reads' (Kd.R_after (ok := (fun _ => True)) (GS.rR HO_9.out) hg hat)).2.1)))
               have n4_ := Aside0.mk (ho)
               clear HO_9
               clear BK512
               clear HB
               clear HR547
               clear HO543
               have HO_9 := n0_
               have BK512 := n1_
               have HB := n2_
               have HR547 := n3_
               have HO550 := n4_
               clear n0_ n1_ n2_ n3_ n4_
               clear ho hb hg hat
               refine hK.out _ _ ⟨((HB.out.cell (World.block_lt_of_cell? w _ hw540_0)).trans hw540_0), ((HB.out.cell (World.block_lt_of_cell? w _ hw540_1)).trans hw540_1), ((HB.out.cell (World.block_lt_of_cell? w _ hw540_2)).trans hw540_2), ((HB.out.cell (World.block_lt_of_cell? w _ hw540_3)).trans hw540_3), ((HB.out.cell (World.block_lt_of_cell? w _ hw540_4)).trans hw540_4)⟩ (fun hHeld => ?_)
               clear hK K
               refine norm_ (a' := ?_) ?_ ?_
               rotate_left
               ·show Act.put _ (some 94) _ = _
                simp only [Act.put, List.setIfInBounds_toArray, List.set_cons_zero, List.set_cons_succ, i64_w, i32_w]
                rfl
               refine GS.pu 12 (some 14) HT_.out ?_
               refine done_ (done_of HT_.out (by kernel_rfl)) ?_
               have q65 : (x13_11 : Int) ≤ ((x9_1.length : Int) : Int) := of_decide_eq_true (by first | (with_reducible assumption) | assumption)
               obtain ⟨i065, hi065, _, hsz65, _⟩ := info_parts info42
               have hcut65 := GW.cut_cap (P := Try.prog) 36 42 .i64 Try.underlying36 hi065 Ao59 x9_1.length co59 x13_11 (of_decide_eq_true (by first | (with_reducible assumption) | assumption)) q65 (Kd.R_reads' HO_9.out).2.1
               have hr65 := Kd.R_take (m := (x13_11 : Int).toNat) HO_9.out (by omega)
               have hy65 : y551.length = (x13_11 : Int).toNat := (by rw [Ny551.out, List.length_take]; omega)
               rw [← Ny551.out] at hr65
               rw [← hy65] at hr65 hcut65
               clear hy65 hi065 hsz65 HO_9
               have HO553 := Aside0.mk hr65
               clear hr65
               replace q65 := eq_true q65
               obtain ⟨Ao67, co67, eo67⟩ := Kd.R_slice HO550.out
               subst eo67
               try go_wp2_with (first | ((with_reducible refine gate_builtin (b := .append) (xs := #[.tmp 98, .tmp 99]) rfl ?_); at_builtin; refine GW.R_append_cut k42 (w0 := w) w.heap.size rfl (.tmp 98) (.tmp 99) 36 42 (.agg #[(.int .i64 0), (.int .i64 0), (.int .i64 0)]) 24 rfl Try.underlying36 info42 rfl (by decide) (by omega) Ao59 y551.length co59 y551 y548 _ _ _ (fun k_ => some k_ ≠ (.slice Ao67 y548.length co67 : Value).ownBlock) (fun _ => False) rfl rfl ?aO ?aR (fun _ _ h => h) (fun _ h => h.elim) ?aF ?aB ?aS ?aL ?aM ?_; (case aR => repeat (first | exact (Kd.R_reads' HO550.out).2.2 | (with_reducible refine Kd.C_alloc ?_ _) | (with_reducible refine Kd.C_drewN ?_ _) | (with_reducible refine Kd.C_drew ?_))); (case aB => exact (GS.lB HB.out)); (case aF => exact (fun k_ hk => Kd.fresh' (Kd.R_lt (GS.rR HO550.out)) k_ hk)); (case aO => exact (GS.rR (Kd.R_mono HO553.out (fun _ hk => GS.cj hk)))); (case aS => exact (lqZ (GS.lB HB.out))); (case aM => rw [Ny548.out, List.length_append, Ny541.out]; exact Nat.lt_of_lt_of_le (Nat.zero_lt_one) (Nat.le_add_right _ _)); (case aL => have := LMc57.out; omega); intro v555 w66 ho hb hg hat; rw [← Ny554.out] at ho; have n0_ := Aside0.mk (blk_grown (GS.bqX BK512.out) hg (Kd.R_ne HO553.out BK512.out (by decide))); have n1_ := Aside0.mk (Kd.R_after (ok := (fun _ => True)) (GS.rR (Kd.R_mono HO550.out (fun _ hk => ⟨trivial, GW.own_ne hk⟩))) hg hat); have n2_ := Aside0.mk (hb); have n3_ := Aside0.mk (ho); clear BK512; clear HO550; clear HB; clear HO553; have BK512 := n0_; have HO550 := n1_; have HB := n2_; have HO556 := n3_; clear n0_ n1_ n2_ n3_; clear ho hb hg hat))
               go_roundg kj11
               case measure => have := HK1.out; have := HJ11.out; omega
               case rel => exact ⟨(y554), (wrap64 (x10_1 + 1)), (by first | rfl | (simp; done) | (simp [*]; done)), H', ⟨by have := HK1.out; have := HJ11.out; omega⟩, ⟨by (with_reducible repeat (first | apply Kd.R_alloc | apply Kd.R_drewN | apply Kd.R_drew)); exact Kd.R_mono HO556.out (fun _ hk => trivial)⟩, ⟨GS.bqX BK512.out⟩, ⟨GS.lB HB.out⟩⟩
              ·rw [if_neg c57] at H
               exact absurd H (by simp)
             ·rw [if_neg c55] at H
              exact absurd H (by simp)
            ·rw [if_neg c54] at H
             exact absurd H (by simp)
           ·rw [if_neg c53] at H
            exact absurd H (by simp)
          ·rw [if_neg c52] at H
           exact absurd H (by simp)
         ·rw [if_neg c51] at H
          exact absurd H (by simp)
     ·rw [if_neg c10] at H
      exact absurd H (by simp)
    ·rw [if_neg c9] at H
     have c9b0 : decide (x10_1 < (l1.length : Int)) = false := decide_eq_false c9
     clear c9
     simp only [Option.some.injEq, Prod.mk.injEq] at H
     obtain ⟨rfl, rfl⟩ := H
     go_wp2
     go_ret2
     exact ⟨_, by first | rfl | (simp [errW_none, errW_some] <;> rfl) | (simp [*, errW_none, errW_some] <;> rfl), by (with_reducible repeat (first | apply Kd.R_alloc | apply Kd.R_drewN | apply Kd.R_drew)); exact HO_9.out, GS.lB HB.out⟩
 ·rw [if_neg c5] at H
  have c5b0 : (t513 == 0) = false := beq_eq_false_iff_ne.mpr c5
  try simp only [beq_self_eq_true, Bool.not_true, Bool.false_or, Bool.true_and] at c5b0
  have c5b1 : (t513 != 0) = true := bne_iff_ne.mpr c5
  simp only [Option.some.injEq, Prod.mk.injEq] at H
  obtain ⟨rfl, rfl⟩ := H
  go_enter Try.func16, Try.ntmps16
  go_wp2_with (first | ((with_reducible refine gqD (N := 3) rfl ?_); refine GS.bx (N := 3) (cs := #[.int .i64 a0_0, .slice A0_1 l0_1.length c0_1]) (t := 24) ?_; intro gb512 hg w68 hbox hb; have n0_ := Aside0.mk (lqT (GS.lB HB.out) hb); have n1_ := Aside0.mk (hbox); have n2_ := Aside0.mk ((by rw [hg]; exact (lqZ (GS.lB HB.out)) : w.heap.size ≤ gb512)); have n3_ := Aside0.mk ((by rw [hg]; exact (lqZ (GS.lB HB.out)) : w.heap.size ≤ gb512)); clear HB; have HB := n0_; have BK512 := n1_; have GW512 := n2_; have GE512 := n3_; clear n0_ n1_ n2_ n3_; clear hb hbox hg; obtain ⟨hcz69_0, hcz69_1, hfz69_0, hfz69_1⟩ := GS.c2 BK512.out) | ((with_reducible refine gqC (f := 33) rfl ?_); refine GS.gL (some 18) Try.func33 #[.agg #[.int .i64 a0_0, .slice A0_1 l0_1.length c0_1], .slice A1 l1.length c1, .int .i64 a2] ?_; (with_reducible refine (spileref51_asked.calls k a0_0 _ _ l0_1 _ _ l1 a2 t513 _ ?side1 ?side2 ?side3 ?side4 A4.out).mono ?_); (case side1 => exact GS.rC (Kd.C_below HR0_1.out HB.out)); (case side2 => exact HC0_1.out); (case side3 => exact GS.rC (Kd.C_below HR1.out HB.out)); (case side4 => exact HC1.out); rintro e w70 ⟨rfl, hb⟩; refine ⟨_, rfl, ?_⟩; have n0_ := Aside0.mk (bqB (GS.bqX BK512.out) hb); have n1_ := Aside0.mk (lqT (GS.lB HB.out) hb); clear BK512; clear HB; have BK512 := n0_; have HB := n1_; clear n0_ n1_; (try clear hb); (try clear hb2); (try clear hk); (try clear hi)))
  go_ret2
  exact ⟨_, by first | rfl | (simp [errW_none, errW_some] <;> rfl) | (simp [*, errW_none, errW_some] <;> rfl), by first | exact Kd.R_nil _ _ _ _ _ | exact Kd.N_nil _ _ _ _ _ | exact Kd.V_nil _ _ _ _ _ | exact Kd.Q_nil _ _ _ _ _ | exact Kd.S_nil _ _ _ _ _, GS.lB HB.out⟩

end Go.Proofs.Ythboaobgipodiaa.K
