import Derived.Test.YthboaobgipodiaaK0
import Derived.Test.YthboaobgipodiaaGPu
import Derived.Test.YthboaobgipodiaaGShort
import Derived.Test.YthboaobgipodiaaK5
import Derived.Test.YthboaobgipodiaaK7
import Derived.Test.YthboaobgipodiaaK15
-- PRINTED by print.py (a twelfth state) out of the translation. Not trusted: Lean checks it.
namespace Go.Proofs.Ythboaobgipodiaa.K
open Go.RowKit Go.Proofs.YthboaobgipodiaaW.PrintWords Go.Proofs.YthboaobgipodiaaW.PrintLast Go.Proofs.YthboaobgipodiaaW.PrintMore
attribute [local go_sem] max2_int min2_int max_two min_two max_three min_three max_four min_four   -- for this text's walks alone
set_option linter.unusedVariables false
set_option linter.unusedSimpArgs false

theorem eqA51 (d : Nat) (w : World) (x0 y0 : Int) (x1 y1 : Int) (x2 y2 : Int) (x3 y3 : Int) :
    (Op.equalIn (d + 2) 51 (.agg #[.int .i64 x0, .int .i64 x1, .int .i64 x2, .int .i64 x3]) (.agg #[.int .i64 y0, .int .i64 y1, .int .i64 y2, .int .i64 y3])).run Try.prog w = .ok (x0 == y0 && (x1 == y1 && (x2 == y2 && (x3 == y3)))) w := by
  refine eqA_of Try.underlying51 (by kernel_rfl) ?_
  refine eqf_cons (by rfl) (by go_simp; rfl) (by go_simp; rfl) (by go_simp) ?_
  refine eqf_cons (by rfl) (by go_simp; rfl) (by go_simp; rfl) (by go_simp) ?_
  refine eqf_cons (by rfl) (by go_simp; rfl) (by go_simp; rfl) (by go_simp) ?_
  exact eqf_last (by rfl) (by go_simp; rfl) (by go_simp; rfl) (by go_simp)
end Go.Proofs.Ythboaobgipodiaa.K
-- PRINTED by print.py (a twelfth state) out of the translation. Not trusted: Lean checks it.
namespace Go.Proofs.Ythboaobgipodiaa.K
open Go.RowKit Go.Proofs.YthboaobgipodiaaW.PrintWords Go.Proofs.YthboaobgipodiaaW.PrintLast Go.Proofs.YthboaobgipodiaaW.PrintMore
attribute [local go_sem] max2_int min2_int max_two min_two max_three min_three max_four min_four   -- for this text's walks alone
set_option linter.unusedVariables false
set_option linter.unusedSimpArgs false

attribute [local go_sem high] eqA51
/-! ### liability_Sum: function 21 -/
def liability_Sum.l0 : Nat → List (S51) → Int → Int → List (S35) → Int → Int → Int → List (S60) → Option (Int × Int)
 | 0, _, _, _, _, _, _, _, _ => none
 | k + 1, x2, x3, x11, x26, x27, x28, x338000, x338001 => if x28 < x27 then (if 0 ≤ x28 then (if x28 < (x26.length : Int) then (if x28 < (x2.length : Int) then ((liability_Fits.f k ((rd_T35 x26 x28).f0) ((rd_T35 x26 x28).f1) ((rd_T35 x26 x28).f2) ((rd_T35 x26 x28).f3) ((rd_T35 x26 x28).f4) ((rd_T51 x2 x28).f0) ((rd_T51 x2 x28).f1) ((rd_T51 x2 x28).f2) ((rd_T51 x2 x28).f3) x3).bind fun t342 => (if t342 = true then ((liability_causes.f k x338000 x338001 ((rd_T35 x26 x28).f0) ((rd_T35 x26 x28).f1) ((rd_T35 x26 x28).f2) ((rd_T35 x26 x28).f3) ((rd_T35 x26 x28).f4) ((rd_T51 x2 x28).f0) ((rd_T51 x2 x28).f1) ((rd_T51 x2 x28).f2) ((rd_T51 x2 x28).f3)).bind fun t344 => (liability_Sum.l0 k x2 x3 (wrap64 (x11 + t344)) x26 x27 (wrap64 (x28 + 1)) x338000 x338001)) else (some (0, 10)))) else (none)) else (none)) else (none)) else (some (x11, 0))
def liability_Sum.f (k : Nat) (a0_0 : Int) (l0_1 : List (S60)) (l1 : List (S35)) (l2 : List (S51)) (a3 : Int) : Option (Int × Int) := (liability_sent.f k a0_0 l0_1 l1 a3).bind fun t338 => (if t338 = 0 then (if (l2.length : Int) = (l1.length : Int) then (liability_Sum.l0 k l2 a3 0 l1 (l1.length : Int) 0 a0_0 l0_1) else (some (0, 10))) else (some (0, t338)))
theorem liability_Sum.mono_l : ∀ k, (∀ y0 y1 y2 y3 y4 y5 y6 y7, LeO (liability_Sum.l0 k y0 y1 y2 y3 y4 y5 y6 y7) (liability_Sum.l0 (k + 1) y0 y1 y2 y3 y4 y5 y6 y7))
 | 0 => fun _ _ _ _ _ _ _ _ r h => by simp [liability_Sum.l0] at h
 | k + 1 => by
  have ih0 := liability_Sum.mono_l k
  ·intro y0 y1 y2 y3 y4 y5 y6 y7
   unfold liability_Sum.l0
   repeat' first
   | (with_reducible exact ih0 _ _ _ _ _ _ _ _)
   | (with_reducible exact liability_Fits.mono _ _ _ _ _ _ _ _ _ _ _)
   | (with_reducible exact liability_causes.mono _ _ _ _ _ _ _ _ _ _ _ _)
   | (with_reducible exact liability_sent.mono _ _ _ _ _)
   | (with_reducible exact LeO.refl _)
   | (with_reducible exact LeO.none _)
   | (with_reducible refine LeO.ite ?_ ?_)
   | (with_reducible refine LeO.bind ?_ (fun _ => ?_))
   | exact ih0 _ _ _ _ _ _ _ _
   | exact liability_Fits.mono _ _ _ _ _ _ _ _ _ _ _
   | exact liability_causes.mono _ _ _ _ _ _ _ _ _ _ _ _
   | exact liability_sent.mono _ _ _ _ _
   | exact LeO.none _
   | refine LeO.ite ?_ ?_
   | refine LeO.bind ?_ (fun _ => ?_)
theorem liability_Sum.mono : ∀ a0 a1 a2 a3 a4 k, LeO (liability_Sum.f k a0 a1 a2 a3 a4) (liability_Sum.f (k + 1) a0 a1 a2 a3 a4) := by
 intro a0 a1 a2 a3 a4 k
 have ih0 := liability_Sum.mono_l k
 unfold liability_Sum.f
 repeat' first
   | (with_reducible exact ih0 _ _ _ _ _ _ _ _)
   | (with_reducible exact liability_Fits.mono _ _ _ _ _ _ _ _ _ _ _)
   | (with_reducible exact liability_causes.mono _ _ _ _ _ _ _ _ _ _ _ _)
   | (with_reducible exact liability_sent.mono _ _ _ _ _)
   | (with_reducible exact LeO.refl _)
   | (with_reducible exact LeO.none _)
   | (with_reducible refine LeO.ite ?_ ?_)
   | (with_reducible refine LeO.bind ?_ (fun _ => ?_))
   | exact ih0 _ _ _ _ _ _ _ _
   | exact liability_Fits.mono _ _ _ _ _ _ _ _ _ _ _
   | exact liability_causes.mono _ _ _ _ _ _ _ _ _ _ _ _
   | exact liability_sent.mono _ _ _ _ _
   | exact LeO.none _
   | refine LeO.ite ?_ ?_
   | refine LeO.bind ?_ (fun _ => ?_)
def liability_Sum.T10 : Bool × List (List Nat × List Nat) := (true, [([], []), ([], []), ([], []), ([1, 2], [1, 2]), ([3], [3]), ([], []), ([0, 4, 5], [0, 4, 5]), ([6], [6])])
def liability_Sum.B10 : List Nat := [0, 0, 0, 6, 14, 0, 63, 127]
theorem liability_Sum.tab10 : rtab .any (opsOf Try.f21 10) = liability_Sum.T10 := by kernel_rfl
theorem liability_Sum.bits10 : waitsOk liability_Sum.T10.2 liability_Sum.B10 = true := by kernel_rfl
def liability_Sum.T12 : Bool × List (List Nat × List Nat) := (true, [([], []), ([], []), ([], []), ([], []), ([], []), ([3, 4], [3, 4]), ([5], [5]), ([1, 2, 6], [1, 2, 6]), ([0, 7], [0, 7]), ([8, 7, 0, 1, 2, 3, 4, 5, 6, 7, 8], [0, 8])])
def liability_Sum.B12 : List Nat := [0, 0, 0, 0, 0, 24, 56, 126, 255, 511]
theorem liability_Sum.tab12 : rtab .any (opsOf Try.f21 12) = liability_Sum.T12 := by kernel_rfl
theorem liability_Sum.bits12 : waitsOk liability_Sum.T12.2 liability_Sum.B12 = true := by kernel_rfl
set_option maxHeartbeats 8000000 in
set_option maxRecDepth 100000 in
theorem liability_Sum.calls (k : Nat) (a0_0 : Int) (A0_1 : Option Addr) (c0_1 : Nat) (l0_1 : List (S60)) (A1 : Option Addr) (c1 : Nat) (l1 : List (S35)) (A2 : Option Addr) (c2 : Nat) (l2 : List (S51)) (a3 : Int) (r1 : Int) (r2 : Int) (w : World) (hr0_1 : Kd.C k60 w A0_1 l0_1.length l0_1) (hc0_1 : l0_1.length ≤ c0_1) (hr1 : Kd.C k35 w A1 l1.length l1) (hc1 : l1.length ≤ c1) (hr2 : Kd.C k51 w A2 l2.length l2) (hc2 : l2.length ≤ c2) (h : liability_Sum.f k a0_0 l0_1 l1 l2 a3 = some (r1, r2)) :
  Calls Try.prog 21 #[.agg #[.int .i64 a0_0, .slice A0_1 l0_1.length c0_1], .slice A1 l1.length c1, .slice A2 l2.length c2, .int .i64 a3] w fun e w' => e = .returned (.tuple #[.int .i64 r1, .int .i64 r2]) ∧ Below w.heap.size w w' := by
 have hu24 := Try.underlying24
 have hu35 := Try.underlying35
 have hu51 := Try.underlying51
 have HR0_1 := Aside0.mk hr0_1
 have HC0_1 := Aside0.mk hc0_1
 clear hr0_1 hc0_1
 have HR1 := Aside0.mk hr1
 have HC1 := Aside0.mk hc1
 clear hr1 hc1
 have HR2 := Aside0.mk hr2
 have HC2 := Aside0.mk hc2
 clear hr2 hc2
 have HB := Aside0.mk (Below.refl w.heap.size w)
 have H : ((liability_sent.f k a0_0 l0_1 l1 a3).bind fun t338 => (if t338 = 0 then (if (l2.length : Int) = (l1.length : Int) then (liability_Sum.l0 k l2 a3 0 l1 (l1.length : Int) 0 a0_0 l0_1) else (some (0, 10))) else (some (0, t338)))) = some (r1, r2) := h
 clear h
 replace H := Option.bind_eq_some_iff.mp H
 obtain ⟨t338, A50, H⟩ := H
 replace H : (if t338 = 0 then (if (l2.length : Int) = (l1.length : Int) then (liability_Sum.l0 k l2 a3 0 l1 (l1.length : Int) 0 a0_0 l0_1) else (some (0, 10))) else (some (0, t338))) = some (r1, r2) := H
 have A5 := Aside0.mk A50
 clear A50
 by_cases c6 : t338 = 0
 ·rw [if_pos c6] at H
  have c6b0 : (t338 == 0) = true := beq_iff_eq.mpr c6
  try simp only [beq_self_eq_true, Bool.not_true, Bool.false_or, Bool.true_and] at c6b0
  have c6b1 : (t338 != 0) = false := bne_eq_false_iff_eq.mpr c6
  clear c6
  by_cases c7 : (l2.length : Int) = (l1.length : Int)
  ·rw [if_pos c7] at H
   have c7b0 : ((l2.length : Int) == (l1.length : Int)) = true := beq_iff_eq.mpr c7
   try simp only [beq_self_eq_true, Bool.not_true, Bool.false_or, Bool.true_and] at c7b0
   have c7b1 : ((l2.length : Int) != (l1.length : Int)) = false := bne_eq_false_iff_eq.mpr c7
   have c7b2 : (l2.length == l1.length) = true := by first | simpa using c7 | (simp at c7 ⊢; omega)
   clear c7
   have H' := Aside0.mk H
   clear H
   go_enter Try.func21, Try.ntmps21
   go_wp2_with (first | ((with_reducible refine gqD (N := 4) rfl ?_); refine GS.bx (N := 4) (cs := #[.int .i64 a0_0, .slice A0_1 l0_1.length c0_1]) (t := 24) ?_; intro gb337 hg w8 hbox hb; have n0_ := Aside0.mk (lqT (GS.lB HB.out) hb); have n1_ := Aside0.mk (hbox); have n2_ := Aside0.mk ((by rw [hg]; exact (lqZ (GS.lB HB.out)) : w.heap.size ≤ gb337)); have n3_ := Aside0.mk ((by rw [hg]; exact (lqZ (GS.lB HB.out)) : w.heap.size ≤ gb337)); clear HB; have HB := n0_; have BK337 := n1_; have GW337 := n2_; have GE337 := n3_; clear n0_ n1_ n2_ n3_; clear hb hbox hg; obtain ⟨hcz9_0, hcz9_1, hfz9_0, hfz9_1⟩ := GS.c2 BK337.out) | ((with_reducible refine gqC (f := 37) rfl ?_); refine GS.gL (some 17) Try.func37 #[.agg #[.int .i64 a0_0, .slice A0_1 l0_1.length c0_1], .slice A1 l1.length c1, .int .i64 a3] ?_; (with_reducible refine (liability_sent.calls k a0_0 _ _ l0_1 _ _ l1 a3 t338 _ ?side1 ?side2 ?side3 ?side4 A5.out).mono ?_); (case side1 => exact GS.rC (Kd.C_below HR0_1.out HB.out)); (case side2 => exact HC0_1.out); (case side3 => exact GS.rC (Kd.C_below HR1.out HB.out)); (case side4 => exact HC1.out); rintro e w10 ⟨rfl, hb⟩; refine ⟨_, rfl, ?_⟩; have n0_ := Aside0.mk (bqB (GS.bqX BK337.out) hb); have n1_ := Aside0.mk (lqT (GS.lB HB.out) hb); clear BK337; clear HB; have BK337 := n0_; have HB := n1_; clear n0_ n1_; (try clear hb); (try clear hb2); (try clear hk); (try clear hi)))
   go_loopg [11, 28] k (fun kq v11 v28 w' => ∃ (x11_1 : Int) (x28_1 : Int), v11 = .int .i64 x11_1 ∧ v28 = .int .i64 x28_1 ∧ Aside0 (liability_Sum.l0 kq l2 a3 x11_1 l1 (l1.length : Int) x28_1 a0_0 l0_1 = some (r1, r2)) ∧ Aside0 (kq ≤ k) ∧ Aside0 (w'.heap[gb337]? = some (.cells #[.int .i64 a0_0, (.slice A0_1 l0_1.length c0_1)] 24 (0, 0))) ∧ Aside0 (Below w.heap.size w w'))
   case atStart => exact ⟨(0), (0), (by first | rfl | (simp; done) | (simp [*]; done)), (by first | rfl | (simp; done) | (simp [*]; done)), H', ⟨Nat.le_refl _⟩, ⟨GS.bqX BK337.out⟩, ⟨GS.lB HB.out⟩⟩
   case round =>
    clear H'
    try clear c1
    try clear c2
    try clear p2
    try clear c3
    try clear c6
    try clear c6b0
    try clear c6b1
    try clear c7
    try clear c7b0
    try clear c7b1
    try clear c7b2
    try clear hcz9_0
    try clear hcz9_1
    try clear hfz9_0
    try clear hfz9_1
    obtain ⟨x11_1, x28_1, rfl, rfl, HA, HK1, BK337, HB⟩ := hrel
    cases gk with
    | zero => exact absurd HA.out (by simp [liability_Sum.l0])
    | succ k1 =>
     have H := HA.out
     clear HA
     simp only [liability_Sum.l0] at H
     by_cases c11 : x28_1 < (l1.length : Int)
     ·rw [if_pos c11] at H
      have c11b0 : decide (x28_1 < (l1.length : Int)) = true := decide_eq_true c11
      clear c11
      by_cases c12 : 0 ≤ x28_1
      ·rw [if_pos c12] at H
       have c12b0 : decide (0 ≤ x28_1) = true := decide_eq_true c12
       clear c12
       by_cases c13 : x28_1 < (l1.length : Int)
       ·rw [if_pos c13] at H
        have c13b0 : decide (x28_1 < (l1.length : Int)) = true := decide_eq_true c13
        clear c13
        by_cases c14 : x28_1 < (l2.length : Int)
        ·rw [if_pos c14] at H
         have c14b0 : decide (x28_1 < (l2.length : Int)) = true := decide_eq_true c14
         clear c14
         replace H := Option.bind_eq_some_iff.mp H
         obtain ⟨t342, A150, H⟩ := H
         replace H : (if t342 = true then ((liability_causes.f k1 a0_0 l0_1 ((rd_T35 l1 x28_1).f0) ((rd_T35 l1 x28_1).f1) ((rd_T35 l1 x28_1).f2) ((rd_T35 l1 x28_1).f3) ((rd_T35 l1 x28_1).f4) ((rd_T51 l2 x28_1).f0) ((rd_T51 l2 x28_1).f1) ((rd_T51 l2 x28_1).f2) ((rd_T51 l2 x28_1).f3)).bind fun t344 => (liability_Sum.l0 k1 l2 a3 (wrap64 (x11_1 + t344)) l1 (l1.length : Int) (wrap64 (x28_1 + 1)) a0_0 l0_1)) else (some (0, 10))) = some (r1, r2) := H
         have A15 := Aside0.mk A150
         clear A150
         by_cases c16 : t342 = true
         ·subst c16
          have H1 : ((liability_causes.f k1 a0_0 l0_1 ((rd_T35 l1 x28_1).f0) ((rd_T35 l1 x28_1).f1) ((rd_T35 l1 x28_1).f2) ((rd_T35 l1 x28_1).f3) ((rd_T35 l1 x28_1).f4) ((rd_T51 l2 x28_1).f0) ((rd_T51 l2 x28_1).f1) ((rd_T51 l2 x28_1).f2) ((rd_T51 l2 x28_1).f3)).bind fun t344 => (liability_Sum.l0 k1 l2 a3 (wrap64 (x11_1 + t344)) l1 (l1.length : Int) (wrap64 (x28_1 + 1)) a0_0 l0_1)) = some (r1, r2) := by rw [if_pos rfl] at H; exact H
          clear H
          have H := H1
          clear H1
          replace H := Option.bind_eq_some_iff.mp H
          obtain ⟨t344, A170, H⟩ := H
          replace H : (liability_Sum.l0 k1 l2 a3 (wrap64 (x11_1 + t344)) l1 (l1.length : Int) (wrap64 (x28_1 + 1)) a0_0 l0_1) = some (r1, r2) := H
          have A17 := Aside0.mk A170
          clear A170
          have H' := Aside0.mk H
          clear H
          have p339 : 0 ≤ (x28_1 : Int) := of_decide_eq_true (by first | (with_reducible assumption) | assumption)
          have q339 : x28_1 < (l1.length : Int) := of_decide_eq_true (by first | (with_reducible assumption) | assumption)
          obtain ⟨ad339, e339, hx339_0, hx339_1, hx339_2, hx339_3, hx339_4⟩ := at_T35 HR1.out x28_1 p339 q339
          cases e339
          replace hx339_0 := (HB.out.cell (World.block_lt_of_cell? w _ hx339_0)).trans hx339_0
          replace hx339_1 := (HB.out.cell (World.block_lt_of_cell? w _ hx339_1)).trans hx339_1
          replace hx339_2 := (HB.out.cell (World.block_lt_of_cell? w _ hx339_2)).trans hx339_2
          replace hx339_3 := (HB.out.cell (World.block_lt_of_cell? w _ hx339_3)).trans hx339_3
          replace hx339_4 := (HB.out.cell (World.block_lt_of_cell? w _ hx339_4)).trans hx339_4
          replace p339 := eq_true p339
          replace q339 := eq_true q339
          try go_wp2_with (first | ((with_reducible refine gqD (N := 13) rfl ?_); refine GS.bx (N := 13) (cs := #[.int .i64 0, .int .i64 0, .int .i64 0, .int .i64 0, .int .i64 0]) (t := 35) ?_; intro gb340 hg w18 hbox hb; have n0_ := Aside0.mk (bqB (GS.bqX BK337.out) hb); have n1_ := Aside0.mk (lqT (GS.lB HB.out) hb); have n2_ := Aside0.mk (hbox); have n3_ := Aside0.mk ((by rw [hg]; exact (lqZ (GS.lB HB.out)) : w.heap.size ≤ gb340)); have n4_ := Aside0.mk ((by rw [hg]; exact (lqZ (GS.lB HB.out)) : w.heap.size ≤ gb340)); have n5_ := Aside0.mk ((by rw [hg]; exact Nat.ne_of_lt (blk_lt (GS.bqX BK337.out)) : gb337 ≠ gb340)); have n6_ := Aside0.mk ((by rw [hg]; exact Nat.ne_of_gt (blk_lt (GS.bqX BK337.out)) : gb340 ≠ gb337)); clear BK337; clear HB; have BK337 := n0_; have HB := n1_; have BK340 := n2_; have GW340 := n3_; have GE340 := n4_; have NB337_340 := n5_; have NB340_337 := n6_; clear n0_ n1_ n2_ n3_ n4_ n5_ n6_; clear hb hbox hg; have hnb19 := NB340_337.out; have hnc19 := NB337_340.out; obtain ⟨hcz20_0, hcz20_1, hcz20_2, hcz20_3, hcz20_4, hfz20_0, hfz20_1, hfz20_2, hfz20_3, hfz20_4⟩ := GS.c5 BK340.out))
          have n0_ : Aside0 ((((((w18.setCell ⟨gb340, 0, none⟩ (.int .i64 ((rd_T35 l1 x28_1).f0))).setCell ⟨gb340, 1, none⟩ (.int .i64 ((rd_T35 l1 x28_1).f1))).setCell ⟨gb340, 2, none⟩ (.int .i64 ((rd_T35 l1 x28_1).f2))).setCell ⟨gb340, 3, none⟩ (.int .i64 ((rd_T35 l1 x28_1).f3))).setCell ⟨gb340, 4, none⟩ (.int .i64 ((rd_T35 l1 x28_1).f4))).heap[gb337]? = some (.cells #[.int .i64 a0_0, .slice A0_1 l0_1.length c0_1] 24 (0, 0))) := ⟨GS.bqX BK337.out⟩
          have n1_ : Aside0 ((((((w18.setCell ⟨gb340, 0, none⟩ (.int .i64 ((rd_T35 l1 x28_1).f0))).setCell ⟨gb340, 1, none⟩ (.int .i64 ((rd_T35 l1 x28_1).f1))).setCell ⟨gb340, 2, none⟩ (.int .i64 ((rd_T35 l1 x28_1).f2))).setCell ⟨gb340, 3, none⟩ (.int .i64 ((rd_T35 l1 x28_1).f3))).setCell ⟨gb340, 4, none⟩ (.int .i64 ((rd_T35 l1 x28_1).f4))).heap[gb340]? = some (.cells #[.int .i64 ((rd_T35 l1 x28_1).f0), .int .i64 ((rd_T35 l1 x28_1).f1), .int .i64 ((rd_T35 l1 x28_1).f2), .int .i64 ((rd_T35 l1 x28_1).f3), .int .i64 ((rd_T35 l1 x28_1).f4)] 35 (0, 0))) := ⟨GS.bqZ BK340.out⟩
          have n2_ : Aside0 (Below w.heap.size w (((((w18.setCell ⟨gb340, 0, none⟩ (.int .i64 ((rd_T35 l1 x28_1).f0))).setCell ⟨gb340, 1, none⟩ (.int .i64 ((rd_T35 l1 x28_1).f1))).setCell ⟨gb340, 2, none⟩ (.int .i64 ((rd_T35 l1 x28_1).f2))).setCell ⟨gb340, 3, none⟩ (.int .i64 ((rd_T35 l1 x28_1).f3))).setCell ⟨gb340, 4, none⟩ (.int .i64 ((rd_T35 l1 x28_1).f4)))) := ⟨GS.lB HB.out⟩
          (try clear BK337)
          (try clear BK340)
          (try clear HB)
          generalize (((((w18.setCell ⟨gb340, 0, none⟩ (.int .i64 ((rd_T35 l1 x28_1).f0))).setCell ⟨gb340, 1, none⟩ (.int .i64 ((rd_T35 l1 x28_1).f1))).setCell ⟨gb340, 2, none⟩ (.int .i64 ((rd_T35 l1 x28_1).f2))).setCell ⟨gb340, 3, none⟩ (.int .i64 ((rd_T35 l1 x28_1).f3))).setCell ⟨gb340, 4, none⟩ (.int .i64 ((rd_T35 l1 x28_1).f4))) = w21 at n0_ n1_ n2_ ⊢
          have BK337 := n0_
          have BK340 := n1_
          have HB := n2_
          clear n0_ n1_ n2_
          have n0_ := Aside0.mk (bqD BK337.out)
          have n1_ := Aside0.mk (bqD BK340.out)
          have n2_ := Aside0.mk (lqD HB.out)
          clear BK337
          clear BK340
          clear HB
          have BK337 := n0_
          have BK340 := n1_
          have HB := n2_
          clear n0_ n1_ n2_
          have p341 : 0 ≤ (x28_1 : Int) := of_decide_eq_true (by first | (with_reducible assumption) | assumption)
          have q341 : x28_1 < (l2.length : Int) := of_decide_eq_true (by first | (with_reducible assumption) | assumption)
          obtain ⟨ad341, e341, hx341_0, hx341_1, hx341_2, hx341_3⟩ := at_T51 HR2.out x28_1 p341 q341
          have hw341_3 := hx341_3
          have hw341_2 := hx341_2
          have hw341_1 := hx341_1
          have hw341_0 := hx341_0
          cases e341
          replace hx341_0 := (HB.out.cell (World.block_lt_of_cell? w _ hx341_0)).trans hx341_0
          replace hx341_1 := (HB.out.cell (World.block_lt_of_cell? w _ hx341_1)).trans hx341_1
          replace hx341_2 := (HB.out.cell (World.block_lt_of_cell? w _ hx341_2)).trans hx341_2
          replace hx341_3 := (HB.out.cell (World.block_lt_of_cell? w _ hx341_3)).trans hx341_3
          replace p341 := eq_true p341
          replace q341 := eq_true q341
          refine start_ (n := 8) (S := fun w' => w'.cell? ⟨gb340, 0, none⟩ = some (.int .i64 ((rd_T35 l1 x28_1).f0)) ∧ w'.cell? ⟨gb340, 1, none⟩ = some (.int .i64 ((rd_T35 l1 x28_1).f1)) ∧ w'.cell? ⟨gb340, 2, none⟩ = some (.int .i64 ((rd_T35 l1 x28_1).f2)) ∧ w'.cell? ⟨gb340, 3, none⟩ = some (.int .i64 ((rd_T35 l1 x28_1).f3)) ∧ w'.cell? ⟨gb340, 4, none⟩ = some (.int .i64 ((rd_T35 l1 x28_1).f4)) ∧ w'.cell? (ad341.add ((x28_1).toNat * 4)) = some (.int .i64 ((rd_T51 l2 x28_1).f0)) ∧ w'.cell? ⟨(ad341.add ((x28_1).toNat * 4)).block, (ad341.add ((x28_1).toNat * 4)).off + 1, none⟩ = some (.int .i64 ((rd_T51 l2 x28_1).f1)) ∧ w'.cell? ⟨(ad341.add ((x28_1).toNat * 4)).block, (ad341.add ((x28_1).toNat * 4)).off + 2, none⟩ = some (.int .i64 ((rd_T51 l2 x28_1).f2)) ∧ w'.cell? ⟨(ad341.add ((x28_1).toNat * 4)).block, (ad341.add ((x28_1).toNat * 4)).off + 3, none⟩ = some (.int .i64 ((rd_T51 l2 x28_1).f3))) (ds := []) #[false, false, false, false, false, false, false, false] (by kernel_rfl) rfl rfl ⟨(bqC BK340.out 0).trans rfl, (bqC BK340.out 1).trans rfl, (bqC BK340.out 2).trans rfl, (bqC BK340.out 3).trans rfl, (bqC BK340.out 4).trans rfl, ((HB.out.cell (World.block_lt_of_cell? w _ hw341_0)).trans hw341_0), ((HB.out.cell (World.block_lt_of_cell? w _ hw341_1)).trans hw341_1), ((HB.out.cell (World.block_lt_of_cell? w _ hw341_2)).trans hw341_2), ((HB.out.cell (World.block_lt_of_cell? w _ hw341_3)).trans hw341_3)⟩ (fun hHeld => ?_); refine with_tabW liability_Sum.tab10 liability_Sum.bits10 (fun HT_ HW_ => ?_)
          generalize w21.drew = w22 at BK337 BK340 HB hx341_0 hx341_1 hx341_2 hx341_3 hHeld ⊢
          refine GS.pu 1 (some 34) HT_.out ?_
          refine GS.pu 2 (some 35) HT_.out ?_
          refine GS.pu 3 (some 36) HT_.out ?_
          refine GS.pu 5 (some 38) HT_.out ?_
          refine GS.tk 0 (some 33) HT_.out HW_.out hHeld ?_
          refine GS.tk 4 (some 37) HT_.out HW_.out hHeld ?_
          refine one_ (i := 6) (N := some 39) #[true, true, true, true, true, true, true, false] rfl rfl (one_of HT_.out (by kernel_rfl)) (by decide) (fun K hK => ?_)
          refine goes_ Try.func26 (by kernel_rfl) rfl #[.agg #[.int .i64 ((rd_T35 l1 x28_1).f0), .int .i64 ((rd_T35 l1 x28_1).f1), .int .i64 ((rd_T35 l1 x28_1).f2), .int .i64 ((rd_T35 l1 x28_1).f3), .int .i64 ((rd_T35 l1 x28_1).f4)], .agg #[.int .i64 ((rd_T51 l2 x28_1).f0), .int .i64 ((rd_T51 l2 x28_1).f1), .int .i64 ((rd_T51 l2 x28_1).f2), .int .i64 ((rd_T51 l2 x28_1).f3)], .int .i64 a3] (by rfl) rfl rfl (by (try simp only [List.map_toArray, List.map_cons, List.map_nil]); first | done | rfl | (simp only [List.length_drop, List.length_take]; rfl)) ?_
          with_reducible refine (liability_Fits.calls k1 ((rd_T35 l1 x28_1).f0) ((rd_T35 l1 x28_1).f1) ((rd_T35 l1 x28_1).f2) ((rd_T35 l1 x28_1).f3) ((rd_T35 l1 x28_1).f4) ((rd_T51 l2 x28_1).f0) ((rd_T51 l2 x28_1).f1) ((rd_T51 l2 x28_1).f2) ((rd_T51 l2 x28_1).f3) a3 true _ A15.out).mono ?_
          rintro e w23 ⟨rfl, hb⟩
          refine ⟨_, rfl, ?_⟩
          have n0_ := Aside0.mk (bqB (GS.bqX BK337.out) hb)
          have n1_ := Aside0.mk (bqB (GS.bqX BK340.out) hb)
          have n2_ := Aside0.mk (lqT (GS.lB HB.out) hb)
          clear BK337
          clear BK340
          clear HB
          have BK337 := n0_
          have BK340 := n1_
          have HB := n2_
          clear n0_ n1_ n2_
          (try clear hb)
          (try clear hb2)
          (try clear hk)
          (try clear hi)
          refine hK.out _ _ ⟨(bqC BK340.out 0).trans rfl, (bqC BK340.out 1).trans rfl, (bqC BK340.out 2).trans rfl, (bqC BK340.out 3).trans rfl, (bqC BK340.out 4).trans rfl, ((HB.out.cell (World.block_lt_of_cell? w _ hw341_0)).trans hw341_0), ((HB.out.cell (World.block_lt_of_cell? w _ hw341_1)).trans hw341_1), ((HB.out.cell (World.block_lt_of_cell? w _ hw341_2)).trans hw341_2), ((HB.out.cell (World.block_lt_of_cell? w _ hw341_3)).trans hw341_3)⟩ (fun hHeld => ?_)
          clear hK K
          refine norm_ (a' := ?_) ?_ ?_
          rotate_left
          ·show Act.put _ (some 39) _ = _
           simp only [Act.put, List.setIfInBounds_toArray, List.set_cons_zero, List.set_cons_succ, i64_w, i32_w]
           rfl
          refine GS.pu 7 (some 40) HT_.out ?_
          refine done_ (done_of HT_.out (by kernel_rfl)) ?_
          try go_wp2
          have n0_ := Aside0.mk (bqD BK337.out)
          have n1_ := Aside0.mk (bqD BK340.out)
          have n2_ := Aside0.mk (lqD HB.out)
          clear BK337
          clear BK340
          clear HB
          have BK337 := n0_
          have BK340 := n1_
          have HB := n2_
          clear n0_ n1_ n2_
          have p343 : 0 ≤ (x28_1 : Int) := of_decide_eq_true (by first | (with_reducible assumption) | assumption)
          have q343 : x28_1 < (l2.length : Int) := of_decide_eq_true (by first | (with_reducible assumption) | assumption)
          obtain ⟨ad343, e343, hx343_0, hx343_1, hx343_2, hx343_3⟩ := at_T51 HR2.out x28_1 p343 q343
          have hw343_3 := hx343_3
          have hw343_2 := hx343_2
          have hw343_1 := hx343_1
          have hw343_0 := hx343_0
          obtain rfl : ad341 = ad343 := (by injection e343)
          replace hx343_0 := (HB.out.cell (World.block_lt_of_cell? w _ hx343_0)).trans hx343_0
          replace hx343_1 := (HB.out.cell (World.block_lt_of_cell? w _ hx343_1)).trans hx343_1
          replace hx343_2 := (HB.out.cell (World.block_lt_of_cell? w _ hx343_2)).trans hx343_2
          replace hx343_3 := (HB.out.cell (World.block_lt_of_cell? w _ hx343_3)).trans hx343_3
          replace p343 := eq_true p343
          replace q343 := eq_true q343
          refine start_ (n := 10) (S := fun w' => w'.cell? ⟨gb337, 0, none⟩ = some (.int .i64 a0_0) ∧ w'.cell? ⟨gb337, 1, none⟩ = some (.slice A0_1 l0_1.length c0_1) ∧ w'.cell? ⟨gb340, 0, none⟩ = some (.int .i64 ((rd_T35 l1 x28_1).f0)) ∧ w'.cell? ⟨gb340, 1, none⟩ = some (.int .i64 ((rd_T35 l1 x28_1).f1)) ∧ w'.cell? ⟨gb340, 2, none⟩ = some (.int .i64 ((rd_T35 l1 x28_1).f2)) ∧ w'.cell? ⟨gb340, 3, none⟩ = some (.int .i64 ((rd_T35 l1 x28_1).f3)) ∧ w'.cell? ⟨gb340, 4, none⟩ = some (.int .i64 ((rd_T35 l1 x28_1).f4)) ∧ w'.cell? (ad341.add ((x28_1).toNat * 4)) = some (.int .i64 ((rd_T51 l2 x28_1).f0)) ∧ w'.cell? ⟨(ad341.add ((x28_1).toNat * 4)).block, (ad341.add ((x28_1).toNat * 4)).off + 1, none⟩ = some (.int .i64 ((rd_T51 l2 x28_1).f1)) ∧ w'.cell? ⟨(ad341.add ((x28_1).toNat * 4)).block, (ad341.add ((x28_1).toNat * 4)).off + 2, none⟩ = some (.int .i64 ((rd_T51 l2 x28_1).f2)) ∧ w'.cell? ⟨(ad341.add ((x28_1).toNat * 4)).block, (ad341.add ((x28_1).toNat * 4)).off + 3, none⟩ = some (.int .i64 ((rd_T51 l2 x28_1).f3))) (ds := []) #[false, false, false, false, false, false, false, false, false, false] (by kernel_rfl) rfl rfl ⟨(bqC BK337.out 0).trans rfl, (bqC BK337.out 1).trans rfl, (bqC BK340.out 0).trans rfl, (bqC BK340.out 1).trans rfl, (bqC BK340.out 2).trans rfl, (bqC BK340.out 3).trans rfl, (bqC BK340.out 4).trans rfl, ((HB.out.cell (World.block_lt_of_cell? w _ hw343_0)).trans hw343_0), ((HB.out.cell (World.block_lt_of_cell? w _ hw343_1)).trans hw343_1), ((HB.out.cell (World.block_lt_of_cell? w _ hw343_2)).trans hw343_2), ((HB.out.cell (World.block_lt_of_cell? w _ hw343_3)).trans hw343_3)⟩ (fun hHeld => ?_); refine with_tabW liability_Sum.tab12 liability_Sum.bits12 (fun HT_ HW_ => ?_)
          generalize w23.drew = w24 at BK337 BK340 HB hx343_0 hx343_1 hx343_2 hx343_3 hHeld ⊢
          refine GS.pu 0 (some 41) HT_.out ?_
          refine GS.pu 3 (some 44) HT_.out ?_
          refine GS.pu 4 (some 45) HT_.out ?_
          refine GS.pu 5 (some 46) HT_.out ?_
          refine GS.tk 1 (some 42) HT_.out HW_.out hHeld ?_
          refine GS.tk 2 (some 43) HT_.out HW_.out hHeld ?_
          refine GS.tk 6 (some 47) HT_.out HW_.out hHeld ?_
          refine one_ (i := 7) (N := some 48) #[true, true, true, true, true, true, true, true, false, false] rfl rfl (one_of HT_.out (by kernel_rfl)) (by decide) (fun K hK => ?_)
          refine goes_ Try.func40 (by kernel_rfl) rfl #[.agg #[.int .i64 a0_0, .slice A0_1 l0_1.length c0_1], .agg #[.int .i64 ((rd_T35 l1 x28_1).f0), .int .i64 ((rd_T35 l1 x28_1).f1), .int .i64 ((rd_T35 l1 x28_1).f2), .int .i64 ((rd_T35 l1 x28_1).f3), .int .i64 ((rd_T35 l1 x28_1).f4)], .agg #[.int .i64 ((rd_T51 l2 x28_1).f0), .int .i64 ((rd_T51 l2 x28_1).f1), .int .i64 ((rd_T51 l2 x28_1).f2), .int .i64 ((rd_T51 l2 x28_1).f3)]] (by rfl) rfl rfl (by (try simp only [List.map_toArray, List.map_cons, List.map_nil]); first | done | rfl | (simp only [List.length_drop, List.length_take]; rfl)) ?_
          with_reducible refine (liability_causes.calls k1 a0_0 _ _ l0_1 ((rd_T35 l1 x28_1).f0) ((rd_T35 l1 x28_1).f1) ((rd_T35 l1 x28_1).f2) ((rd_T35 l1 x28_1).f3) ((rd_T35 l1 x28_1).f4) ((rd_T51 l2 x28_1).f0) ((rd_T51 l2 x28_1).f1) ((rd_T51 l2 x28_1).f2) ((rd_T51 l2 x28_1).f3) t344 _ ?side1 ?side2 A17.out).mono ?_
          (case side1 => exact GS.rC (Kd.C_below HR0_1.out HB.out))
          (case side2 => exact HC0_1.out)
          rintro e w25 ⟨rfl, hb⟩
          refine ⟨_, rfl, ?_⟩
          have n0_ := Aside0.mk (bqB (GS.bqX BK337.out) hb)
          have n1_ := Aside0.mk (bqB (GS.bqX BK340.out) hb)
          have n2_ := Aside0.mk (lqT (GS.lB HB.out) hb)
          clear BK337
          clear BK340
          clear HB
          have BK337 := n0_
          have BK340 := n1_
          have HB := n2_
          clear n0_ n1_ n2_
          (try clear hb)
          (try clear hb2)
          (try clear hk)
          (try clear hi)
          refine hK.out _ _ ⟨(bqC BK337.out 0).trans rfl, (bqC BK337.out 1).trans rfl, (bqC BK340.out 0).trans rfl, (bqC BK340.out 1).trans rfl, (bqC BK340.out 2).trans rfl, (bqC BK340.out 3).trans rfl, (bqC BK340.out 4).trans rfl, ((HB.out.cell (World.block_lt_of_cell? w _ hw343_0)).trans hw343_0), ((HB.out.cell (World.block_lt_of_cell? w _ hw343_1)).trans hw343_1), ((HB.out.cell (World.block_lt_of_cell? w _ hw343_2)).trans hw343_2), ((HB.out.cell (World.block_lt_of_cell? w _ hw343_3)).trans hw343_3)⟩ (fun hHeld => ?_)
          clear hK K
          refine norm_ (a' := ?_) ?_ ?_
          rotate_left
          ·show Act.put _ (some 48) _ = _
           simp only [Act.put, List.setIfInBounds_toArray, List.set_cons_zero, List.set_cons_succ, i64_w, i32_w]
           rfl
          refine GS.pu 8 (some 49) HT_.out ?_
          refine GS.pu 9 (some 11) HT_.out ?_
          refine done_ (done_of HT_.out (by kernel_rfl)) ?_
          try go_wp2
          go_roundg k1
          case measure => have := HK1.out; omega
          case rel => exact ⟨(wrap64 (x11_1 + t344)), (wrap64 (x28_1 + 1)), (by first | rfl | (simp; done) | (simp [*]; done)), (by first | rfl | (simp; done) | (simp [*]; done)), H', ⟨by have := HK1.out; omega⟩, ⟨GS.bqX BK337.out⟩, ⟨GS.lB HB.out⟩⟩
         ·replace c16 := Bool.eq_false_iff.mpr c16
          subst c16
          have H1 : (some (0, 10)) = some (r1, r2) := by rw [if_neg (show ¬ (false = true) by decide)] at H; exact H
          clear H
          have H := H1
          clear H1
          simp only [Option.some.injEq, Prod.mk.injEq] at H
          obtain ⟨rfl, rfl⟩ := H
          have p339 : 0 ≤ (x28_1 : Int) := of_decide_eq_true (by first | (with_reducible assumption) | assumption)
          have q339 : x28_1 < (l1.length : Int) := of_decide_eq_true (by first | (with_reducible assumption) | assumption)
          obtain ⟨ad339, e339, hx339_0, hx339_1, hx339_2, hx339_3, hx339_4⟩ := at_T35 HR1.out x28_1 p339 q339
          cases e339
          replace hx339_0 := (HB.out.cell (World.block_lt_of_cell? w _ hx339_0)).trans hx339_0
          replace hx339_1 := (HB.out.cell (World.block_lt_of_cell? w _ hx339_1)).trans hx339_1
          replace hx339_2 := (HB.out.cell (World.block_lt_of_cell? w _ hx339_2)).trans hx339_2
          replace hx339_3 := (HB.out.cell (World.block_lt_of_cell? w _ hx339_3)).trans hx339_3
          replace hx339_4 := (HB.out.cell (World.block_lt_of_cell? w _ hx339_4)).trans hx339_4
          replace p339 := eq_true p339
          replace q339 := eq_true q339
          try go_wp2_with (first | ((with_reducible refine gqD (N := 13) rfl ?_); refine GS.bx (N := 13) (cs := #[.int .i64 0, .int .i64 0, .int .i64 0, .int .i64 0, .int .i64 0]) (t := 35) ?_; intro gb340 hg w26 hbox hb; have n0_ := Aside0.mk (bqB (GS.bqX BK337.out) hb); have n1_ := Aside0.mk (lqT (GS.lB HB.out) hb); have n2_ := Aside0.mk (hbox); have n3_ := Aside0.mk ((by rw [hg]; exact (lqZ (GS.lB HB.out)) : w.heap.size ≤ gb340)); have n4_ := Aside0.mk ((by rw [hg]; exact (lqZ (GS.lB HB.out)) : w.heap.size ≤ gb340)); have n5_ := Aside0.mk ((by rw [hg]; exact Nat.ne_of_lt (blk_lt (GS.bqX BK337.out)) : gb337 ≠ gb340)); have n6_ := Aside0.mk ((by rw [hg]; exact Nat.ne_of_gt (blk_lt (GS.bqX BK337.out)) : gb340 ≠ gb337)); clear BK337; clear HB; have BK337 := n0_; have HB := n1_; have BK340 := n2_; have GW340 := n3_; have GE340 := n4_; have NB337_340 := n5_; have NB340_337 := n6_; clear n0_ n1_ n2_ n3_ n4_ n5_ n6_; clear hb hbox hg; have hnb27 := NB340_337.out; have hnc27 := NB337_340.out; obtain ⟨hcz28_0, hcz28_1, hcz28_2, hcz28_3, hcz28_4, hfz28_0, hfz28_1, hfz28_2, hfz28_3, hfz28_4⟩ := GS.c5 BK340.out))
          have n0_ : Aside0 ((((((w26.setCell ⟨gb340, 0, none⟩ (.int .i64 ((rd_T35 l1 x28_1).f0))).setCell ⟨gb340, 1, none⟩ (.int .i64 ((rd_T35 l1 x28_1).f1))).setCell ⟨gb340, 2, none⟩ (.int .i64 ((rd_T35 l1 x28_1).f2))).setCell ⟨gb340, 3, none⟩ (.int .i64 ((rd_T35 l1 x28_1).f3))).setCell ⟨gb340, 4, none⟩ (.int .i64 ((rd_T35 l1 x28_1).f4))).heap[gb337]? = some (.cells #[.int .i64 a0_0, .slice A0_1 l0_1.length c0_1] 24 (0, 0))) := ⟨GS.bqX BK337.out⟩
          have n1_ : Aside0 ((((((w26.setCell ⟨gb340, 0, none⟩ (.int .i64 ((rd_T35 l1 x28_1).f0))).setCell ⟨gb340, 1, none⟩ (.int .i64 ((rd_T35 l1 x28_1).f1))).setCell ⟨gb340, 2, none⟩ (.int .i64 ((rd_T35 l1 x28_1).f2))).setCell ⟨gb340, 3, none⟩ (.int .i64 ((rd_T35 l1 x28_1).f3))).setCell ⟨gb340, 4, none⟩ (.int .i64 ((rd_T35 l1 x28_1).f4))).heap[gb340]? = some (.cells #[.int .i64 ((rd_T35 l1 x28_1).f0), .int .i64 ((rd_T35 l1 x28_1).f1), .int .i64 ((rd_T35 l1 x28_1).f2), .int .i64 ((rd_T35 l1 x28_1).f3), .int .i64 ((rd_T35 l1 x28_1).f4)] 35 (0, 0))) := ⟨GS.bqZ BK340.out⟩
          have n2_ : Aside0 (Below w.heap.size w (((((w26.setCell ⟨gb340, 0, none⟩ (.int .i64 ((rd_T35 l1 x28_1).f0))).setCell ⟨gb340, 1, none⟩ (.int .i64 ((rd_T35 l1 x28_1).f1))).setCell ⟨gb340, 2, none⟩ (.int .i64 ((rd_T35 l1 x28_1).f2))).setCell ⟨gb340, 3, none⟩ (.int .i64 ((rd_T35 l1 x28_1).f3))).setCell ⟨gb340, 4, none⟩ (.int .i64 ((rd_T35 l1 x28_1).f4)))) := ⟨GS.lB HB.out⟩
          (try clear BK337)
          (try clear BK340)
          (try clear HB)
          generalize (((((w26.setCell ⟨gb340, 0, none⟩ (.int .i64 ((rd_T35 l1 x28_1).f0))).setCell ⟨gb340, 1, none⟩ (.int .i64 ((rd_T35 l1 x28_1).f1))).setCell ⟨gb340, 2, none⟩ (.int .i64 ((rd_T35 l1 x28_1).f2))).setCell ⟨gb340, 3, none⟩ (.int .i64 ((rd_T35 l1 x28_1).f3))).setCell ⟨gb340, 4, none⟩ (.int .i64 ((rd_T35 l1 x28_1).f4))) = w29 at n0_ n1_ n2_ ⊢
          have BK337 := n0_
          have BK340 := n1_
          have HB := n2_
          clear n0_ n1_ n2_
          have n0_ := Aside0.mk (bqD BK337.out)
          have n1_ := Aside0.mk (bqD BK340.out)
          have n2_ := Aside0.mk (lqD HB.out)
          clear BK337
          clear BK340
          clear HB
          have BK337 := n0_
          have BK340 := n1_
          have HB := n2_
          clear n0_ n1_ n2_
          have p341 : 0 ≤ (x28_1 : Int) := of_decide_eq_true (by first | (with_reducible assumption) | assumption)
          have q341 : x28_1 < (l2.length : Int) := of_decide_eq_true (by first | (with_reducible assumption) | assumption)
          obtain ⟨ad341, e341, hx341_0, hx341_1, hx341_2, hx341_3⟩ := at_T51 HR2.out x28_1 p341 q341
          have hw341_3 := hx341_3
          have hw341_2 := hx341_2
          have hw341_1 := hx341_1
          have hw341_0 := hx341_0
          cases e341
          replace hx341_0 := (HB.out.cell (World.block_lt_of_cell? w _ hx341_0)).trans hx341_0
          replace hx341_1 := (HB.out.cell (World.block_lt_of_cell? w _ hx341_1)).trans hx341_1
          replace hx341_2 := (HB.out.cell (World.block_lt_of_cell? w _ hx341_2)).trans hx341_2
          replace hx341_3 := (HB.out.cell (World.block_lt_of_cell? w _ hx341_3)).trans hx341_3
          replace p341 := eq_true p341
          replace q341 := eq_true q341
          refine start_ (n := 8) (S := fun w' => w'.cell? ⟨gb340, 0, none⟩ = some (.int .i64 ((rd_T35 l1 x28_1).f0)) ∧ w'.cell? ⟨gb340, 1, none⟩ = some (.int .i64 ((rd_T35 l1 x28_1).f1)) ∧ w'.cell? ⟨gb340, 2, none⟩ = some (.int .i64 ((rd_T35 l1 x28_1).f2)) ∧ w'.cell? ⟨gb340, 3, none⟩ = some (.int .i64 ((rd_T35 l1 x28_1).f3)) ∧ w'.cell? ⟨gb340, 4, none⟩ = some (.int .i64 ((rd_T35 l1 x28_1).f4)) ∧ w'.cell? (ad341.add ((x28_1).toNat * 4)) = some (.int .i64 ((rd_T51 l2 x28_1).f0)) ∧ w'.cell? ⟨(ad341.add ((x28_1).toNat * 4)).block, (ad341.add ((x28_1).toNat * 4)).off + 1, none⟩ = some (.int .i64 ((rd_T51 l2 x28_1).f1)) ∧ w'.cell? ⟨(ad341.add ((x28_1).toNat * 4)).block, (ad341.add ((x28_1).toNat * 4)).off + 2, none⟩ = some (.int .i64 ((rd_T51 l2 x28_1).f2)) ∧ w'.cell? ⟨(ad341.add ((x28_1).toNat * 4)).block, (ad341.add ((x28_1).toNat * 4)).off + 3, none⟩ = some (.int .i64 ((rd_T51 l2 x28_1).f3))) (ds := []) #[false, false, false, false, false, false, false, false] (by kernel_rfl) rfl rfl ⟨(bqC BK340.out 0).trans rfl, (bqC BK340.out 1).trans rfl, (bqC BK340.out 2).trans rfl, (bqC BK340.out 3).trans rfl, (bqC BK340.out 4).trans rfl, ((HB.out.cell (World.block_lt_of_cell? w _ hw341_0)).trans hw341_0), ((HB.out.cell (World.block_lt_of_cell? w _ hw341_1)).trans hw341_1), ((HB.out.cell (World.block_lt_of_cell? w _ hw341_2)).trans hw341_2), ((HB.out.cell (World.block_lt_of_cell? w _ hw341_3)).trans hw341_3)⟩ (fun hHeld => ?_); refine with_tabW liability_Sum.tab10 liability_Sum.bits10 (fun HT_ HW_ => ?_)
          generalize w29.drew = w30 at BK337 BK340 HB hx341_0 hx341_1 hx341_2 hx341_3 hHeld ⊢
          refine GS.pu 1 (some 34) HT_.out ?_
          refine GS.pu 2 (some 35) HT_.out ?_
          refine GS.pu 3 (some 36) HT_.out ?_
          refine GS.pu 5 (some 38) HT_.out ?_
          refine GS.tk 0 (some 33) HT_.out HW_.out hHeld ?_
          refine GS.tk 4 (some 37) HT_.out HW_.out hHeld ?_
          refine one_ (i := 6) (N := some 39) #[true, true, true, true, true, true, true, false] rfl rfl (one_of HT_.out (by kernel_rfl)) (by decide) (fun K hK => ?_)
          refine goes_ Try.func26 (by kernel_rfl) rfl #[.agg #[.int .i64 ((rd_T35 l1 x28_1).f0), .int .i64 ((rd_T35 l1 x28_1).f1), .int .i64 ((rd_T35 l1 x28_1).f2), .int .i64 ((rd_T35 l1 x28_1).f3), .int .i64 ((rd_T35 l1 x28_1).f4)], .agg #[.int .i64 ((rd_T51 l2 x28_1).f0), .int .i64 ((rd_T51 l2 x28_1).f1), .int .i64 ((rd_T51 l2 x28_1).f2), .int .i64 ((rd_T51 l2 x28_1).f3)], .int .i64 a3] (by rfl) rfl rfl (by (try simp only [List.map_toArray, List.map_cons, List.map_nil]); first | done | rfl | (simp only [List.length_drop, List.length_take]; rfl)) ?_
          with_reducible refine (liability_Fits.calls k1 ((rd_T35 l1 x28_1).f0) ((rd_T35 l1 x28_1).f1) ((rd_T35 l1 x28_1).f2) ((rd_T35 l1 x28_1).f3) ((rd_T35 l1 x28_1).f4) ((rd_T51 l2 x28_1).f0) ((rd_T51 l2 x28_1).f1) ((rd_T51 l2 x28_1).f2) ((rd_T51 l2 x28_1).f3) a3 false _ A15.out).mono ?_
          rintro e w31 ⟨rfl, hb⟩
          refine ⟨_, rfl, ?_⟩
          have n0_ := Aside0.mk (bqB (GS.bqX BK337.out) hb)
          have n1_ := Aside0.mk (bqB (GS.bqX BK340.out) hb)
          have n2_ := Aside0.mk (lqT (GS.lB HB.out) hb)
          clear BK337
          clear BK340
          clear HB
          have BK337 := n0_
          have BK340 := n1_
          have HB := n2_
          clear n0_ n1_ n2_
          (try clear hb)
          (try clear hb2)
          (try clear hk)
          (try clear hi)
          refine hK.out _ _ ⟨(bqC BK340.out 0).trans rfl, (bqC BK340.out 1).trans rfl, (bqC BK340.out 2).trans rfl, (bqC BK340.out 3).trans rfl, (bqC BK340.out 4).trans rfl, ((HB.out.cell (World.block_lt_of_cell? w _ hw341_0)).trans hw341_0), ((HB.out.cell (World.block_lt_of_cell? w _ hw341_1)).trans hw341_1), ((HB.out.cell (World.block_lt_of_cell? w _ hw341_2)).trans hw341_2), ((HB.out.cell (World.block_lt_of_cell? w _ hw341_3)).trans hw341_3)⟩ (fun hHeld => ?_)
          clear hK K
          refine norm_ (a' := ?_) ?_ ?_
          rotate_left
          ·show Act.put _ (some 39) _ = _
           simp only [Act.put, List.setIfInBounds_toArray, List.set_cons_zero, List.set_cons_succ, i64_w, i32_w]
           rfl
          refine GS.pu 7 (some 40) HT_.out ?_
          refine done_ (done_of HT_.out (by kernel_rfl)) ?_
          try go_wp2
          go_ret2
          exact ⟨by first | rfl | (simp [errW_none, errW_some] <;> rfl) | (simp [*, errW_none, errW_some] <;> rfl), GS.lB HB.out⟩
        ·rw [if_neg c14] at H
         exact absurd H (by simp)
       ·rw [if_neg c13] at H
        exact absurd H (by simp)
      ·rw [if_neg c12] at H
       exact absurd H (by simp)
     ·rw [if_neg c11] at H
      have c11b0 : decide (x28_1 < (l1.length : Int)) = false := decide_eq_false c11
      clear c11
      simp only [Option.some.injEq, Prod.mk.injEq] at H
      obtain ⟨rfl, rfl⟩ := H
      go_wp2
      go_ret2
      exact ⟨by first | rfl | (simp [errW_none, errW_some] <;> rfl) | (simp [*, errW_none, errW_some] <;> rfl), GS.lB HB.out⟩
  ·rw [if_neg c7] at H
   have c7b0 : ((l2.length : Int) == (l1.length : Int)) = false := beq_eq_false_iff_ne.mpr c7
   try simp only [beq_self_eq_true, Bool.not_true, Bool.false_or, Bool.true_and] at c7b0
   have c7b1 : ((l2.length : Int) != (l1.length : Int)) = true := bne_iff_ne.mpr c7
   have c7b2 : (l2.length == l1.length) = false := by first | simpa using c7 | (simp at c7 ⊢; omega)
   simp only [Option.some.injEq, Prod.mk.injEq] at H
   obtain ⟨rfl, rfl⟩ := H
   go_enter Try.func21, Try.ntmps21
   go_wp2_with (first | ((with_reducible refine gqD (N := 4) rfl ?_); refine GS.bx (N := 4) (cs := #[.int .i64 a0_0, .slice A0_1 l0_1.length c0_1]) (t := 24) ?_; intro gb337 hg w32 hbox hb; have n0_ := Aside0.mk (lqT (GS.lB HB.out) hb); have n1_ := Aside0.mk (hbox); have n2_ := Aside0.mk ((by rw [hg]; exact (lqZ (GS.lB HB.out)) : w.heap.size ≤ gb337)); have n3_ := Aside0.mk ((by rw [hg]; exact (lqZ (GS.lB HB.out)) : w.heap.size ≤ gb337)); clear HB; have HB := n0_; have BK337 := n1_; have GW337 := n2_; have GE337 := n3_; clear n0_ n1_ n2_ n3_; clear hb hbox hg; obtain ⟨hcz33_0, hcz33_1, hfz33_0, hfz33_1⟩ := GS.c2 BK337.out) | ((with_reducible refine gqC (f := 37) rfl ?_); refine GS.gL (some 17) Try.func37 #[.agg #[.int .i64 a0_0, .slice A0_1 l0_1.length c0_1], .slice A1 l1.length c1, .int .i64 a3] ?_; (with_reducible refine (liability_sent.calls k a0_0 _ _ l0_1 _ _ l1 a3 t338 _ ?side1 ?side2 ?side3 ?side4 A5.out).mono ?_); (case side1 => exact GS.rC (Kd.C_below HR0_1.out HB.out)); (case side2 => exact HC0_1.out); (case side3 => exact GS.rC (Kd.C_below HR1.out HB.out)); (case side4 => exact HC1.out); rintro e w34 ⟨rfl, hb⟩; refine ⟨_, rfl, ?_⟩; have n0_ := Aside0.mk (bqB (GS.bqX BK337.out) hb); have n1_ := Aside0.mk (lqT (GS.lB HB.out) hb); clear BK337; clear HB; have BK337 := n0_; have HB := n1_; clear n0_ n1_; (try clear hb); (try clear hb2); (try clear hk); (try clear hi)))
   go_ret2
   exact ⟨by first | rfl | (simp [errW_none, errW_some] <;> rfl) | (simp [*, errW_none, errW_some] <;> rfl), GS.lB HB.out⟩
 ·rw [if_neg c6] at H
  have c6b0 : (t338 == 0) = false := beq_eq_false_iff_ne.mpr c6
  try simp only [beq_self_eq_true, Bool.not_true, Bool.false_or, Bool.true_and] at c6b0
  have c6b1 : (t338 != 0) = true := bne_iff_ne.mpr c6
  simp only [Option.some.injEq, Prod.mk.injEq] at H
  obtain ⟨rfl, rfl⟩ := H
  go_enter Try.func21, Try.ntmps21
  go_wp2_with (first | ((with_reducible refine gqD (N := 4) rfl ?_); refine GS.bx (N := 4) (cs := #[.int .i64 a0_0, .slice A0_1 l0_1.length c0_1]) (t := 24) ?_; intro gb337 hg w35 hbox hb; have n0_ := Aside0.mk (lqT (GS.lB HB.out) hb); have n1_ := Aside0.mk (hbox); have n2_ := Aside0.mk ((by rw [hg]; exact (lqZ (GS.lB HB.out)) : w.heap.size ≤ gb337)); have n3_ := Aside0.mk ((by rw [hg]; exact (lqZ (GS.lB HB.out)) : w.heap.size ≤ gb337)); clear HB; have HB := n0_; have BK337 := n1_; have GW337 := n2_; have GE337 := n3_; clear n0_ n1_ n2_ n3_; clear hb hbox hg; obtain ⟨hcz36_0, hcz36_1, hfz36_0, hfz36_1⟩ := GS.c2 BK337.out) | ((with_reducible refine gqC (f := 37) rfl ?_); refine GS.gL (some 17) Try.func37 #[.agg #[.int .i64 a0_0, .slice A0_1 l0_1.length c0_1], .slice A1 l1.length c1, .int .i64 a3] ?_; (with_reducible refine (liability_sent.calls k a0_0 _ _ l0_1 _ _ l1 a3 t338 _ ?side1 ?side2 ?side3 ?side4 A5.out).mono ?_); (case side1 => exact GS.rC (Kd.C_below HR0_1.out HB.out)); (case side2 => exact HC0_1.out); (case side3 => exact GS.rC (Kd.C_below HR1.out HB.out)); (case side4 => exact HC1.out); rintro e w37 ⟨rfl, hb⟩; refine ⟨_, rfl, ?_⟩; have n0_ := Aside0.mk (bqB (GS.bqX BK337.out) hb); have n1_ := Aside0.mk (lqT (GS.lB HB.out) hb); clear BK337; clear HB; have BK337 := n0_; have HB := n1_; clear n0_ n1_; (try clear hb); (try clear hb2); (try clear hk); (try clear hi)))
  go_ret2
  exact ⟨by first | rfl | (simp [errW_none, errW_some] <;> rfl) | (simp [*, errW_none, errW_some] <;> rfl), GS.lB HB.out⟩

/-! ### api_Outcome_24: function 24 -/
def api_Outcome_24.l0 : Nat → List (S51) → List (S51) → Int → Int → Option (Bool)
 | 0, _, _, _, _ => none
 | k + 1, x0, x1, x12, x13 => if x13 < x12 then (if 0 ≤ x13 then (if x13 < (x0.length : Int) then (if x13 < (x1.length : Int) then (if (!(((rd_T51 x0 x13).f0) == ((rd_T51 x1 x13).f0)) || (!(((rd_T51 x0 x13).f1) == ((rd_T51 x1 x13).f1)) || (!(((rd_T51 x0 x13).f2) == ((rd_T51 x1 x13).f2)) || (!(((rd_T51 x0 x13).f3) == ((rd_T51 x1 x13).f3)))))) = true then (some false) else (api_Outcome_24.l0 k x0 x1 x12 (wrap64 (x13 + 1)))) else (none)) else (none)) else (none)) else (some true)
def api_Outcome_24.f (k : Nat) (l0 : List (S51)) (l1 : List (S51)) : Option (Bool) := if (l0.length : Int) = (l1.length : Int) then (api_Outcome_24.l0 k l0 l1 (l0.length : Int) 0) else (some false)
theorem api_Outcome_24.mono_l : ∀ k, (∀ y0 y1 y2 y3, LeO (api_Outcome_24.l0 k y0 y1 y2 y3) (api_Outcome_24.l0 (k + 1) y0 y1 y2 y3))
 | 0 => fun _ _ _ _ r h => by simp [api_Outcome_24.l0] at h
 | k + 1 => by
  have ih0 := api_Outcome_24.mono_l k
  ·intro y0 y1 y2 y3
   unfold api_Outcome_24.l0
   repeat' first
   | (with_reducible exact ih0 _ _ _ _)
   | (with_reducible exact LeO.refl _)
   | (with_reducible exact LeO.none _)
   | (with_reducible refine LeO.ite ?_ ?_)
   | (with_reducible refine LeO.bind ?_ (fun _ => ?_))
   | exact ih0 _ _ _ _
   | exact LeO.none _
   | refine LeO.ite ?_ ?_
   | refine LeO.bind ?_ (fun _ => ?_)
theorem api_Outcome_24.mono : ∀ a0 a1 k, LeO (api_Outcome_24.f k a0 a1) (api_Outcome_24.f (k + 1) a0 a1) := by
 intro a0 a1 k
 have ih0 := api_Outcome_24.mono_l k
 unfold api_Outcome_24.f
 repeat' first
   | (with_reducible exact ih0 _ _ _ _)
   | (with_reducible exact LeO.refl _)
   | (with_reducible exact LeO.none _)
   | (with_reducible refine LeO.ite ?_ ?_)
   | (with_reducible refine LeO.bind ?_ (fun _ => ?_))
   | exact ih0 _ _ _ _
   | exact LeO.none _
   | refine LeO.ite ?_ ?_
   | refine LeO.bind ?_ (fun _ => ?_)
set_option maxHeartbeats 8000000 in
set_option maxRecDepth 100000 in
theorem api_Outcome_24.calls (k : Nat) (A0 : Option Addr) (c0 : Nat) (l0 : List (S51)) (A1 : Option Addr) (c1 : Nat) (l1 : List (S51)) (r : Bool) (w : World) (hr0 : Kd.C k51 w A0 l0.length l0) (hc0 : l0.length ≤ c0) (hr1 : Kd.C k51 w A1 l1.length l1) (hc1 : l1.length ≤ c1) (h : api_Outcome_24.f k l0 l1 = some r) :
  Calls Try.prog 24 #[.slice A0 l0.length c0, .slice A1 l1.length c1] w fun e w' => e = .returned (.bool r) ∧ Drawn0 w w' := by
 have hu51 := Try.underlying51
 have HR0 := Aside0.mk hr0
 have HC0 := Aside0.mk hc0
 clear hr0 hc0
 have HR1 := Aside0.mk hr1
 have HC1 := Aside0.mk hc1
 clear hr1 hc1
 have H : (if (l0.length : Int) = (l1.length : Int) then (api_Outcome_24.l0 k l0 l1 (l0.length : Int) 0) else (some false)) = some r := h
 clear h
 by_cases c3 : (l0.length : Int) = (l1.length : Int)
 ·rw [if_pos c3] at H
  have c3b0 : ((l0.length : Int) == (l1.length : Int)) = true := beq_iff_eq.mpr c3
  try simp only [beq_self_eq_true, Bool.not_true, Bool.false_or, Bool.true_and] at c3b0
  have c3b1 : ((l0.length : Int) != (l1.length : Int)) = false := bne_eq_false_iff_eq.mpr c3
  have c3b2 : (l0.length == l1.length) = true := by first | simpa using c3 | (simp at c3 ⊢; omega)
  clear c3
  have H' := Aside0.mk H
  clear H
  go_enter Try.func24, Try.ntmps24
  go_wp2
  repeat (go_quiet (fail); try go_wp2)
  go_loopg [13] k (fun kq v13 w' => ∃ (x13_1 : Int), v13 = .int .i64 x13_1 ∧ Aside0 (api_Outcome_24.l0 kq l0 l1 (l0.length : Int) x13_1 = some r) ∧ Aside0 (kq ≤ k) ∧ Drawn0 w w')
  case atStart => exact ⟨(0), (by first | rfl | (simp; done) | (simp [*]; done)), H', ⟨Nat.le_refl _⟩, by repeat (first | exact Drawn0.refl _ | apply Drawn0.step)⟩
  case round =>
   clear H'
   try clear c1
   try clear c2
   try clear p2
   try clear c3
   try clear c3b0
   try clear c3b1
   try clear c3b2
   obtain ⟨x13_1, rfl, HA, HK1, ⟨m1, rfl⟩⟩ := hrel
   cases gk with
   | zero => exact absurd HA.out (by simp [api_Outcome_24.l0])
   | succ k1 =>
    have H := HA.out
    clear HA
    simp only [api_Outcome_24.l0] at H
    by_cases c4 : x13_1 < (l0.length : Int)
    ·rw [if_pos c4] at H
     have c4b0 : decide (x13_1 < (l0.length : Int)) = true := decide_eq_true c4
     clear c4
     by_cases c5 : 0 ≤ x13_1
     ·rw [if_pos c5] at H
      have c5b0 : decide (0 ≤ x13_1) = true := decide_eq_true c5
      clear c5
      by_cases c6 : x13_1 < (l0.length : Int)
      ·rw [if_pos c6] at H
       have c6b0 : decide (x13_1 < (l0.length : Int)) = true := decide_eq_true c6
       clear c6
       by_cases c7 : x13_1 < (l1.length : Int)
       ·rw [if_pos c7] at H
        have c7b0 : decide (x13_1 < (l1.length : Int)) = true := decide_eq_true c7
        clear c7
        by_cases c8 : (!(((rd_T51 l0 x13_1).f0) == ((rd_T51 l1 x13_1).f0)) || (!(((rd_T51 l0 x13_1).f1) == ((rd_T51 l1 x13_1).f1)) || (!(((rd_T51 l0 x13_1).f2) == ((rd_T51 l1 x13_1).f2)) || (!(((rd_T51 l0 x13_1).f3) == ((rd_T51 l1 x13_1).f3)))))) = true
        ·rw [if_pos c8] at H
         have c8b0 : (!(((rd_T51 l0 x13_1).f0) == ((rd_T51 l1 x13_1).f0)) || (!(((rd_T51 l0 x13_1).f1) == ((rd_T51 l1 x13_1).f1)) || (!(((rd_T51 l0 x13_1).f2) == ((rd_T51 l1 x13_1).f2)) || (!(((rd_T51 l0 x13_1).f3) == ((rd_T51 l1 x13_1).f3)))))) = true := c8
         try simp only [beq_self_eq_true, Bool.not_true, Bool.false_or, Bool.true_and] at c8b0
         clear c8
         obtain rfl := Option.some.inj H
         have p345 : 0 ≤ (x13_1 : Int) := of_decide_eq_true (by first | (with_reducible assumption) | assumption)
         have q345 : x13_1 < (l0.length : Int) := of_decide_eq_true (by first | (with_reducible assumption) | assumption)
         obtain ⟨ad345, e345, hx345_0, hx345_1, hx345_2, hx345_3⟩ := at_T51 HR0.out x13_1 p345 q345
         cases e345
         replace p345 := eq_true p345
         replace q345 := eq_true q345
         have p346 : 0 ≤ (x13_1 : Int) := of_decide_eq_true (by first | (with_reducible assumption) | assumption)
         have q346 : x13_1 < (l1.length : Int) := of_decide_eq_true (by first | (with_reducible assumption) | assumption)
         obtain ⟨ad346, e346, hx346_0, hx346_1, hx346_2, hx346_3⟩ := at_T51 HR1.out x13_1 p346 q346
         cases e346
         replace p346 := eq_true p346
         replace q346 := eq_true q346
         go_wp2
         repeat (go_quiet (fail); try go_wp2)
         go_ret
         exact ⟨by first | rfl | (simp; done) | (simp [*]; done), by repeat (first | exact Drawn0.refl _ | apply Drawn0.step)⟩
        ·rw [if_neg c8] at H
         have c8b0 : (!(((rd_T51 l0 x13_1).f0) == ((rd_T51 l1 x13_1).f0)) || (!(((rd_T51 l0 x13_1).f1) == ((rd_T51 l1 x13_1).f1)) || (!(((rd_T51 l0 x13_1).f2) == ((rd_T51 l1 x13_1).f2)) || (!(((rd_T51 l0 x13_1).f3) == ((rd_T51 l1 x13_1).f3)))))) = false := by simpa using c8
         try simp only [beq_self_eq_true, Bool.not_true, Bool.false_or, Bool.true_and] at c8b0
         clear c8
         have H' := Aside0.mk H
         clear H
         have p345 : 0 ≤ (x13_1 : Int) := of_decide_eq_true (by first | (with_reducible assumption) | assumption)
         have q345 : x13_1 < (l0.length : Int) := of_decide_eq_true (by first | (with_reducible assumption) | assumption)
         obtain ⟨ad345, e345, hx345_0, hx345_1, hx345_2, hx345_3⟩ := at_T51 HR0.out x13_1 p345 q345
         cases e345
         replace p345 := eq_true p345
         replace q345 := eq_true q345
         have p346 : 0 ≤ (x13_1 : Int) := of_decide_eq_true (by first | (with_reducible assumption) | assumption)
         have q346 : x13_1 < (l1.length : Int) := of_decide_eq_true (by first | (with_reducible assumption) | assumption)
         obtain ⟨ad346, e346, hx346_0, hx346_1, hx346_2, hx346_3⟩ := at_T51 HR1.out x13_1 p346 q346
         cases e346
         replace p346 := eq_true p346
         replace q346 := eq_true q346
         go_wp2
         repeat (go_quiet (fail); try go_wp2)
         go_roundg k1
         case measure => have := HK1.out; omega
         case rel => exact ⟨(wrap64 (x13_1 + 1)), (by first | rfl | (simp; done) | (simp [*]; done)), H', ⟨by have := HK1.out; omega⟩, by repeat (first | exact Drawn0.refl _ | apply Drawn0.step)⟩
       ·rw [if_neg c7] at H
        exact absurd H (by simp)
      ·rw [if_neg c6] at H
       exact absurd H (by simp)
     ·rw [if_neg c5] at H
      exact absurd H (by simp)
    ·rw [if_neg c4] at H
     have c4b0 : decide (x13_1 < (l0.length : Int)) = false := decide_eq_false c4
     clear c4
     obtain rfl := Option.some.inj H
     go_wp2
     repeat (go_quiet (fail); try go_wp2)
     go_ret
     exact ⟨by first | rfl | (simp; done) | (simp [*]; done), by repeat (first | exact Drawn0.refl _ | apply Drawn0.step)⟩
 ·rw [if_neg c3] at H
  have c3b0 : ((l0.length : Int) == (l1.length : Int)) = false := beq_eq_false_iff_ne.mpr c3
  try simp only [beq_self_eq_true, Bool.not_true, Bool.false_or, Bool.true_and] at c3b0
  have c3b1 : ((l0.length : Int) != (l1.length : Int)) = true := bne_iff_ne.mpr c3
  have c3b2 : (l0.length == l1.length) = false := by first | simpa using c3 | (simp at c3 ⊢; omega)
  obtain rfl := Option.some.inj H
  go_enter Try.func24, Try.ntmps24
  go_wp2
  repeat (go_quiet (fail); try go_wp2)
  go_ret
  exact ⟨by first | rfl | (simp; done) | (simp [*]; done), by repeat (first | exact Drawn0.refl _ | apply Drawn0.step)⟩

/-! ### liability_Causes: function 25 -/
def liability_Causes.f (k : Nat) (a0_0 : Int) (l0_1 : List (S60)) (a1_0 : Int) (a1_1 : Int) (a1_2 : Int) (a1_3 : Int) (a1_4 : Int) (a2_0 : Int) (a2_1 : Int) (a2_2 : Int) (a2_3 : Int) (a3 : Int) : Option (Int × Int) := (liability_asks.f k a0_0 l0_1 (([(⟨a1_0, a1_1, a1_2, a1_3, a1_4⟩ : S35)] : List (S35))) a3).bind fun t353 => (if t353 = 0 then ((liability_Fits.f k a1_0 a1_1 a1_2 a1_3 a1_4 a2_0 a2_1 a2_2 a2_3 a3).bind fun t354 => (if t354 = true then ((liability_causes.f k a0_0 l0_1 a1_0 a1_1 a1_2 a1_3 a1_4 a2_0 a2_1 a2_2 a2_3).bind fun t355 => (some (t355, 0))) else (some (0, 10)))) else (some (0, t353)))
theorem liability_Causes.mono : ∀ a0 a1 a2 a3 a4 a5 a6 a7 a8 a9 a10 a11 k, LeO (liability_Causes.f k a0 a1 a2 a3 a4 a5 a6 a7 a8 a9 a10 a11) (liability_Causes.f (k + 1) a0 a1 a2 a3 a4 a5 a6 a7 a8 a9 a10 a11) := by
 intro a0 a1 a2 a3 a4 a5 a6 a7 a8 a9 a10 a11 k
 unfold liability_Causes.f
 repeat' first
   | (with_reducible exact liability_Fits.mono _ _ _ _ _ _ _ _ _ _ _)
   | (with_reducible exact liability_asks.mono _ _ _ _ _)
   | (with_reducible exact liability_causes.mono _ _ _ _ _ _ _ _ _ _ _ _)
   | (with_reducible exact LeO.refl _)
   | (with_reducible exact LeO.none _)
   | (with_reducible refine LeO.ite ?_ ?_)
   | (with_reducible refine LeO.bind ?_ (fun _ => ?_))
   | exact liability_Fits.mono _ _ _ _ _ _ _ _ _ _ _
   | exact liability_asks.mono _ _ _ _ _
   | exact liability_causes.mono _ _ _ _ _ _ _ _ _ _ _ _
   | exact LeO.none _
   | refine LeO.ite ?_ ?_
   | refine LeO.bind ?_ (fun _ => ?_)
set_option maxHeartbeats 8000000 in
set_option maxRecDepth 100000 in
theorem liability_Causes.calls (k : Nat) (a0_0 : Int) (A0_1 : Option Addr) (c0_1 : Nat) (l0_1 : List (S60)) (a1_0 : Int) (a1_1 : Int) (a1_2 : Int) (a1_3 : Int) (a1_4 : Int) (a2_0 : Int) (a2_1 : Int) (a2_2 : Int) (a2_3 : Int) (a3 : Int) (r1 : Int) (r2 : Int) (w : World) (hr0_1 : Kd.C k60 w A0_1 l0_1.length l0_1) (hc0_1 : l0_1.length ≤ c0_1) (h : liability_Causes.f k a0_0 l0_1 a1_0 a1_1 a1_2 a1_3 a1_4 a2_0 a2_1 a2_2 a2_3 a3 = some (r1, r2)) :
  Calls Try.prog 25 #[.agg #[.int .i64 a0_0, .slice A0_1 l0_1.length c0_1], .agg #[.int .i64 a1_0, .int .i64 a1_1, .int .i64 a1_2, .int .i64 a1_3, .int .i64 a1_4], .agg #[.int .i64 a2_0, .int .i64 a2_1, .int .i64 a2_2, .int .i64 a2_3], .int .i64 a3] w fun e w' => e = .returned (.tuple #[.int .i64 r1, .int .i64 r2]) ∧ Below w.heap.size w w' := by
 have hu24 := Try.underlying24
 have hu35 := Try.underlying35
 have hu51 := Try.underlying51
 have HR0_1 := Aside0.mk hr0_1
 have HC0_1 := Aside0.mk hc0_1
 clear hr0_1 hc0_1
 have HB := Aside0.mk (Below.refl w.heap.size w)
 have H : ((liability_asks.f k a0_0 l0_1 (([(⟨a1_0, a1_1, a1_2, a1_3, a1_4⟩ : S35)] : List (S35))) a3).bind fun t353 => (if t353 = 0 then ((liability_Fits.f k a1_0 a1_1 a1_2 a1_3 a1_4 a2_0 a2_1 a2_2 a2_3 a3).bind fun t354 => (if t354 = true then ((liability_causes.f k a0_0 l0_1 a1_0 a1_1 a1_2 a1_3 a1_4 a2_0 a2_1 a2_2 a2_3).bind fun t355 => (some (t355, 0))) else (some (0, 10)))) else (some (0, t353)))) = some (r1, r2) := h
 clear h
 obtain ⟨y350, hy350⟩ : ∃ y_ : List (S35), y_ = (([(⟨a1_0, a1_1, a1_2, a1_3, a1_4⟩ : S35)] : List (S35))) := ⟨_, rfl⟩
 replace H : ((liability_asks.f k a0_0 l0_1 y350 a3).bind fun t353 => (if t353 = 0 then ((liability_Fits.f k a1_0 a1_1 a1_2 a1_3 a1_4 a2_0 a2_1 a2_2 a2_3 a3).bind fun t354 => (if t354 = true then ((liability_causes.f k a0_0 l0_1 a1_0 a1_1 a1_2 a1_3 a1_4 a2_0 a2_1 a2_2 a2_3).bind fun t355 => (some (t355, 0))) else (some (0, 10)))) else (some (0, t353)))) = some (r1, r2) := by first | (rw [hy350]; with_reducible exact H) | (have H2_ := (Option.bind_some _ _).symm.trans H; rw [hy350]; with_reducible exact H2_) | (have H2_ := (Option.bind_some _ _).symm.trans H; with_reducible exact H2_) | with_reducible exact H | (rw [hy350]; exact H) | exact H
 have Ny350 := Aside0.mk hy350
 clear hy350
 replace H := Option.bind_eq_some_iff.mp H
 obtain ⟨t353, A50, H⟩ := H
 replace H : (if t353 = 0 then ((liability_Fits.f k a1_0 a1_1 a1_2 a1_3 a1_4 a2_0 a2_1 a2_2 a2_3 a3).bind fun t354 => (if t354 = true then ((liability_causes.f k a0_0 l0_1 a1_0 a1_1 a1_2 a1_3 a1_4 a2_0 a2_1 a2_2 a2_3).bind fun t355 => (some (t355, 0))) else (some (0, 10)))) else (some (0, t353))) = some (r1, r2) := H
 have A5 := Aside0.mk A50
 clear A50
 by_cases c6 : t353 = 0
 ·rw [if_pos c6] at H
  have c6b0 : (t353 == 0) = true := beq_iff_eq.mpr c6
  try simp only [beq_self_eq_true, Bool.not_true, Bool.false_or, Bool.true_and] at c6b0
  have c6b1 : (t353 != 0) = false := bne_eq_false_iff_eq.mpr c6
  clear c6
  replace H := Option.bind_eq_some_iff.mp H
  obtain ⟨t354, A70, H⟩ := H
  replace H : (if t354 = true then ((liability_causes.f k a0_0 l0_1 a1_0 a1_1 a1_2 a1_3 a1_4 a2_0 a2_1 a2_2 a2_3).bind fun t355 => (some (t355, 0))) else (some (0, 10))) = some (r1, r2) := H
  have A7 := Aside0.mk A70
  clear A70
  by_cases c8 : t354 = true
  ·subst c8
   have H1 : ((liability_causes.f k a0_0 l0_1 a1_0 a1_1 a1_2 a1_3 a1_4 a2_0 a2_1 a2_2 a2_3).bind fun t355 => (some (t355, 0))) = some (r1, r2) := by rw [if_pos rfl] at H; exact H
   clear H
   have H := H1
   clear H1
   replace H := Option.bind_eq_some_iff.mp H
   obtain ⟨t355, A90, H⟩ := H
   replace H : (some (t355, 0)) = some (r1, r2) := H
   have A9 := Aside0.mk A90
   clear A90
   simp only [Option.some.injEq, Prod.mk.injEq] at H
   obtain ⟨rfl, rfl⟩ := H
   go_enter Try.func25, Try.ntmps25
   go_wp2_with (first | ((with_reducible refine gqD (N := 4) rfl ?_); refine GS.bx (N := 4) (cs := #[.int .i64 a0_0, .slice A0_1 l0_1.length c0_1]) (t := 24) ?_; intro gb347 hg w10 hbox hb; have n0_ := Aside0.mk (lqT (GS.lB HB.out) hb); have n1_ := Aside0.mk (hbox); have n2_ := Aside0.mk ((by rw [hg]; exact (lqZ (GS.lB HB.out)) : w.heap.size ≤ gb347)); have n3_ := Aside0.mk ((by rw [hg]; exact (lqZ (GS.lB HB.out)) : w.heap.size ≤ gb347)); clear HB; have HB := n0_; have BK347 := n1_; have GW347 := n2_; have GE347 := n3_; clear n0_ n1_ n2_ n3_; clear hb hbox hg) | ((with_reducible refine gqD (N := 5) rfl ?_); refine GS.bx (N := 5) (cs := #[.int .i64 a1_0, .int .i64 a1_1, .int .i64 a1_2, .int .i64 a1_3, .int .i64 a1_4]) (t := 35) ?_; intro gb348 hg w11 hbox hb; have n0_ := Aside0.mk (bqB (GS.bqX BK347.out) hb); have n1_ := Aside0.mk (lqT (GS.lB HB.out) hb); have n2_ := Aside0.mk (hbox); have n3_ := Aside0.mk ((by rw [hg]; exact (lqZ (GS.lB HB.out)) : w.heap.size ≤ gb348)); have n4_ := Aside0.mk ((by rw [hg]; exact (lqZ (GS.lB HB.out)) : w.heap.size ≤ gb348)); have n5_ := Aside0.mk ((by rw [hg]; exact Nat.ne_of_lt (blk_lt (GS.bqX BK347.out)) : gb347 ≠ gb348)); have n6_ := Aside0.mk ((by rw [hg]; exact Nat.ne_of_gt (blk_lt (GS.bqX BK347.out)) : gb348 ≠ gb347)); clear BK347; clear HB; have BK347 := n0_; have HB := n1_; have BK348 := n2_; have GW348 := n3_; have GE348 := n4_; have NB347_348 := n5_; have NB348_347 := n6_; clear n0_ n1_ n2_ n3_ n4_ n5_ n6_; clear hb hbox hg) | ((with_reducible refine gqD (N := 6) rfl ?_); refine GS.bx (N := 6) (cs := #[.int .i64 a2_0, .int .i64 a2_1, .int .i64 a2_2, .int .i64 a2_3]) (t := 51) ?_; intro gb349 hg w12 hbox hb; have n0_ := Aside0.mk (bqB (GS.bqX BK347.out) hb); have n1_ := Aside0.mk (bqB (GS.bqX BK348.out) hb); have n2_ := Aside0.mk (lqT (GS.lB HB.out) hb); have n3_ := Aside0.mk (hbox); have n4_ := Aside0.mk ((by rw [hg]; exact (lqZ (GS.lB HB.out)) : w.heap.size ≤ gb349)); have n5_ := Aside0.mk ((by rw [hg]; exact (lqZ (GS.lB HB.out)) : w.heap.size ≤ gb349)); have n6_ := Aside0.mk ((by rw [hg]; exact Nat.ne_of_lt (blk_lt (GS.bqX BK347.out)) : gb347 ≠ gb349)); have n7_ := Aside0.mk ((by rw [hg]; exact Nat.ne_of_gt (blk_lt (GS.bqX BK347.out)) : gb349 ≠ gb347)); have n8_ := Aside0.mk ((by rw [hg]; exact Nat.ne_of_lt (blk_lt (GS.bqX BK348.out)) : gb348 ≠ gb349)); have n9_ := Aside0.mk ((by rw [hg]; exact Nat.ne_of_gt (blk_lt (GS.bqX BK348.out)) : gb349 ≠ gb348)); clear BK347; clear BK348; clear HB; have BK347 := n0_; have BK348 := n1_; have HB := n2_; have BK349 := n3_; have GW349 := n4_; have GE349 := n5_; have NB347_349 := n6_; have NB349_347 := n7_; have NB348_349 := n8_; have NB349_348 := n9_; clear n0_ n1_ n2_ n3_ n4_ n5_ n6_ n7_ n8_ n9_; clear hb hbox hg; have hnb13 := NB347_348.out; have hnc13 := NB348_347.out; have hnb14 := NB347_349.out; have hnc14 := NB349_347.out; obtain ⟨hcz15_0, hcz15_1, hfz15_0, hfz15_1⟩ := GS.c2 BK347.out; have hnb16 := NB348_349.out; have hnc16 := NB349_348.out; obtain ⟨hcz17_0, hcz17_1, hcz17_2, hcz17_3, hcz17_4, hfz17_0, hfz17_1, hfz17_2, hfz17_3, hfz17_4⟩ := GS.c5 BK348.out) | ((with_reducible refine gqD (N := 13) rfl ?_); refine Kd.R_lit k35 _ 35 ?hg (N := 13) ?hd (xs := ([(⟨a1_0, a1_1, a1_2, a1_3, a1_4⟩ : S35)] : List (S35))) (inner := [.int .i64 a1_0, .int .i64 a1_1, .int .i64 a1_2, .int .i64 a1_3, .int .i64 a1_4]) (ok := fun _ => True) (okp := fun _ => True) ?hr ?hp (fun _ hk => hk) trivial (Below.refl _ _) (Nat.le_refl _) (by simp) ?_; (case hd => rfl); (case hg => rfl); (case hr => first | (go_simp; done) | (go_simp; rfl)); (case hp => exact (Reps.c5 (show Kd.M k35 _ _ _ (⟨a1_0, a1_1, a1_2, a1_3, a1_4⟩ : S35) [.int .i64 a1_0, .int .i64 a1_1, .int .i64 a1_2, .int .i64 a1_3, .int .i64 a1_4] from (k35_mkM _ _ _ (⟨a1_0, a1_1, a1_2, a1_3, a1_4⟩ : S35) )) (Reps.none _ _))); intro v351 w18 ho19 hb hg_ hnew_; clear hg_ hnew_; (first | rw [← Ny350.out] at ho19 | (simp only [Int.reduceToNat] at ho19; rw [← Ny350.out] at ho19)); have n0_ := Aside0.mk (Kd.R_lower (Kd.R_newB ho19 (GS.bqX BK348.out)) (lqZ (GS.lB HB.out))); have n1_ := Aside0.mk (bqB (GS.bqX BK347.out) hb); have n2_ := Aside0.mk (bqB (GS.bqX BK348.out) hb); have n3_ := Aside0.mk (bqB (GS.bqX BK349.out) hb); have n4_ := Aside0.mk (lqT (GS.lB HB.out) hb); clear BK347; clear BK348; clear BK349; clear HB; have HO352 := n0_; have BK347 := n1_; have BK348 := n2_; have BK349 := n3_; have HB := n4_; clear n0_ n1_ n2_ n3_ n4_; clear hb ho19; obtain ⟨Ao20, co20, eo20⟩ := Kd.R_slice HO352.out; subst eo20) | ((with_reducible refine gqC (f := 30) rfl ?_); refine GS.gL (some 15) Try.func30 #[.agg #[.int .i64 a0_0, .slice A0_1 l0_1.length c0_1], .slice Ao20 y350.length co20, .int .i64 a3] ?_; (with_reducible refine (liability_asks.calls k a0_0 _ _ l0_1 _ _ y350 a3 t353 _ ?side1 ?side2 ?side3 ?side4 A5.out).mono ?_); (case side1 => exact GS.rC (Kd.C_below HR0_1.out HB.out)); (case side2 => exact HC0_1.out); (case side3 => repeat (first | exact (Kd.R_reads' HO352.out).2.2 | (with_reducible refine Kd.C_alloc ?_ _) | (with_reducible refine Kd.C_drewN ?_ _) | (with_reducible refine Kd.C_drew ?_))); (case side4 => exact (Kd.R_reads' HO352.out).2.1); rintro e w21 ⟨rfl, hb⟩; refine ⟨_, rfl, ?_⟩; have n0_ := Aside0.mk (Kd.R_below (GS.rR HO352.out) hb); have n1_ := Aside0.mk (bqB (GS.bqX BK347.out) hb); have n2_ := Aside0.mk (bqB (GS.bqX BK348.out) hb); have n3_ := Aside0.mk (bqB (GS.bqX BK349.out) hb); have n4_ := Aside0.mk (lqT (GS.lB HB.out) hb); clear HO352; clear BK347; clear BK348; clear BK349; clear HB; have HO352 := n0_; have BK347 := n1_; have BK348 := n2_; have BK349 := n3_; have HB := n4_; clear n0_ n1_ n2_ n3_ n4_; (try clear hb); (try clear hb2); (try clear hk); (try clear hi); obtain ⟨hcz22_0, hcz22_1, hcz22_2, hcz22_3, hcz22_4, hfz22_0, hfz22_1, hfz22_2, hfz22_3, hfz22_4⟩ := GS.c5 BK348.out; obtain ⟨hcz23_0, hcz23_1, hcz23_2, hcz23_3, hfz23_0, hfz23_1, hfz23_2, hfz23_3⟩ := GS.c4 BK349.out) | ((with_reducible refine gqC (f := 26) rfl ?_); refine GS.gL (some 24) Try.func26 #[.agg #[.int .i64 a1_0, .int .i64 a1_1, .int .i64 a1_2, .int .i64 a1_3, .int .i64 a1_4], .agg #[.int .i64 a2_0, .int .i64 a2_1, .int .i64 a2_2, .int .i64 a2_3], .int .i64 a3] ?_; (with_reducible refine (liability_Fits.calls k a1_0 a1_1 a1_2 a1_3 a1_4 a2_0 a2_1 a2_2 a2_3 a3 true _ A7.out).mono ?_); rintro e w24 ⟨rfl, hb⟩; refine ⟨_, rfl, ?_⟩; have n0_ := Aside0.mk (Kd.R_below (GS.rR HO352.out) hb); have n1_ := Aside0.mk (bqB (GS.bqX BK347.out) hb); have n2_ := Aside0.mk (bqB (GS.bqX BK348.out) hb); have n3_ := Aside0.mk (bqB (GS.bqX BK349.out) hb); have n4_ := Aside0.mk (lqT (GS.lB HB.out) hb); clear HO352; clear BK347; clear BK348; clear BK349; clear HB; have HO352 := n0_; have BK347 := n1_; have BK348 := n2_; have BK349 := n3_; have HB := n4_; clear n0_ n1_ n2_ n3_ n4_; (try clear hb); (try clear hb2); (try clear hk); (try clear hi); obtain ⟨hcz25_0, hcz25_1, hfz25_0, hfz25_1⟩ := GS.c2 BK347.out; obtain ⟨hcz26_0, hcz26_1, hcz26_2, hcz26_3, hcz26_4, hfz26_0, hfz26_1, hfz26_2, hfz26_3, hfz26_4⟩ := GS.c5 BK348.out; obtain ⟨hcz27_0, hcz27_1, hcz27_2, hcz27_3, hfz27_0, hfz27_1, hfz27_2, hfz27_3⟩ := GS.c4 BK349.out) | ((with_reducible refine gqC (f := 40) rfl ?_); refine GS.gL (some 29) Try.func40 #[.agg #[.int .i64 a0_0, .slice A0_1 l0_1.length c0_1], .agg #[.int .i64 a1_0, .int .i64 a1_1, .int .i64 a1_2, .int .i64 a1_3, .int .i64 a1_4], .agg #[.int .i64 a2_0, .int .i64 a2_1, .int .i64 a2_2, .int .i64 a2_3]] ?_; (with_reducible refine (liability_causes.calls k a0_0 _ _ l0_1 a1_0 a1_1 a1_2 a1_3 a1_4 a2_0 a2_1 a2_2 a2_3 t355 _ ?side1 ?side2 A9.out).mono ?_); (case side1 => exact GS.rC (Kd.C_below HR0_1.out HB.out)); (case side2 => exact HC0_1.out); rintro e w28 ⟨rfl, hb⟩; refine ⟨_, rfl, ?_⟩; have n0_ := Aside0.mk (Kd.R_below (GS.rR HO352.out) hb); have n1_ := Aside0.mk (bqB (GS.bqX BK347.out) hb); have n2_ := Aside0.mk (bqB (GS.bqX BK348.out) hb); have n3_ := Aside0.mk (bqB (GS.bqX BK349.out) hb); have n4_ := Aside0.mk (lqT (GS.lB HB.out) hb); clear HO352; clear BK347; clear BK348; clear BK349; clear HB; have HO352 := n0_; have BK347 := n1_; have BK348 := n2_; have BK349 := n3_; have HB := n4_; clear n0_ n1_ n2_ n3_ n4_; (try clear hb); (try clear hb2); (try clear hk); (try clear hi)))
   go_ret2
   exact ⟨by first | rfl | (simp [errW_none, errW_some] <;> rfl) | (simp [*, errW_none, errW_some] <;> rfl), GS.lB HB.out⟩
  ·replace c8 := Bool.eq_false_iff.mpr c8
   subst c8
   have H1 : (some (0, 10)) = some (r1, r2) := by rw [if_neg (show ¬ (false = true) by decide)] at H; exact H
   clear H
   have H := H1
   clear H1
   simp only [Option.some.injEq, Prod.mk.injEq] at H
   obtain ⟨rfl, rfl⟩ := H
   go_enter Try.func25, Try.ntmps25
   go_wp2_with (first | ((with_reducible refine gqD (N := 4) rfl ?_); refine GS.bx (N := 4) (cs := #[.int .i64 a0_0, .slice A0_1 l0_1.length c0_1]) (t := 24) ?_; intro gb347 hg w29 hbox hb; have n0_ := Aside0.mk (lqT (GS.lB HB.out) hb); have n1_ := Aside0.mk (hbox); have n2_ := Aside0.mk ((by rw [hg]; exact (lqZ (GS.lB HB.out)) : w.heap.size ≤ gb347)); have n3_ := Aside0.mk ((by rw [hg]; exact (lqZ (GS.lB HB.out)) : w.heap.size ≤ gb347)); clear HB; have HB := n0_; have BK347 := n1_; have GW347 := n2_; have GE347 := n3_; clear n0_ n1_ n2_ n3_; clear hb hbox hg) | ((with_reducible refine gqD (N := 5) rfl ?_); refine GS.bx (N := 5) (cs := #[.int .i64 a1_0, .int .i64 a1_1, .int .i64 a1_2, .int .i64 a1_3, .int .i64 a1_4]) (t := 35) ?_; intro gb348 hg w30 hbox hb; have n0_ := Aside0.mk (bqB (GS.bqX BK347.out) hb); have n1_ := Aside0.mk (lqT (GS.lB HB.out) hb); have n2_ := Aside0.mk (hbox); have n3_ := Aside0.mk ((by rw [hg]; exact (lqZ (GS.lB HB.out)) : w.heap.size ≤ gb348)); have n4_ := Aside0.mk ((by rw [hg]; exact (lqZ (GS.lB HB.out)) : w.heap.size ≤ gb348)); have n5_ := Aside0.mk ((by rw [hg]; exact Nat.ne_of_lt (blk_lt (GS.bqX BK347.out)) : gb347 ≠ gb348)); have n6_ := Aside0.mk ((by rw [hg]; exact Nat.ne_of_gt (blk_lt (GS.bqX BK347.out)) : gb348 ≠ gb347)); clear BK347; clear HB; have BK347 := n0_; have HB := n1_; have BK348 := n2_; have GW348 := n3_; have GE348 := n4_; have NB347_348 := n5_; have NB348_347 := n6_; clear n0_ n1_ n2_ n3_ n4_ n5_ n6_; clear hb hbox hg) | ((with_reducible refine gqD (N := 6) rfl ?_); refine GS.bx (N := 6) (cs := #[.int .i64 a2_0, .int .i64 a2_1, .int .i64 a2_2, .int .i64 a2_3]) (t := 51) ?_; intro gb349 hg w31 hbox hb; have n0_ := Aside0.mk (bqB (GS.bqX BK347.out) hb); have n1_ := Aside0.mk (bqB (GS.bqX BK348.out) hb); have n2_ := Aside0.mk (lqT (GS.lB HB.out) hb); have n3_ := Aside0.mk (hbox); have n4_ := Aside0.mk ((by rw [hg]; exact (lqZ (GS.lB HB.out)) : w.heap.size ≤ gb349)); have n5_ := Aside0.mk ((by rw [hg]; exact (lqZ (GS.lB HB.out)) : w.heap.size ≤ gb349)); have n6_ := Aside0.mk ((by rw [hg]; exact Nat.ne_of_lt (blk_lt (GS.bqX BK347.out)) : gb347 ≠ gb349)); have n7_ := Aside0.mk ((by rw [hg]; exact Nat.ne_of_gt (blk_lt (GS.bqX BK347.out)) : gb349 ≠ gb347)); have n8_ := Aside0.mk ((by rw [hg]; exact Nat.ne_of_lt (blk_lt (GS.bqX BK348.out)) : gb348 ≠ gb349)); have n9_ := Aside0.mk ((by rw [hg]; exact Nat.ne_of_gt (blk_lt (GS.bqX BK348.out)) : gb349 ≠ gb348)); clear BK347; clear BK348; clear HB; have BK347 := n0_; have BK348 := n1_; have HB := n2_; have BK349 := n3_; have GW349 := n4_; have GE349 := n5_; have NB347_349 := n6_; have NB349_347 := n7_; have NB348_349 := n8_; have NB349_348 := n9_; clear n0_ n1_ n2_ n3_ n4_ n5_ n6_ n7_ n8_ n9_; clear hb hbox hg; have hnb32 := NB347_348.out; have hnc32 := NB348_347.out; have hnb33 := NB347_349.out; have hnc33 := NB349_347.out; obtain ⟨hcz34_0, hcz34_1, hfz34_0, hfz34_1⟩ := GS.c2 BK347.out; have hnb35 := NB348_349.out; have hnc35 := NB349_348.out; obtain ⟨hcz36_0, hcz36_1, hcz36_2, hcz36_3, hcz36_4, hfz36_0, hfz36_1, hfz36_2, hfz36_3, hfz36_4⟩ := GS.c5 BK348.out) | ((with_reducible refine gqD (N := 13) rfl ?_); refine Kd.R_lit k35 _ 35 ?hg (N := 13) ?hd (xs := ([(⟨a1_0, a1_1, a1_2, a1_3, a1_4⟩ : S35)] : List (S35))) (inner := [.int .i64 a1_0, .int .i64 a1_1, .int .i64 a1_2, .int .i64 a1_3, .int .i64 a1_4]) (ok := fun _ => True) (okp := fun _ => True) ?hr ?hp (fun _ hk => hk) trivial (Below.refl _ _) (Nat.le_refl _) (by simp) ?_; (case hd => rfl); (case hg => rfl); (case hr => first | (go_simp; done) | (go_simp; rfl)); (case hp => exact (Reps.c5 (show Kd.M k35 _ _ _ (⟨a1_0, a1_1, a1_2, a1_3, a1_4⟩ : S35) [.int .i64 a1_0, .int .i64 a1_1, .int .i64 a1_2, .int .i64 a1_3, .int .i64 a1_4] from (k35_mkM _ _ _ (⟨a1_0, a1_1, a1_2, a1_3, a1_4⟩ : S35) )) (Reps.none _ _))); intro v351 w37 ho38 hb hg_ hnew_; clear hg_ hnew_; (first | rw [← Ny350.out] at ho38 | (simp only [Int.reduceToNat] at ho38; rw [← Ny350.out] at ho38)); have n0_ := Aside0.mk (Kd.R_lower (Kd.R_newB ho38 (GS.bqX BK348.out)) (lqZ (GS.lB HB.out))); have n1_ := Aside0.mk (bqB (GS.bqX BK347.out) hb); have n2_ := Aside0.mk (bqB (GS.bqX BK348.out) hb); have n3_ := Aside0.mk (bqB (GS.bqX BK349.out) hb); have n4_ := Aside0.mk (lqT (GS.lB HB.out) hb); clear BK347; clear BK348; clear BK349; clear HB; have HO352 := n0_; have BK347 := n1_; have BK348 := n2_; have BK349 := n3_; have HB := n4_; clear n0_ n1_ n2_ n3_ n4_; clear hb ho38; obtain ⟨Ao39, co39, eo39⟩ := Kd.R_slice HO352.out; subst eo39) | ((with_reducible refine gqC (f := 30) rfl ?_); refine GS.gL (some 15) Try.func30 #[.agg #[.int .i64 a0_0, .slice A0_1 l0_1.length c0_1], .slice Ao39 y350.length co39, .int .i64 a3] ?_; (with_reducible refine (liability_asks.calls k a0_0 _ _ l0_1 _ _ y350 a3 t353 _ ?side1 ?side2 ?side3 ?side4 A5.out).mono ?_); (case side1 => exact GS.rC (Kd.C_below HR0_1.out HB.out)); (case side2 => exact HC0_1.out); (case side3 => repeat (first | exact (Kd.R_reads' HO352.out).2.2 | (with_reducible refine Kd.C_alloc ?_ _) | (with_reducible refine Kd.C_drewN ?_ _) | (with_reducible refine Kd.C_drew ?_))); (case side4 => exact (Kd.R_reads' HO352.out).2.1); rintro e w40 ⟨rfl, hb⟩; refine ⟨_, rfl, ?_⟩; have n0_ := Aside0.mk (Kd.R_below (GS.rR HO352.out) hb); have n1_ := Aside0.mk (bqB (GS.bqX BK347.out) hb); have n2_ := Aside0.mk (bqB (GS.bqX BK348.out) hb); have n3_ := Aside0.mk (bqB (GS.bqX BK349.out) hb); have n4_ := Aside0.mk (lqT (GS.lB HB.out) hb); clear HO352; clear BK347; clear BK348; clear BK349; clear HB; have HO352 := n0_; have BK347 := n1_; have BK348 := n2_; have BK349 := n3_; have HB := n4_; clear n0_ n1_ n2_ n3_ n4_; (try clear hb); (try clear hb2); (try clear hk); (try clear hi); obtain ⟨hcz41_0, hcz41_1, hcz41_2, hcz41_3, hcz41_4, hfz41_0, hfz41_1, hfz41_2, hfz41_3, hfz41_4⟩ := GS.c5 BK348.out; obtain ⟨hcz42_0, hcz42_1, hcz42_2, hcz42_3, hfz42_0, hfz42_1, hfz42_2, hfz42_3⟩ := GS.c4 BK349.out) | ((with_reducible refine gqC (f := 26) rfl ?_); refine GS.gL (some 24) Try.func26 #[.agg #[.int .i64 a1_0, .int .i64 a1_1, .int .i64 a1_2, .int .i64 a1_3, .int .i64 a1_4], .agg #[.int .i64 a2_0, .int .i64 a2_1, .int .i64 a2_2, .int .i64 a2_3], .int .i64 a3] ?_; (with_reducible refine (liability_Fits.calls k a1_0 a1_1 a1_2 a1_3 a1_4 a2_0 a2_1 a2_2 a2_3 a3 false _ A7.out).mono ?_); rintro e w43 ⟨rfl, hb⟩; refine ⟨_, rfl, ?_⟩; have n0_ := Aside0.mk (Kd.R_below (GS.rR HO352.out) hb); have n1_ := Aside0.mk (bqB (GS.bqX BK347.out) hb); have n2_ := Aside0.mk (bqB (GS.bqX BK348.out) hb); have n3_ := Aside0.mk (bqB (GS.bqX BK349.out) hb); have n4_ := Aside0.mk (lqT (GS.lB HB.out) hb); clear HO352; clear BK347; clear BK348; clear BK349; clear HB; have HO352 := n0_; have BK347 := n1_; have BK348 := n2_; have BK349 := n3_; have HB := n4_; clear n0_ n1_ n2_ n3_ n4_; (try clear hb); (try clear hb2); (try clear hk); (try clear hi)))
   go_ret2
   exact ⟨by first | rfl | (simp [errW_none, errW_some] <;> rfl) | (simp [*, errW_none, errW_some] <;> rfl), GS.lB HB.out⟩
 ·rw [if_neg c6] at H
  have c6b0 : (t353 == 0) = false := beq_eq_false_iff_ne.mpr c6
  try simp only [beq_self_eq_true, Bool.not_true, Bool.false_or, Bool.true_and] at c6b0
  have c6b1 : (t353 != 0) = true := bne_iff_ne.mpr c6
  simp only [Option.some.injEq, Prod.mk.injEq] at H
  obtain ⟨rfl, rfl⟩ := H
  go_enter Try.func25, Try.ntmps25
  go_wp2_with (first | ((with_reducible refine gqD (N := 4) rfl ?_); refine GS.bx (N := 4) (cs := #[.int .i64 a0_0, .slice A0_1 l0_1.length c0_1]) (t := 24) ?_; intro gb347 hg w44 hbox hb; have n0_ := Aside0.mk (lqT (GS.lB HB.out) hb); have n1_ := Aside0.mk (hbox); have n2_ := Aside0.mk ((by rw [hg]; exact (lqZ (GS.lB HB.out)) : w.heap.size ≤ gb347)); have n3_ := Aside0.mk ((by rw [hg]; exact (lqZ (GS.lB HB.out)) : w.heap.size ≤ gb347)); clear HB; have HB := n0_; have BK347 := n1_; have GW347 := n2_; have GE347 := n3_; clear n0_ n1_ n2_ n3_; clear hb hbox hg) | ((with_reducible refine gqD (N := 5) rfl ?_); refine GS.bx (N := 5) (cs := #[.int .i64 a1_0, .int .i64 a1_1, .int .i64 a1_2, .int .i64 a1_3, .int .i64 a1_4]) (t := 35) ?_; intro gb348 hg w45 hbox hb; have n0_ := Aside0.mk (bqB (GS.bqX BK347.out) hb); have n1_ := Aside0.mk (lqT (GS.lB HB.out) hb); have n2_ := Aside0.mk (hbox); have n3_ := Aside0.mk ((by rw [hg]; exact (lqZ (GS.lB HB.out)) : w.heap.size ≤ gb348)); have n4_ := Aside0.mk ((by rw [hg]; exact (lqZ (GS.lB HB.out)) : w.heap.size ≤ gb348)); have n5_ := Aside0.mk ((by rw [hg]; exact Nat.ne_of_lt (blk_lt (GS.bqX BK347.out)) : gb347 ≠ gb348)); have n6_ := Aside0.mk ((by rw [hg]; exact Nat.ne_of_gt (blk_lt (GS.bqX BK347.out)) : gb348 ≠ gb347)); clear BK347; clear HB; have BK347 := n0_; have HB := n1_; have BK348 := n2_; have GW348 := n3_; have GE348 := n4_; have NB347_348 := n5_; have NB348_347 := n6_; clear n0_ n1_ n2_ n3_ n4_ n5_ n6_; clear hb hbox hg) | ((with_reducible refine gqD (N := 6) rfl ?_); refine GS.bx (N := 6) (cs := #[.int .i64 a2_0, .int .i64 a2_1, .int .i64 a2_2, .int .i64 a2_3]) (t := 51) ?_; intro gb349 hg w46 hbox hb; have n0_ := Aside0.mk (bqB (GS.bqX BK347.out) hb); have n1_ := Aside0.mk (bqB (GS.bqX BK348.out) hb); have n2_ := Aside0.mk (lqT (GS.lB HB.out) hb); have n3_ := Aside0.mk (hbox); have n4_ := Aside0.mk ((by rw [hg]; exact (lqZ (GS.lB HB.out)) : w.heap.size ≤ gb349)); have n5_ := Aside0.mk ((by rw [hg]; exact (lqZ (GS.lB HB.out)) : w.heap.size ≤ gb349)); have n6_ := Aside0.mk ((by rw [hg]; exact Nat.ne_of_lt (blk_lt (GS.bqX BK347.out)) : gb347 ≠ gb349)); have n7_ := Aside0.mk ((by rw [hg]; exact Nat.ne_of_gt (blk_lt (GS.bqX BK347.out)) : gb349 ≠ gb347)); have n8_ := Aside0.mk ((by rw [hg]; exact Nat.ne_of_lt (blk_lt (GS.bqX BK348.out)) : gb348 ≠ gb349)); have n9_ := Aside0.mk ((by rw [hg]; exact Nat.ne_of_gt (blk_lt (GS.bqX BK348.out)) : gb349 ≠ gb348)); clear BK347; clear BK348; clear HB; have BK347 := n0_; have BK348 := n1_; have HB := n2_; have BK349 := n3_; have GW349 := n4_; have GE349 := n5_; have NB347_349 := n6_; have NB349_347 := n7_; have NB348_349 := n8_; have NB349_348 := n9_; clear n0_ n1_ n2_ n3_ n4_ n5_ n6_ n7_ n8_ n9_; clear hb hbox hg; have hnb47 := NB347_348.out; have hnc47 := NB348_347.out; have hnb48 := NB347_349.out; have hnc48 := NB349_347.out; obtain ⟨hcz49_0, hcz49_1, hfz49_0, hfz49_1⟩ := GS.c2 BK347.out; have hnb50 := NB348_349.out; have hnc50 := NB349_348.out; obtain ⟨hcz51_0, hcz51_1, hcz51_2, hcz51_3, hcz51_4, hfz51_0, hfz51_1, hfz51_2, hfz51_3, hfz51_4⟩ := GS.c5 BK348.out) | ((with_reducible refine gqD (N := 13) rfl ?_); refine Kd.R_lit k35 _ 35 ?hg (N := 13) ?hd (xs := ([(⟨a1_0, a1_1, a1_2, a1_3, a1_4⟩ : S35)] : List (S35))) (inner := [.int .i64 a1_0, .int .i64 a1_1, .int .i64 a1_2, .int .i64 a1_3, .int .i64 a1_4]) (ok := fun _ => True) (okp := fun _ => True) ?hr ?hp (fun _ hk => hk) trivial (Below.refl _ _) (Nat.le_refl _) (by simp) ?_; (case hd => rfl); (case hg => rfl); (case hr => first | (go_simp; done) | (go_simp; rfl)); (case hp => exact (Reps.c5 (show Kd.M k35 _ _ _ (⟨a1_0, a1_1, a1_2, a1_3, a1_4⟩ : S35) [.int .i64 a1_0, .int .i64 a1_1, .int .i64 a1_2, .int .i64 a1_3, .int .i64 a1_4] from (k35_mkM _ _ _ (⟨a1_0, a1_1, a1_2, a1_3, a1_4⟩ : S35) )) (Reps.none _ _))); intro v351 w52 ho53 hb hg_ hnew_; clear hg_ hnew_; (first | rw [← Ny350.out] at ho53 | (simp only [Int.reduceToNat] at ho53; rw [← Ny350.out] at ho53)); have n0_ := Aside0.mk (Kd.R_lower (Kd.R_newB ho53 (GS.bqX BK348.out)) (lqZ (GS.lB HB.out))); have n1_ := Aside0.mk (bqB (GS.bqX BK347.out) hb); have n2_ := Aside0.mk (bqB (GS.bqX BK348.out) hb); have n3_ := Aside0.mk (bqB (GS.bqX BK349.out) hb); have n4_ := Aside0.mk (lqT (GS.lB HB.out) hb); clear BK347; clear BK348; clear BK349; clear HB; have HO352 := n0_; have BK347 := n1_; have BK348 := n2_; have BK349 := n3_; have HB := n4_; clear n0_ n1_ n2_ n3_ n4_; clear hb ho53; obtain ⟨Ao54, co54, eo54⟩ := Kd.R_slice HO352.out; subst eo54) | ((with_reducible refine gqC (f := 30) rfl ?_); refine GS.gL (some 15) Try.func30 #[.agg #[.int .i64 a0_0, .slice A0_1 l0_1.length c0_1], .slice Ao54 y350.length co54, .int .i64 a3] ?_; (with_reducible refine (liability_asks.calls k a0_0 _ _ l0_1 _ _ y350 a3 t353 _ ?side1 ?side2 ?side3 ?side4 A5.out).mono ?_); (case side1 => exact GS.rC (Kd.C_below HR0_1.out HB.out)); (case side2 => exact HC0_1.out); (case side3 => repeat (first | exact (Kd.R_reads' HO352.out).2.2 | (with_reducible refine Kd.C_alloc ?_ _) | (with_reducible refine Kd.C_drewN ?_ _) | (with_reducible refine Kd.C_drew ?_))); (case side4 => exact (Kd.R_reads' HO352.out).2.1); rintro e w55 ⟨rfl, hb⟩; refine ⟨_, rfl, ?_⟩; have n0_ := Aside0.mk (Kd.R_below (GS.rR HO352.out) hb); have n1_ := Aside0.mk (bqB (GS.bqX BK347.out) hb); have n2_ := Aside0.mk (bqB (GS.bqX BK348.out) hb); have n3_ := Aside0.mk (bqB (GS.bqX BK349.out) hb); have n4_ := Aside0.mk (lqT (GS.lB HB.out) hb); clear HO352; clear BK347; clear BK348; clear BK349; clear HB; have HO352 := n0_; have BK347 := n1_; have BK348 := n2_; have BK349 := n3_; have HB := n4_; clear n0_ n1_ n2_ n3_ n4_; (try clear hb); (try clear hb2); (try clear hk); (try clear hi)))
  go_ret2
  exact ⟨by first | rfl | (simp [errW_none, errW_some] <;> rfl) | (simp [*, errW_none, errW_some] <;> rfl), GS.lB HB.out⟩

end Go.Proofs.Ythboaobgipodiaa.K
