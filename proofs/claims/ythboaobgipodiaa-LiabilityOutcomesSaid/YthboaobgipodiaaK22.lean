-- PRINTED by print.py (a twelfth state) out of the translation. Not trusted: Lean checks it.
import Derived.Test.YthboaobgipodiaaK0
import Derived.Test.YthboaobgipodiaaGPu
import Derived.Test.YthboaobgipodiaaGShort
import Derived.Test.YthboaobgipodiaaK18
import Derived.Test.YthboaobgipodiaaK20
import Derived.Test.YthboaobgipodiaaK21
namespace Go.Proofs.Ythboaobgipodiaa.K
open Go.RowKit Go.Proofs.YthboaobgipodiaaW.PrintWords Go.Proofs.YthboaobgipodiaaW.PrintLast Go.Proofs.YthboaobgipodiaaW.PrintMore
attribute [local go_sem] max2_int min2_int max_two min_two max_three min_three max_four min_four   -- for this text's walks alone
set_option linter.unusedVariables false
set_option linter.unusedSimpArgs false

/-! ### spileref51_Witness: function 20 -/
def spileref51_Witness.l0 : Nat → List (S35) → Int → List (S51) → Int → Int → List (S60) → Option ((List (S51)) × Int)
 | 0, _, _, _, _, _, _ => none
 | k + 1, x1, x2, x9, x10, x568000, x568001 => if x10 < (x1.length : Int) then (if 0 ≤ x10 then ((spileref51_most.f k x568000 x568001 ((rd_T35 x1 x10).f0) ((rd_T35 x1 x10).f1) ((rd_T35 x1 x10).f2) ((rd_T35 x1 x10).f3) ((rd_T35 x1 x10).f4) x2).bind fun bt571 => (if x9.length < 4398046511104 then (spileref51_Witness.l0 k x1 x2 (x9 ++ [(⟨(rd_T35 x1 x10).f0, 3, (rd_T35 x1 x10).f4, bt571.2⟩ : S51)]) (wrap64 (x10 + 1)) x568000 x568001) else (none))) else (none)) else (some (x9, 0))
def spileref51_Witness.f (k : Nat) (a0_0 : Int) (l0_1 : List (S60)) (l1 : List (S35)) (a2 : Int) : Option ((List (S51)) × Int) := (spileref51_asked.f k a0_0 l0_1 l1 a2).bind fun t568 => (if t568 = 0 then ((spileref51_later.f k l1 a2).bind fun t569 => (if t569 = true then (some (([] : List (S51)), 11)) else (spileref51_Witness.l0 k l1 a2 ([] : List (S51)) 0 a0_0 l0_1))) else (some (([] : List (S51)), t568)))
theorem spileref51_Witness.mono_l : ∀ k, (∀ y0 y1 y2 y3 y4 y5, LeO (spileref51_Witness.l0 k y0 y1 y2 y3 y4 y5) (spileref51_Witness.l0 (k + 1) y0 y1 y2 y3 y4 y5))
 | 0 => fun _ _ _ _ _ _ r h => by simp [spileref51_Witness.l0] at h
 | k + 1 => by
  have ih0 := spileref51_Witness.mono_l k
  ·intro y0 y1 y2 y3 y4 y5
   unfold spileref51_Witness.l0
   repeat' first
   | (with_reducible exact ih0 _ _ _ _ _ _)
   | (with_reducible exact spileref51_asked.mono _ _ _ _ _)
   | (with_reducible exact spileref51_later.mono _ _ _)
   | (with_reducible exact spileref51_most.mono _ _ _ _ _ _ _ _ _)
   | (with_reducible exact LeO.refl _)
   | (with_reducible exact LeO.none _)
   | (with_reducible refine LeO.ite ?_ ?_)
   | (with_reducible refine LeO.bind ?_ (fun _ => ?_))
   | exact ih0 _ _ _ _ _ _
   | exact spileref51_asked.mono _ _ _ _ _
   | exact spileref51_later.mono _ _ _
   | exact spileref51_most.mono _ _ _ _ _ _ _ _ _
   | exact LeO.none _
   | refine LeO.ite ?_ ?_
   | refine LeO.bind ?_ (fun _ => ?_)
theorem spileref51_Witness.mono : ∀ a0 a1 a2 a3 k, LeO (spileref51_Witness.f k a0 a1 a2 a3) (spileref51_Witness.f (k + 1) a0 a1 a2 a3) := by
 intro a0 a1 a2 a3 k
 have ih0 := spileref51_Witness.mono_l k
 unfold spileref51_Witness.f
 repeat' first
   | (with_reducible exact ih0 _ _ _ _ _ _)
   | (with_reducible exact spileref51_asked.mono _ _ _ _ _)
   | (with_reducible exact spileref51_later.mono _ _ _)
   | (with_reducible exact spileref51_most.mono _ _ _ _ _ _ _ _ _)
   | (with_reducible exact LeO.refl _)
   | (with_reducible exact LeO.none _)
   | (with_reducible refine LeO.ite ?_ ?_)
   | (with_reducible refine LeO.bind ?_ (fun _ => ?_))
   | exact ih0 _ _ _ _ _ _
   | exact spileref51_asked.mono _ _ _ _ _
   | exact spileref51_later.mono _ _ _
   | exact spileref51_most.mono _ _ _ _ _ _ _ _ _
   | exact LeO.none _
   | refine LeO.ite ?_ ?_
   | refine LeO.bind ?_ (fun _ => ?_)
def spileref51_Witness.T10 : Bool × List (List Nat × List Nat) := (true, [([], []), ([], []), ([], []), ([1, 2], [1, 2]), ([3], [3]), ([], []), ([0, 4, 5], [0, 4, 5]), ([6], [6]), ([7], [7]), ([7], [7]), ([8, 6, 0, 1, 2, 3, 4, 5, 6, 7, 8], [8]), ([9, 10, 0, 1, 2, 3, 4, 5, 6, 7, 8, 9, 10], [9])])
def spileref51_Witness.B10 : List Nat := [0, 0, 0, 6, 14, 0, 63, 127, 255, 255, 511, 2047]
theorem spileref51_Witness.tab10 : rtab .any (opsOf Try.f20 10) = spileref51_Witness.T10 := by kernel_rfl
theorem spileref51_Witness.bits10 : waitsOk spileref51_Witness.T10.2 spileref51_Witness.B10 = true := by kernel_rfl
def spileref51_Witness.T11 : Bool × List (List Nat × List Nat) := (true, [([], []), ([], []), ([], []), ([1, 2], [1, 2]), ([3], [3]), ([4], [4]), ([], []), ([], []), ([6, 7], [6, 7]), ([8], [8]), ([9], [9]), ([], []), ([5, 10, 11], [5, 10, 11]), ([12], [12]), ([0, 13], [0, 13]), ([14, 14, 0, 1, 2, 3, 4, 5, 6, 7, 8, 9, 10, 11, 12, 13, 14], [0, 14])])
def spileref51_Witness.B11 : List Nat := [0, 0, 0, 6, 14, 30, 0, 0, 192, 448, 960, 0, 4094, 8190, 16383, 32767]
theorem spileref51_Witness.tab11 : rtab .any (opsOf Try.f20 11) = spileref51_Witness.T11 := by kernel_rfl
theorem spileref51_Witness.bits11 : waitsOk spileref51_Witness.T11.2 spileref51_Witness.B11 = true := by kernel_rfl
set_option maxHeartbeats 8000000 in
set_option maxRecDepth 100000 in
theorem spileref51_Witness.calls (k : Nat) (a0_0 : Int) (A0_1 : Option Addr) (c0_1 : Nat) (l0_1 : List (S60)) (A1 : Option Addr) (c1 : Nat) (l1 : List (S35)) (a2 : Int) (r1 : List (S51)) (r2 : Int) (w : World) (hr0_1 : Kd.C k60 w A0_1 l0_1.length l0_1) (hc0_1 : l0_1.length ≤ c0_1) (hr1 : Kd.C k35 w A1 l1.length l1) (hc1 : l1.length ≤ c1) (h : spileref51_Witness.f k a0_0 l0_1 l1 a2 = some (r1, r2)) :
  Calls Try.prog 20 #[.agg #[.int .i64 a0_0, .slice A0_1 l0_1.length c0_1], .slice A1 l1.length c1, .int .i64 a2] w fun e w' => ∃ v0_ : Value, e = .returned (.tuple #[v0_, .int .i64 r2]) ∧ Kd.R k51 51 w' w.heap.size (fun _ => True) v0_ r1 ∧ Below w.heap.size w w' := by
 have hu24 := Try.underlying24
 have hu35 := Try.underlying35
 have hu51 := Try.underlying51
 have HR0_1 := Aside0.mk hr0_1
 have HC0_1 := Aside0.mk hc0_1
 clear hr0_1 hc0_1
 have HR1 := Aside0.mk hr1
 have HC1 := Aside0.mk hc1
 clear hr1 hc1
 have HB := Aside0.mk (Below.refl w.heap.size w)
 have H : ((spileref51_asked.f k a0_0 l0_1 l1 a2).bind fun t568 => (if t568 = 0 then ((spileref51_later.f k l1 a2).bind fun t569 => (if t569 = true then (some (([] : List (S51)), 11)) else (spileref51_Witness.l0 k l1 a2 ([] : List (S51)) 0 a0_0 l0_1))) else (some (([] : List (S51)), t568)))) = some (r1, r2) := h
 clear h
 replace H := Option.bind_eq_some_iff.mp H
 obtain ⟨t568, A40, H⟩ := H
 replace H : (if t568 = 0 then ((spileref51_later.f k l1 a2).bind fun t569 => (if t569 = true then (some (([] : List (S51)), 11)) else (spileref51_Witness.l0 k l1 a2 ([] : List (S51)) 0 a0_0 l0_1))) else (some (([] : List (S51)), t568))) = some (r1, r2) := H
 have A4 := Aside0.mk A40
 clear A40
 by_cases c5 : t568 = 0
 ·rw [if_pos c5] at H
  have c5b0 : (t568 == 0) = true := beq_iff_eq.mpr c5
  try simp only [beq_self_eq_true, Bool.not_true, Bool.false_or, Bool.true_and] at c5b0
  have c5b1 : (t568 != 0) = false := bne_eq_false_iff_eq.mpr c5
  clear c5
  replace H := Option.bind_eq_some_iff.mp H
  obtain ⟨t569, A60, H⟩ := H
  replace H : (if t569 = true then (some (([] : List (S51)), 11)) else (spileref51_Witness.l0 k l1 a2 ([] : List (S51)) 0 a0_0 l0_1)) = some (r1, r2) := H
  have A6 := Aside0.mk A60
  clear A60
  by_cases c7 : t569 = true
  ·subst c7
   have H1 : (some (([] : List (S51)), 11)) = some (r1, r2) := by rw [if_pos rfl] at H; exact H
   clear H
   have H := H1
   clear H1
   simp only [Option.some.injEq, Prod.mk.injEq] at H
   obtain ⟨rfl, rfl⟩ := H
   go_enter Try.func20, Try.ntmps20
   go_wp2_with (first | ((with_reducible refine gqD (N := 3) rfl ?_); refine GS.bx (N := 3) (cs := #[.int .i64 a0_0, .slice A0_1 l0_1.length c0_1]) (t := 24) ?_; intro gb567 hg w8 hbox hb; have n0_ := Aside0.mk (lqT (GS.lB HB.out) hb); have n1_ := Aside0.mk (hbox); have n2_ := Aside0.mk ((by rw [hg]; exact (lqZ (GS.lB HB.out)) : w.heap.size ≤ gb567)); have n3_ := Aside0.mk ((by rw [hg]; exact (lqZ (GS.lB HB.out)) : w.heap.size ≤ gb567)); clear HB; have HB := n0_; have BK567 := n1_; have GW567 := n2_; have GE567 := n3_; clear n0_ n1_ n2_ n3_; clear hb hbox hg; obtain ⟨hcz9_0, hcz9_1, hfz9_0, hfz9_1⟩ := GS.c2 BK567.out) | ((with_reducible refine gqC (f := 33) rfl ?_); refine GS.gL (some 16) Try.func33 #[.agg #[.int .i64 a0_0, .slice A0_1 l0_1.length c0_1], .slice A1 l1.length c1, .int .i64 a2] ?_; (with_reducible refine (spileref51_asked.calls k a0_0 _ _ l0_1 _ _ l1 a2 t568 _ ?side1 ?side2 ?side3 ?side4 A4.out).mono ?_); (case side1 => exact GS.rC (Kd.C_below HR0_1.out HB.out)); (case side2 => exact HC0_1.out); (case side3 => exact GS.rC (Kd.C_below HR1.out HB.out)); (case side4 => exact HC1.out); rintro e w10 ⟨rfl, hb⟩; refine ⟨_, rfl, ?_⟩; have n0_ := Aside0.mk (bqB (GS.bqX BK567.out) hb); have n1_ := Aside0.mk (lqT (GS.lB HB.out) hb); clear BK567; clear HB; have BK567 := n0_; have HB := n1_; clear n0_ n1_; (try clear hb); (try clear hb2); (try clear hk); (try clear hi)) | ((with_reducible refine gqC (f := 39) rfl ?_); refine GS.gL (some 22) Try.func39 #[.slice A1 l1.length c1, .int .i64 a2] ?_; (with_reducible refine (spileref51_later.calls k _ _ l1 a2 true _ ?side1 ?side2 A6.out).mono ?_); (case side1 => exact GS.rC (Kd.C_below HR1.out HB.out)); (case side2 => exact HC1.out); rintro e w' ⟨rfl, ⟨nd, rfl⟩⟩; refine ⟨_, rfl, ?_⟩))
   go_ret2
   exact ⟨_, by first | rfl | (simp [errW_none, errW_some] <;> rfl) | (simp [*, errW_none, errW_some] <;> rfl), by first | exact Kd.R_nil _ _ _ _ _ | exact Kd.N_nil _ _ _ _ _ | exact Kd.V_nil _ _ _ _ _ | exact Kd.Q_nil _ _ _ _ _ | exact Kd.S_nil _ _ _ _ _, GS.lB HB.out⟩
  ·replace c7 := Bool.eq_false_iff.mpr c7
   subst c7
   have H1 : (spileref51_Witness.l0 k l1 a2 ([] : List (S51)) 0 a0_0 l0_1) = some (r1, r2) := by rw [if_neg (show ¬ (false = true) by decide)] at H; exact H
   clear H
   have H := H1
   clear H1
   have H' := Aside0.mk H
   clear H
   go_enter Try.func20, Try.ntmps20
   go_wp2_with (first | ((with_reducible refine gqD (N := 3) rfl ?_); refine GS.bx (N := 3) (cs := #[.int .i64 a0_0, .slice A0_1 l0_1.length c0_1]) (t := 24) ?_; intro gb567 hg w11 hbox hb; have n0_ := Aside0.mk (lqT (GS.lB HB.out) hb); have n1_ := Aside0.mk (hbox); have n2_ := Aside0.mk ((by rw [hg]; exact (lqZ (GS.lB HB.out)) : w.heap.size ≤ gb567)); have n3_ := Aside0.mk ((by rw [hg]; exact (lqZ (GS.lB HB.out)) : w.heap.size ≤ gb567)); clear HB; have HB := n0_; have BK567 := n1_; have GW567 := n2_; have GE567 := n3_; clear n0_ n1_ n2_ n3_; clear hb hbox hg; obtain ⟨hcz12_0, hcz12_1, hfz12_0, hfz12_1⟩ := GS.c2 BK567.out) | ((with_reducible refine gqC (f := 33) rfl ?_); refine GS.gL (some 16) Try.func33 #[.agg #[.int .i64 a0_0, .slice A0_1 l0_1.length c0_1], .slice A1 l1.length c1, .int .i64 a2] ?_; (with_reducible refine (spileref51_asked.calls k a0_0 _ _ l0_1 _ _ l1 a2 t568 _ ?side1 ?side2 ?side3 ?side4 A4.out).mono ?_); (case side1 => exact GS.rC (Kd.C_below HR0_1.out HB.out)); (case side2 => exact HC0_1.out); (case side3 => exact GS.rC (Kd.C_below HR1.out HB.out)); (case side4 => exact HC1.out); rintro e w13 ⟨rfl, hb⟩; refine ⟨_, rfl, ?_⟩; have n0_ := Aside0.mk (bqB (GS.bqX BK567.out) hb); have n1_ := Aside0.mk (lqT (GS.lB HB.out) hb); clear BK567; clear HB; have BK567 := n0_; have HB := n1_; clear n0_ n1_; (try clear hb); (try clear hb2); (try clear hk); (try clear hi)) | ((with_reducible refine gqC (f := 39) rfl ?_); refine GS.gL (some 22) Try.func39 #[.slice A1 l1.length c1, .int .i64 a2] ?_; (with_reducible refine (spileref51_later.calls k _ _ l1 a2 false _ ?side1 ?side2 A6.out).mono ?_); (case side1 => exact GS.rC (Kd.C_below HR1.out HB.out)); (case side2 => exact HC1.out); rintro e w' ⟨rfl, ⟨nd, rfl⟩⟩; refine ⟨_, rfl, ?_⟩))
   go_loopg [9, 10] k (fun kq v9 v10 w' => ∃ (x9_1 : List (S51)) (x10_1 : Int), v10 = .int .i64 x10_1 ∧ Aside0 (spileref51_Witness.l0 kq l1 a2 x9_1 x10_1 a0_0 l0_1 = some (r1, r2)) ∧ Aside0 (kq ≤ k) ∧ Aside0 (Kd.R k51 51 w' w.heap.size (fun _ => True) v9 x9_1) ∧ Aside0 (w'.heap[gb567]? = some (.cells #[.int .i64 a0_0, (.slice A0_1 l0_1.length c0_1)] 24 (0, 0))) ∧ Aside0 (Below w.heap.size w w'))
   case atStart => exact ⟨(([] : List (S51))), (0), (by first | rfl | (simp; done) | (simp [*]; done)), H', ⟨Nat.le_refl _⟩, ⟨by first | exact Kd.R_nil _ _ _ _ _ | exact Kd.N_nil _ _ _ _ _ | exact Kd.V_nil _ _ _ _ _ | exact Kd.Q_nil _ _ _ _ _ | exact Kd.S_nil _ _ _ _ _⟩, ⟨GS.bqX BK567.out⟩, ⟨GS.lB HB.out⟩⟩
   case round =>
    clear H'
    try clear c1
    try clear c2
    try clear p2
    try clear c3
    try clear c5
    try clear c5b0
    try clear c5b1
    try clear c7
    try clear hcz12_0
    try clear hcz12_1
    try clear hcz9_0
    try clear hcz9_1
    try clear hfz12_0
    try clear hfz12_1
    try clear hfz9_0
    try clear hfz9_1
    obtain ⟨x9_1, x10_1, rfl, HA, HK1, HO_9, BK567, HB⟩ := hrel
    cases gk with
    | zero => exact absurd HA.out (by simp [spileref51_Witness.l0])
    | succ k1 =>
     have H := HA.out
     clear HA
     simp only [spileref51_Witness.l0] at H
     by_cases c14 : x10_1 < (l1.length : Int)
     ·rw [if_pos c14] at H
      have c14b0 : decide (x10_1 < (l1.length : Int)) = true := decide_eq_true c14
      clear c14
      by_cases c15 : 0 ≤ x10_1
      ·rw [if_pos c15] at H
       have c15b0 : decide (0 ≤ x10_1) = true := decide_eq_true c15
       clear c15
       replace H := Option.bind_eq_some_iff.mp H
       obtain ⟨⟨t571, t572⟩, A160, H⟩ := H
       replace H : (if x9_1.length < 4398046511104 then (spileref51_Witness.l0 k1 l1 a2 (x9_1 ++ [(⟨(rd_T35 l1 x10_1).f0, 3, (rd_T35 l1 x10_1).f4, t572⟩ : S51)]) (wrap64 (x10_1 + 1)) a0_0 l0_1) else (none)) = some (r1, r2) := H
       have A16 := Aside0.mk A160
       clear A160
       by_cases c17 : x9_1.length < 4398046511104
       ·rw [if_pos c17] at H
        have LMc17 := Aside0.mk c17
        clear c17
        obtain ⟨y575, hy575⟩ : ∃ y_ : List (S51), y_ = (x9_1 ++ [(⟨(rd_T35 l1 x10_1).f0, 3, (rd_T35 l1 x10_1).f4, t572⟩ : S51)]) := ⟨_, rfl⟩
        replace H : (spileref51_Witness.l0 k1 l1 a2 y575 (wrap64 (x10_1 + 1)) a0_0 l0_1) = some (r1, r2) := by first | (rw [hy575]; with_reducible exact H) | (have H2_ := (Option.bind_some _ _).symm.trans H; rw [hy575]; with_reducible exact H2_) | (have H2_ := (Option.bind_some _ _).symm.trans H; with_reducible exact H2_) | with_reducible exact H | (rw [hy575]; exact H) | exact H
        have Ny575 := Aside0.mk hy575
        clear hy575
        have H' := Aside0.mk H
        clear H
        try go_wp2
        have n0_ := Aside0.mk (Kd.R_drew HO_9.out)
        have n1_ := Aside0.mk (bqD BK567.out)
        have n2_ := Aside0.mk (lqD HB.out)
        clear HO_9
        clear BK567
        clear HB
        have HO_9 := n0_
        have BK567 := n1_
        have HB := n2_
        clear n0_ n1_ n2_
        have p570 : 0 ≤ (x10_1 : Int) := of_decide_eq_true (by first | (with_reducible assumption) | assumption)
        have q570 : x10_1 < (l1.length : Int) := of_decide_eq_true (by first | (with_reducible assumption) | assumption)
        obtain ⟨ad570, e570, hx570_0, hx570_1, hx570_2, hx570_3, hx570_4⟩ := at_T35 HR1.out x10_1 p570 q570
        have hw570_4 := hx570_4
        have hw570_3 := hx570_3
        have hw570_2 := hx570_2
        have hw570_1 := hx570_1
        have hw570_0 := hx570_0
        cases e570
        replace hx570_0 := (HB.out.cell (World.block_lt_of_cell? w _ hx570_0)).trans hx570_0
        replace hx570_1 := (HB.out.cell (World.block_lt_of_cell? w _ hx570_1)).trans hx570_1
        replace hx570_2 := (HB.out.cell (World.block_lt_of_cell? w _ hx570_2)).trans hx570_2
        replace hx570_3 := (HB.out.cell (World.block_lt_of_cell? w _ hx570_3)).trans hx570_3
        replace hx570_4 := (HB.out.cell (World.block_lt_of_cell? w _ hx570_4)).trans hx570_4
        replace p570 := eq_true p570
        replace q570 := eq_true q570
        refine start_ (n := 12) (S := fun w' => w'.cell? ⟨gb567, 0, none⟩ = some (.int .i64 a0_0) ∧ w'.cell? ⟨gb567, 1, none⟩ = some (.slice A0_1 l0_1.length c0_1) ∧ w'.cell? (ad570.add ((x10_1).toNat * 5)) = some (.int .i64 ((rd_T35 l1 x10_1).f0)) ∧ w'.cell? ⟨(ad570.add ((x10_1).toNat * 5)).block, (ad570.add ((x10_1).toNat * 5)).off + 1, none⟩ = some (.int .i64 ((rd_T35 l1 x10_1).f1)) ∧ w'.cell? ⟨(ad570.add ((x10_1).toNat * 5)).block, (ad570.add ((x10_1).toNat * 5)).off + 2, none⟩ = some (.int .i64 ((rd_T35 l1 x10_1).f2)) ∧ w'.cell? ⟨(ad570.add ((x10_1).toNat * 5)).block, (ad570.add ((x10_1).toNat * 5)).off + 3, none⟩ = some (.int .i64 ((rd_T35 l1 x10_1).f3)) ∧ w'.cell? ⟨(ad570.add ((x10_1).toNat * 5)).block, (ad570.add ((x10_1).toNat * 5)).off + 4, none⟩ = some (.int .i64 ((rd_T35 l1 x10_1).f4))) (ds := []) #[false, false, false, false, false, false, false, false, false, false, false, false] (by kernel_rfl) rfl rfl ⟨(bqC BK567.out 0).trans rfl, (bqC BK567.out 1).trans rfl, ((HB.out.cell (World.block_lt_of_cell? w _ hw570_0)).trans hw570_0), ((HB.out.cell (World.block_lt_of_cell? w _ hw570_1)).trans hw570_1), ((HB.out.cell (World.block_lt_of_cell? w _ hw570_2)).trans hw570_2), ((HB.out.cell (World.block_lt_of_cell? w _ hw570_3)).trans hw570_3), ((HB.out.cell (World.block_lt_of_cell? w _ hw570_4)).trans hw570_4)⟩ (fun hHeld => ?_); refine with_tabW spileref51_Witness.tab10 spileref51_Witness.bits10 (fun HT_ HW_ => ?_)
        generalize wr.drew = w18 at HO_9 BK567 HB hx570_0 hx570_1 hx570_2 hx570_3 hx570_4 hHeld ⊢
        refine GS.pu 1 (some 31) HT_.out ?_
        refine GS.pu 2 (some 32) HT_.out ?_
        refine GS.pu 3 (some 33) HT_.out ?_
        refine GS.pu 5 (some 35) HT_.out ?_
        refine GS.tk 0 (some 30) HT_.out HW_.out hHeld ?_
        refine GS.tk 4 (some 34) HT_.out HW_.out hHeld ?_
        refine one_ (i := 6) (N := some 36) #[true, true, true, true, true, true, true, false, false, false, false, false] rfl rfl (one_of HT_.out (by kernel_rfl)) (by decide) (fun K hK => ?_)
        refine goes_ Try.func34 (by kernel_rfl) rfl #[.agg #[.int .i64 a0_0, .slice A0_1 l0_1.length c0_1], .agg #[.int .i64 ((rd_T35 l1 x10_1).f0), .int .i64 ((rd_T35 l1 x10_1).f1), .int .i64 ((rd_T35 l1 x10_1).f2), .int .i64 ((rd_T35 l1 x10_1).f3), .int .i64 ((rd_T35 l1 x10_1).f4)], .int .i64 a2] (by rfl) rfl rfl (by (try simp only [List.map_toArray, List.map_cons, List.map_nil]); first | done | rfl | (simp only [List.length_drop, List.length_take]; rfl)) ?_
        with_reducible refine (spileref51_most.calls k1 a0_0 _ _ l0_1 ((rd_T35 l1 x10_1).f0) ((rd_T35 l1 x10_1).f1) ((rd_T35 l1 x10_1).f2) ((rd_T35 l1 x10_1).f3) ((rd_T35 l1 x10_1).f4) a2 t571 t572 _ ?side1 ?side2 A16.out).mono ?_
        (case side1 => exact GS.rC (Kd.C_below HR0_1.out HB.out))
        (case side2 => exact HC0_1.out)
        rintro e w19 ⟨rfl, hb⟩
        refine ⟨_, rfl, ?_⟩
        have n0_ := Aside0.mk (Kd.R_below (GS.rR HO_9.out) hb)
        have n1_ := Aside0.mk (bqB (GS.bqX BK567.out) hb)
        have n2_ := Aside0.mk (lqT (GS.lB HB.out) hb)
        clear HO_9
        clear BK567
        clear HB
        have HO_9 := n0_
        have BK567 := n1_
        have HB := n2_
        clear n0_ n1_ n2_
        (try clear hb)
        (try clear hb2)
        (try clear hk)
        (try clear hi)
        refine hK.out _ _ ⟨(bqC BK567.out 0).trans rfl, (bqC BK567.out 1).trans rfl, ((HB.out.cell (World.block_lt_of_cell? w _ hw570_0)).trans hw570_0), ((HB.out.cell (World.block_lt_of_cell? w _ hw570_1)).trans hw570_1), ((HB.out.cell (World.block_lt_of_cell? w _ hw570_2)).trans hw570_2), ((HB.out.cell (World.block_lt_of_cell? w _ hw570_3)).trans hw570_3), ((HB.out.cell (World.block_lt_of_cell? w _ hw570_4)).trans hw570_4)⟩ (fun hHeld => ?_)
        clear hK K
        refine norm_ (a' := ?_) ?_ ?_
        rotate_left
        ·show Act.put _ (some 36) _ = _
         simp only [Act.put, List.setIfInBounds_toArray, List.set_cons_zero, List.set_cons_succ, i64_w, i32_w]
         rfl
        refine GS.pu 7 (some 29) HT_.out ?_
        refine GS.pu 8 (some 37) HT_.out ?_
        refine GS.pu 9 (some 38) HT_.out ?_
        refine GS.pu 10 (some 11) HT_.out ?_
        refine GS.pu 11 (some 12) HT_.out ?_
        refine done_ (done_of HT_.out (by kernel_rfl)) ?_
        try go_wp2
        have n0_ := Aside0.mk (Kd.R_drew HO_9.out)
        have n1_ := Aside0.mk (bqD BK567.out)
        have n2_ := Aside0.mk (lqD HB.out)
        clear HO_9
        clear BK567
        clear HB
        have HO_9 := n0_
        have BK567 := n1_
        have HB := n2_
        clear n0_ n1_ n2_
        have p573 : 0 ≤ (x10_1 : Int) := of_decide_eq_true (by first | (with_reducible assumption) | assumption)
        have q573 : x10_1 < (l1.length : Int) := of_decide_eq_true (by first | (with_reducible assumption) | assumption)
        obtain ⟨ad573, e573, hx573_0, hx573_1, hx573_2, hx573_3, hx573_4⟩ := at_T35 HR1.out x10_1 p573 q573
        have hw573_4 := hx573_4
        have hw573_3 := hx573_3
        have hw573_2 := hx573_2
        have hw573_1 := hx573_1
        have hw573_0 := hx573_0
        obtain rfl : ad570 = ad573 := (by injection e573)
        replace hx573_0 := (HB.out.cell (World.block_lt_of_cell? w _ hx573_0)).trans hx573_0
        replace hx573_1 := (HB.out.cell (World.block_lt_of_cell? w _ hx573_1)).trans hx573_1
        replace hx573_2 := (HB.out.cell (World.block_lt_of_cell? w _ hx573_2)).trans hx573_2
        replace hx573_3 := (HB.out.cell (World.block_lt_of_cell? w _ hx573_3)).trans hx573_3
        replace hx573_4 := (HB.out.cell (World.block_lt_of_cell? w _ hx573_4)).trans hx573_4
        replace p573 := eq_true p573
        replace q573 := eq_true q573
        have p574 : 0 ≤ (x10_1 : Int) := of_decide_eq_true (by first | (with_reducible assumption) | assumption)
        have q574 : x10_1 < (l1.length : Int) := of_decide_eq_true (by first | (with_reducible assumption) | assumption)
        obtain ⟨ad574, e574, hx574_0, hx574_1, hx574_2, hx574_3, hx574_4⟩ := at_T35 HR1.out x10_1 p574 q574
        have hw574_4 := hx574_4
        have hw574_3 := hx574_3
        have hw574_2 := hx574_2
        have hw574_1 := hx574_1
        have hw574_0 := hx574_0
        obtain rfl : ad570 = ad574 := (by injection e574)
        replace hx574_0 := (HB.out.cell (World.block_lt_of_cell? w _ hx574_0)).trans hx574_0
        replace hx574_1 := (HB.out.cell (World.block_lt_of_cell? w _ hx574_1)).trans hx574_1
        replace hx574_2 := (HB.out.cell (World.block_lt_of_cell? w _ hx574_2)).trans hx574_2
        replace hx574_3 := (HB.out.cell (World.block_lt_of_cell? w _ hx574_3)).trans hx574_3
        replace hx574_4 := (HB.out.cell (World.block_lt_of_cell? w _ hx574_4)).trans hx574_4
        replace p574 := eq_true p574
        replace q574 := eq_true q574
        refine start_ (n := 16) (S := fun w' => w'.cell? (ad570.add ((x10_1).toNat * 5)) = some (.int .i64 ((rd_T35 l1 x10_1).f0)) ∧ w'.cell? ⟨(ad570.add ((x10_1).toNat * 5)).block, (ad570.add ((x10_1).toNat * 5)).off + 1, none⟩ = some (.int .i64 ((rd_T35 l1 x10_1).f1)) ∧ w'.cell? ⟨(ad570.add ((x10_1).toNat * 5)).block, (ad570.add ((x10_1).toNat * 5)).off + 2, none⟩ = some (.int .i64 ((rd_T35 l1 x10_1).f2)) ∧ w'.cell? ⟨(ad570.add ((x10_1).toNat * 5)).block, (ad570.add ((x10_1).toNat * 5)).off + 3, none⟩ = some (.int .i64 ((rd_T35 l1 x10_1).f3)) ∧ w'.cell? ⟨(ad570.add ((x10_1).toNat * 5)).block, (ad570.add ((x10_1).toNat * 5)).off + 4, none⟩ = some (.int .i64 ((rd_T35 l1 x10_1).f4)) ∧ w'.cell? (ad570.add ((x10_1).toNat * 5)) = some (.int .i64 ((rd_T35 l1 x10_1).f0)) ∧ w'.cell? ⟨(ad570.add ((x10_1).toNat * 5)).block, (ad570.add ((x10_1).toNat * 5)).off + 1, none⟩ = some (.int .i64 ((rd_T35 l1 x10_1).f1)) ∧ w'.cell? ⟨(ad570.add ((x10_1).toNat * 5)).block, (ad570.add ((x10_1).toNat * 5)).off + 2, none⟩ = some (.int .i64 ((rd_T35 l1 x10_1).f2)) ∧ w'.cell? ⟨(ad570.add ((x10_1).toNat * 5)).block, (ad570.add ((x10_1).toNat * 5)).off + 3, none⟩ = some (.int .i64 ((rd_T35 l1 x10_1).f3)) ∧ w'.cell? ⟨(ad570.add ((x10_1).toNat * 5)).block, (ad570.add ((x10_1).toNat * 5)).off + 4, none⟩ = some (.int .i64 ((rd_T35 l1 x10_1).f4))) (ds := []) #[false, false, false, false, false, false, false, false, false, false, false, false, false, false, false, false] (by kernel_rfl) rfl rfl ⟨((HB.out.cell (World.block_lt_of_cell? w _ hw573_0)).trans hw573_0), ((HB.out.cell (World.block_lt_of_cell? w _ hw573_1)).trans hw573_1), ((HB.out.cell (World.block_lt_of_cell? w _ hw573_2)).trans hw573_2), ((HB.out.cell (World.block_lt_of_cell? w _ hw573_3)).trans hw573_3), ((HB.out.cell (World.block_lt_of_cell? w _ hw573_4)).trans hw573_4), ((HB.out.cell (World.block_lt_of_cell? w _ hw574_0)).trans hw574_0), ((HB.out.cell (World.block_lt_of_cell? w _ hw574_1)).trans hw574_1), ((HB.out.cell (World.block_lt_of_cell? w _ hw574_2)).trans hw574_2), ((HB.out.cell (World.block_lt_of_cell? w _ hw574_3)).trans hw574_3), ((HB.out.cell (World.block_lt_of_cell? w _ hw574_4)).trans hw574_4)⟩ (fun hHeld => ?_); refine with_tabW spileref51_Witness.tab11 spileref51_Witness.bits11 (fun HT_ HW_ => ?_)
        generalize w19.drew = w20 at HO_9 BK567 HB hx573_0 hx573_1 hx573_2 hx573_3 hx573_4 hx574_0 hx574_1 hx574_2 hx574_3 hx574_4 hHeld ⊢
        refine GS.pu 0 (some 39) HT_.out ?_
        refine GS.pu 1 (some 40) HT_.out ?_
        refine GS.pu 2 (some 41) HT_.out ?_
        refine GS.pu 3 (some 42) HT_.out ?_
        refine GS.pu 4 (some 43) HT_.out ?_
        refine GS.pu 6 (some 45) HT_.out ?_
        refine GS.pu 7 (some 46) HT_.out ?_
        refine GS.pu 8 (some 47) HT_.out ?_
        refine GS.pu 9 (some 48) HT_.out ?_
        refine GS.pu 11 (some 50) HT_.out ?_
        refine GS.tk 5 (some 44) HT_.out HW_.out hHeld ?_
        refine GS.tk 10 (some 49) HT_.out HW_.out hHeld ?_
        refine GS.pu 12 (some 51) HT_.out ?_
        refine one_ (i := 13) (N := some 52) #[true, true, true, true, true, true, true, true, true, true, true, true, true, true, false, false] rfl rfl (one_of HT_.out (by kernel_rfl)) (by decide) (fun K hK => ?_)
        refine value_ (w1 := ?_) (v := ?_) (by rfl) rfl ?_ ?_
        rotate_left 2
        ·go_simp
         constructor
         ·rfl
         ·rfl
        refine hK.out _ _ ⟨(World.cell?_alloc_lt _ _ _ (World.block_lt_of_cell? _ _ (((HB.out.cell (World.block_lt_of_cell? w _ hw573_0)).trans hw573_0)))).trans (((HB.out.cell (World.block_lt_of_cell? w _ hw573_0)).trans hw573_0)), (World.cell?_alloc_lt _ _ _ (World.block_lt_of_cell? _ _ (((HB.out.cell (World.block_lt_of_cell? w _ hw573_1)).trans hw573_1)))).trans (((HB.out.cell (World.block_lt_of_cell? w _ hw573_1)).trans hw573_1)), (World.cell?_alloc_lt _ _ _ (World.block_lt_of_cell? _ _ (((HB.out.cell (World.block_lt_of_cell? w _ hw573_2)).trans hw573_2)))).trans (((HB.out.cell (World.block_lt_of_cell? w _ hw573_2)).trans hw573_2)), (World.cell?_alloc_lt _ _ _ (World.block_lt_of_cell? _ _ (((HB.out.cell (World.block_lt_of_cell? w _ hw573_3)).trans hw573_3)))).trans (((HB.out.cell (World.block_lt_of_cell? w _ hw573_3)).trans hw573_3)), (World.cell?_alloc_lt _ _ _ (World.block_lt_of_cell? _ _ (((HB.out.cell (World.block_lt_of_cell? w _ hw573_4)).trans hw573_4)))).trans (((HB.out.cell (World.block_lt_of_cell? w _ hw573_4)).trans hw573_4)), (World.cell?_alloc_lt _ _ _ (World.block_lt_of_cell? _ _ (((HB.out.cell (World.block_lt_of_cell? w _ hw574_0)).trans hw574_0)))).trans (((HB.out.cell (World.block_lt_of_cell? w _ hw574_0)).trans hw574_0)), (World.cell?_alloc_lt _ _ _ (World.block_lt_of_cell? _ _ (((HB.out.cell (World.block_lt_of_cell? w _ hw574_1)).trans hw574_1)))).trans (((HB.out.cell (World.block_lt_of_cell? w _ hw574_1)).trans hw574_1)), (World.cell?_alloc_lt _ _ _ (World.block_lt_of_cell? _ _ (((HB.out.cell (World.block_lt_of_cell? w _ hw574_2)).trans hw574_2)))).trans (((HB.out.cell (World.block_lt_of_cell? w _ hw574_2)).trans hw574_2)), (World.cell?_alloc_lt _ _ _ (World.block_lt_of_cell? _ _ (((HB.out.cell (World.block_lt_of_cell? w _ hw574_3)).trans hw574_3)))).trans (((HB.out.cell (World.block_lt_of_cell? w _ hw574_3)).trans hw574_3)), (World.cell?_alloc_lt _ _ _ (World.block_lt_of_cell? _ _ (((HB.out.cell (World.block_lt_of_cell? w _ hw574_4)).trans hw574_4)))).trans (((HB.out.cell (World.block_lt_of_cell? w _ hw574_4)).trans hw574_4))⟩ (fun hHeld => ?_)
        clear hK K
        refine norm_ (a' := ?_) ?_ ?_
        rotate_left
        ·show Act.put _ (some 52) _ = _
         simp only [Act.put, List.setIfInBounds_toArray, List.set_cons_zero, List.set_cons_succ, i64_w, i32_w]
         rfl
        refine one_ (i := 14) (N := some 53) #[true, true, true, true, true, true, true, true, true, true, true, true, true, true, true, false] rfl rfl (one_of HT_.out (by kernel_rfl)) (by decide) (fun K hK => ?_)
        refine Kd.R_append_step k51 (w0 := w) w.heap.size (by rfl) (.tmp 39) (.tmp 52) 44 51 (.agg #[(.int .i64 0), (.int .i64 0), (.int .i64 0), (.int .i64 0)]) 32 rfl Try.underlying44 info51 rfl (by decide) (by omega) u9 x9_1 (⟨(rd_T35 l1 x10_1).f0, 3, (rd_T35 l1 x10_1).f4, t572⟩ : S51) [.int .i64 ((rd_T35 l1 x10_1).f0), .int .i64 3, .int .i64 ((rd_T35 l1 x10_1).f4), .int .i64 t572] (fun _ => True) (fun _ => False) rfl rfl ?aP (fun _ hk => hk.elim) ?aF ?aO ?aB ?aS ?aL ?_
        (case aP => exact k51_mkM _ _ _ (⟨(rd_T35 l1 x10_1).f0, 3, (rd_T35 l1 x10_1).f4, t572⟩ : S51))
        (case aB => exact (GS.lB HB.out))
        (case aF => exact (fun _ _ => trivial))
        (case aO => exact (GS.rR HO_9.out))
        (case aS => exact (lqZ (GS.lB HB.out)))
        (case aL => have := LMc17.out; omega)
        intro v576 w21 ho hb hg hat
        rw [← Ny575.out] at ho
        have n0_ := Aside0.mk (blk_grown (GS.bqX BK567.out) hg (Kd.R_ne HO_9.out BK567.out (by decide)))
        have n1_ := Aside0.mk (hb)
        have n2_ := Aside0.mk (ho)
        clear BK567
        clear HB
        clear HO_9
        have BK567 := n0_
        have HB := n1_
        have HO577 := n2_
        clear n0_ n1_ n2_
        clear ho hb hg hat
        refine hK.out _ _ ⟨((HB.out.cell (World.block_lt_of_cell? w _ hw573_0)).trans hw573_0), ((HB.out.cell (World.block_lt_of_cell? w _ hw573_1)).trans hw573_1), ((HB.out.cell (World.block_lt_of_cell? w _ hw573_2)).trans hw573_2), ((HB.out.cell (World.block_lt_of_cell? w _ hw573_3)).trans hw573_3), ((HB.out.cell (World.block_lt_of_cell? w _ hw573_4)).trans hw573_4), ((HB.out.cell (World.block_lt_of_cell? w _ hw574_0)).trans hw574_0), ((HB.out.cell (World.block_lt_of_cell? w _ hw574_1)).trans hw574_1), ((HB.out.cell (World.block_lt_of_cell? w _ hw574_2)).trans hw574_2), ((HB.out.cell (World.block_lt_of_cell? w _ hw574_3)).trans hw574_3), ((HB.out.cell (World.block_lt_of_cell? w _ hw574_4)).trans hw574_4)⟩ (fun hHeld => ?_)
        clear hK K
        refine norm_ (a' := ?_) ?_ ?_
        rotate_left
        ·show Act.put _ (some 53) _ = _
         simp only [Act.put, List.setIfInBounds_toArray, List.set_cons_zero, List.set_cons_succ, i64_w, i32_w]
         rfl
        refine GS.pu 15 (some 9) HT_.out ?_
        refine done_ (done_of HT_.out (by kernel_rfl)) ?_
        try go_wp2
        go_roundg k1
        case measure => have := HK1.out; omega
        case rel => exact ⟨(y575), (wrap64 (x10_1 + 1)), (by first | rfl | (simp; done) | (simp [*]; done)), H', ⟨by have := HK1.out; omega⟩, ⟨by (with_reducible repeat (first | apply Kd.R_alloc | apply Kd.R_drewN | apply Kd.R_drew)); exact HO577.out⟩, ⟨GS.bqX BK567.out⟩, ⟨GS.lB HB.out⟩⟩
       ·rw [if_neg c17] at H
        exact absurd H (by simp)
      ·rw [if_neg c15] at H
       exact absurd H (by simp)
     ·rw [if_neg c14] at H
      have c14b0 : decide (x10_1 < (l1.length : Int)) = false := decide_eq_false c14
      clear c14
      simp only [Option.some.injEq, Prod.mk.injEq] at H
      obtain ⟨rfl, rfl⟩ := H
      go_wp2
      go_ret2
      exact ⟨_, by first | rfl | (simp [errW_none, errW_some] <;> rfl) | (simp [*, errW_none, errW_some] <;> rfl), by (with_reducible repeat (first | apply Kd.R_alloc | apply Kd.R_drewN | apply Kd.R_drew)); exact HO_9.out, GS.lB HB.out⟩
 ·rw [if_neg c5] at H
  have c5b0 : (t568 == 0) = false := beq_eq_false_iff_ne.mpr c5
  try simp only [beq_self_eq_true, Bool.not_true, Bool.false_or, Bool.true_and] at c5b0
  have c5b1 : (t568 != 0) = true := bne_iff_ne.mpr c5
  simp only [Option.some.injEq, Prod.mk.injEq] at H
  obtain ⟨rfl, rfl⟩ := H
  go_enter Try.func20, Try.ntmps20
  go_wp2_with (first | ((with_reducible refine gqD (N := 3) rfl ?_); refine GS.bx (N := 3) (cs := #[.int .i64 a0_0, .slice A0_1 l0_1.length c0_1]) (t := 24) ?_; intro gb567 hg w22 hbox hb; have n0_ := Aside0.mk (lqT (GS.lB HB.out) hb); have n1_ := Aside0.mk (hbox); have n2_ := Aside0.mk ((by rw [hg]; exact (lqZ (GS.lB HB.out)) : w.heap.size ≤ gb567)); have n3_ := Aside0.mk ((by rw [hg]; exact (lqZ (GS.lB HB.out)) : w.heap.size ≤ gb567)); clear HB; have HB := n0_; have BK567 := n1_; have GW567 := n2_; have GE567 := n3_; clear n0_ n1_ n2_ n3_; clear hb hbox hg; obtain ⟨hcz23_0, hcz23_1, hfz23_0, hfz23_1⟩ := GS.c2 BK567.out) | ((with_reducible refine gqC (f := 33) rfl ?_); refine GS.gL (some 16) Try.func33 #[.agg #[.int .i64 a0_0, .slice A0_1 l0_1.length c0_1], .slice A1 l1.length c1, .int .i64 a2] ?_; (with_reducible refine (spileref51_asked.calls k a0_0 _ _ l0_1 _ _ l1 a2 t568 _ ?side1 ?side2 ?side3 ?side4 A4.out).mono ?_); (case side1 => exact GS.rC (Kd.C_below HR0_1.out HB.out)); (case side2 => exact HC0_1.out); (case side3 => exact GS.rC (Kd.C_below HR1.out HB.out)); (case side4 => exact HC1.out); rintro e w24 ⟨rfl, hb⟩; refine ⟨_, rfl, ?_⟩; have n0_ := Aside0.mk (bqB (GS.bqX BK567.out) hb); have n1_ := Aside0.mk (lqT (GS.lB HB.out) hb); clear BK567; clear HB; have BK567 := n0_; have HB := n1_; clear n0_ n1_; (try clear hb); (try clear hb2); (try clear hk); (try clear hi)))
  go_ret2
  exact ⟨_, by first | rfl | (simp [errW_none, errW_some] <;> rfl) | (simp [*, errW_none, errW_some] <;> rfl), by first | exact Kd.R_nil _ _ _ _ _ | exact Kd.N_nil _ _ _ _ _ | exact Kd.V_nil _ _ _ _ _ | exact Kd.Q_nil _ _ _ _ _ | exact Kd.S_nil _ _ _ _ _, GS.lB HB.out⟩

-- GIVEN: function 22 (api_Outcome_22)

/-! ### spileref51_Fits: function 41 -/
def spileref51_Fits.j0 : Nat → Bool → Int → Int → Int → Int → Int → Int → Int → Int → Int → Option (Bool)
 | 0, _, _, _, _, _, _, _, _, _, _ => none
 | k + 1, x20, x579000, x579001, x579002, x579003, x579004, x580000, x580001, x580002, x580003 => if x20 = true then (some false) else (if x580001 = 1 then (some (x580002 == 0)) else (if x580001 = 2 then (if x580002 ≥ 1 then (some (decide (x580002 < x579004))) else (some false)) else (if x580001 = 3 then (some (x580002 == x579004)) else (some false))))
def spileref51_Fits.f (k : Nat) (a0_0 : Int) (a0_1 : Int) (a0_2 : Int) (a0_3 : Int) (a0_4 : Int) (a1_0 : Int) (a1_1 : Int) (a1_2 : Int) (a1_3 : Int) (a2 : Int) : Option (Bool) := if a1_0 = a0_0 then ((spileref51_between.f a1_3 a0_3 a2).bind fun t580 => (spileref51_Fits.j0 k (!t580) a0_0 a0_1 a0_2 a0_3 a0_4 a1_0 a1_1 a1_2 a1_3)) else (spileref51_Fits.j0 k true a0_0 a0_1 a0_2 a0_3 a0_4 a1_0 a1_1 a1_2 a1_3)
theorem spileref51_Fits.mono_l : ∀ k, (∀ y0 y1 y2 y3 y4 y5 y6 y7 y8 y9, LeO (spileref51_Fits.j0 k y0 y1 y2 y3 y4 y5 y6 y7 y8 y9) (spileref51_Fits.j0 (k + 1) y0 y1 y2 y3 y4 y5 y6 y7 y8 y9))
 | 0 => fun _ _ _ _ _ _ _ _ _ _ r h => by simp [spileref51_Fits.j0] at h
 | k + 1 => by
  have ih0 := spileref51_Fits.mono_l k
  ·intro y0 y1 y2 y3 y4 y5 y6 y7 y8 y9
   unfold spileref51_Fits.j0
   repeat' first
   | (with_reducible exact ih0 _ _ _ _ _ _ _ _ _ _)
   | (with_reducible exact LeO.refl _)
   | (with_reducible exact LeO.none _)
   | (with_reducible refine LeO.ite ?_ ?_)
   | (with_reducible refine LeO.bind ?_ (fun _ => ?_))
   | exact ih0 _ _ _ _ _ _ _ _ _ _
   | exact LeO.none _
   | refine LeO.ite ?_ ?_
   | refine LeO.bind ?_ (fun _ => ?_)
theorem spileref51_Fits.mono : ∀ a0 a1 a2 a3 a4 a5 a6 a7 a8 a9 k, LeO (spileref51_Fits.f k a0 a1 a2 a3 a4 a5 a6 a7 a8 a9) (spileref51_Fits.f (k + 1) a0 a1 a2 a3 a4 a5 a6 a7 a8 a9) := by
 intro a0 a1 a2 a3 a4 a5 a6 a7 a8 a9 k
 have ih0 := spileref51_Fits.mono_l k
 unfold spileref51_Fits.f
 repeat' first
   | (with_reducible exact ih0 _ _ _ _ _ _ _ _ _ _)
   | (with_reducible exact LeO.refl _)
   | (with_reducible exact LeO.none _)
   | (with_reducible refine LeO.ite ?_ ?_)
   | (with_reducible refine LeO.bind ?_ (fun _ => ?_))
   | exact ih0 _ _ _ _ _ _ _ _ _ _
   | exact LeO.none _
   | refine LeO.ite ?_ ?_
   | refine LeO.bind ?_ (fun _ => ?_)
set_option maxHeartbeats 8000000 in
set_option maxRecDepth 100000 in
theorem spileref51_Fits.calls (k : Nat) (a0_0 : Int) (a0_1 : Int) (a0_2 : Int) (a0_3 : Int) (a0_4 : Int) (a1_0 : Int) (a1_1 : Int) (a1_2 : Int) (a1_3 : Int) (a2 : Int) (r : Bool) (w : World) (h : spileref51_Fits.f k a0_0 a0_1 a0_2 a0_3 a0_4 a1_0 a1_1 a1_2 a1_3 a2 = some r) :
  Calls Try.prog 41 #[.agg #[.int .i64 a0_0, .int .i64 a0_1, .int .i64 a0_2, .int .i64 a0_3, .int .i64 a0_4], .agg #[.int .i64 a1_0, .int .i64 a1_1, .int .i64 a1_2, .int .i64 a1_3], .int .i64 a2] w fun e w' => e = .returned (.bool r) ∧ Below w.heap.size w w' := by
 have hu35 := Try.underlying35
 have hu51 := Try.underlying51
 have HB := Aside0.mk (Below.refl w.heap.size w)
 have H : (if a1_0 = a0_0 then ((spileref51_between.f a1_3 a0_3 a2).bind fun t580 => (spileref51_Fits.j0 k (!t580) a0_0 a0_1 a0_2 a0_3 a0_4 a1_0 a1_1 a1_2 a1_3)) else (spileref51_Fits.j0 k true a0_0 a0_1 a0_2 a0_3 a0_4 a1_0 a1_1 a1_2 a1_3)) = some r := h
 clear h
 have HC4 := Aside0.mk H
 clear H
 go_enter Try.func41, Try.ntmps41
 go_upto_region 1 with (first | ((with_reducible refine gqD (N := 3) rfl ?_); refine GS.bx (N := 3) (cs := #[.int .i64 a0_0, .int .i64 a0_1, .int .i64 a0_2, .int .i64 a0_3, .int .i64 a0_4]) (t := 35) ?_; intro gb578 hg w5 hbox hb; have n0_ := Aside0.mk (lqT (GS.lB HB.out) hb); have n1_ := Aside0.mk (hbox); have n2_ := Aside0.mk ((by rw [hg]; exact (lqZ (GS.lB HB.out)) : w.heap.size ≤ gb578)); have n3_ := Aside0.mk ((by rw [hg]; exact (lqZ (GS.lB HB.out)) : w.heap.size ≤ gb578)); clear HB; have HB := n0_; have BK578 := n1_; have GW578 := n2_; have GE578 := n3_; clear n0_ n1_ n2_ n3_; clear hb hbox hg) | ((with_reducible refine gqD (N := 4) rfl ?_); refine GS.bx (N := 4) (cs := #[.int .i64 a1_0, .int .i64 a1_1, .int .i64 a1_2, .int .i64 a1_3]) (t := 51) ?_; intro gb579 hg w6 hbox hb; have n0_ := Aside0.mk (bqB (GS.bqX BK578.out) hb); have n1_ := Aside0.mk (lqT (GS.lB HB.out) hb); have n2_ := Aside0.mk (hbox); have n3_ := Aside0.mk ((by rw [hg]; exact (lqZ (GS.lB HB.out)) : w.heap.size ≤ gb579)); have n4_ := Aside0.mk ((by rw [hg]; exact (lqZ (GS.lB HB.out)) : w.heap.size ≤ gb579)); have n5_ := Aside0.mk ((by rw [hg]; exact Nat.ne_of_lt (blk_lt (GS.bqX BK578.out)) : gb578 ≠ gb579)); have n6_ := Aside0.mk ((by rw [hg]; exact Nat.ne_of_gt (blk_lt (GS.bqX BK578.out)) : gb579 ≠ gb578)); clear BK578; clear HB; have BK578 := n0_; have HB := n1_; have BK579 := n2_; have GW579 := n3_; have GE579 := n4_; have NB578_579 := n5_; have NB579_578 := n6_; clear n0_ n1_ n2_ n3_ n4_ n5_ n6_; clear hb hbox hg))
 (try simp only [Act.put, List.setIfInBounds_toArray, List.set_cons_zero, List.set_cons_succ])
 go_cut [20] (fun v20 wc => ∃ (kq : Nat) (x20_3 : Bool), v20 = .bool x20_3 ∧ Aside0 (spileref51_Fits.j0 kq x20_3 a0_0 a0_1 a0_2 a0_3 a0_4 a1_0 a1_1 a1_2 a1_3 = some r) ∧ Aside0 (kq ≤ k) ∧ Aside0 (wc.heap[gb578]? = some (.cells #[.int .i64 a0_0, .int .i64 a0_1, .int .i64 a0_2, .int .i64 a0_3, .int .i64 a0_4] 35 (0, 0))) ∧ Aside0 (wc.heap[gb579]? = some (.cells #[.int .i64 a1_0, .int .i64 a1_1, .int .i64 a1_2, .int .i64 a1_3] 51 (0, 0))) ∧ Aside0 (Below w.heap.size w wc))
 case first =>
  have H := HC4.out
  clear HC4
  by_cases c7 : a1_0 = a0_0
  ·rw [if_pos c7] at H
   have c7b0 : (a1_0 == a0_0) = true := beq_iff_eq.mpr c7
   try simp only [beq_self_eq_true, Bool.not_true, Bool.false_or, Bool.true_and] at c7b0
   have c7b1 : (a1_0 != a0_0) = false := bne_eq_false_iff_eq.mpr c7
   clear c7
   (first | rw [c7b0] | (simp only [i64_w, i32_w]; rw [c7b0]) | skip)
   replace H := Option.bind_eq_some_iff.mp H
   obtain ⟨t580, A80, H⟩ := H
   replace H : (spileref51_Fits.j0 k (!t580) a0_0 a0_1 a0_2 a0_3 a0_4 a1_0 a1_1 a1_2 a1_3) = some r := H
   have A8 := Aside0.mk A80
   clear A80
   have H' := Aside0.mk H
   clear H
   have hnb9 := NB579_578.out
   have hnc9 := NB578_579.out
   obtain ⟨hcz10_0, hcz10_1, hcz10_2, hcz10_3, hfz10_0, hfz10_1, hfz10_2, hfz10_3⟩ := GS.c4 BK579.out
   obtain ⟨hcz11_0, hcz11_1, hcz11_2, hcz11_3, hcz11_4, hfz11_0, hfz11_1, hfz11_2, hfz11_3, hfz11_4⟩ := GS.c5 BK578.out
   go_wp2_with (first | (go_at_call 47; (with_reducible refine (spileref51_between.calls a1_3 a0_3 a2 t580 _ A8.out).mono ?_); rintro e w' ⟨rfl, ⟨nd, rfl⟩⟩))
   go_meet
   case rel => exact ⟨_, (!t580), (by first | rfl | (simp; done) | (simp [*]; done)), H', ⟨by first | omega | exact Nat.le_refl _⟩, ⟨GS.bqX BK578.out⟩, ⟨GS.bqX BK579.out⟩, ⟨GS.lB HB.out⟩⟩
  ·rw [if_neg c7] at H
   have c7b0 : (a1_0 == a0_0) = false := beq_eq_false_iff_ne.mpr c7
   try simp only [beq_self_eq_true, Bool.not_true, Bool.false_or, Bool.true_and] at c7b0
   have c7b1 : (a1_0 != a0_0) = true := bne_iff_ne.mpr c7
   (first | rw [c7b0] | (simp only [i64_w, i32_w]; rw [c7b0]) | skip)
   have H' := Aside0.mk H
   clear H
   have hnb12 := NB579_578.out
   have hnc12 := NB578_579.out
   obtain ⟨hcz13_0, hcz13_1, hcz13_2, hcz13_3, hfz13_0, hfz13_1, hfz13_2, hfz13_3⟩ := GS.c4 BK579.out
   obtain ⟨hcz14_0, hcz14_1, hcz14_2, hcz14_3, hcz14_4, hfz14_0, hfz14_1, hfz14_2, hfz14_3, hfz14_4⟩ := GS.c5 BK578.out
   go_wp2
   go_meet
   case rel => exact ⟨_, (true), (by first | rfl | (simp; done) | (simp [*]; done)), H', ⟨by first | omega | exact Nat.le_refl _⟩, ⟨GS.bqX BK578.out⟩, ⟨GS.bqX BK579.out⟩, ⟨GS.lB HB.out⟩⟩
 case rest =>
  clear HC4
  try clear c1
  try clear p2
  try clear c4
  try clear c7
  try clear c7b0
  try clear c7b1
  try clear c9
  try clear c12
  try clear hcz10_0
  try clear hcz10_1
  try clear hcz10_2
  try clear hcz10_3
  try clear hcz11_0
  try clear hcz11_1
  try clear hcz11_2
  try clear hcz11_3
  try clear hcz11_4
  try clear hcz13_0
  try clear hcz13_1
  try clear hcz13_2
  try clear hcz13_3
  try clear hcz14_0
  try clear hcz14_1
  try clear hcz14_2
  try clear hcz14_3
  try clear hcz14_4
  try clear hfz10_0
  try clear hfz10_1
  try clear hfz10_2
  try clear hfz10_3
  try clear hfz11_0
  try clear hfz11_1
  try clear hfz11_2
  try clear hfz11_3
  try clear hfz11_4
  try clear hfz13_0
  try clear hfz13_1
  try clear hfz13_2
  try clear hfz13_3
  try clear hfz14_0
  try clear hfz14_1
  try clear hfz14_2
  try clear hfz14_3
  try clear hfz14_4
  obtain ⟨kq, x20_3, rfl, HA, HJ3, BK578, BK579, HB⟩ := hcut
  cases kq with
  | zero => exact absurd HA.out (by simp [spileref51_Fits.j0])
  | succ kj3 =>
   have H := HA.out
   clear HA
   simp only [spileref51_Fits.j0] at H
   by_cases c15 : x20_3 = true
   ·subst c15
    have H1 : (some false) = some r := by rw [if_pos rfl] at H; exact H
    clear H
    have H := H1
    clear H1
    obtain rfl := Option.some.inj H
    go_wp2
    go_ret
    exact ⟨by first | rfl | (simp [errW_none, errW_some] <;> rfl) | (simp [*, errW_none, errW_some] <;> rfl), GS.lB HB.out⟩
   ·replace c15 := Bool.eq_false_iff.mpr c15
    subst c15
    have H1 : (if a1_1 = 1 then (some (a1_2 == 0)) else (if a1_1 = 2 then (if a1_2 ≥ 1 then (some (decide (a1_2 < a0_4))) else (some false)) else (if a1_1 = 3 then (some (a1_2 == a0_4)) else (some false)))) = some r := by rw [if_neg (show ¬ (false = true) by decide)] at H; exact H
    clear H
    have H := H1
    clear H1
    by_cases c16 : a1_1 = 1
    ·rw [if_pos c16] at H
     have c16b0 : (a1_1 == 1) = true := beq_iff_eq.mpr c16
     try simp only [beq_self_eq_true, Bool.not_true, Bool.false_or, Bool.true_and] at c16b0
     have c16b1 : (a1_1 != 1) = false := bne_eq_false_iff_eq.mpr c16
     clear c16
     obtain rfl := Option.some.inj H
     have hnb17 := NB579_578.out
     have hnc17 := NB578_579.out
     obtain ⟨hcz18_0, hcz18_1, hcz18_2, hcz18_3, hfz18_0, hfz18_1, hfz18_2, hfz18_3⟩ := GS.c4 BK579.out
     go_wp2
     go_ret
     exact ⟨by first | rfl | (simp [errW_none, errW_some] <;> rfl) | (simp [*, errW_none, errW_some] <;> rfl), GS.lB HB.out⟩
    ·rw [if_neg c16] at H
     have c16b0 : (a1_1 == 1) = false := beq_eq_false_iff_ne.mpr c16
     try simp only [beq_self_eq_true, Bool.not_true, Bool.false_or, Bool.true_and] at c16b0
     have c16b1 : (a1_1 != 1) = true := bne_iff_ne.mpr c16
     by_cases c19 : a1_1 = 2
     ·rw [if_pos c19] at H
      have c19b0 : (a1_1 == 2) = true := beq_iff_eq.mpr c19
      try simp only [beq_self_eq_true, Bool.not_true, Bool.false_or, Bool.true_and] at c19b0
      have c19b1 : (a1_1 != 2) = false := bne_eq_false_iff_eq.mpr c19
      clear c19
      by_cases c20 : a1_2 ≥ 1
      ·rw [if_pos c20] at H
       have c20b0 : decide (1 ≤ a1_2) = true := decide_eq_true c20
       clear c20
       obtain rfl := Option.some.inj H
       have hnb21 := NB579_578.out
       have hnc21 := NB578_579.out
       obtain ⟨hcz22_0, hcz22_1, hcz22_2, hcz22_3, hfz22_0, hfz22_1, hfz22_2, hfz22_3⟩ := GS.c4 BK579.out
       obtain ⟨hcz23_0, hcz23_1, hcz23_2, hcz23_3, hcz23_4, hfz23_0, hfz23_1, hfz23_2, hfz23_3, hfz23_4⟩ := GS.c5 BK578.out
       go_wp2
       go_ret
       exact ⟨by first | rfl | (simp [errW_none, errW_some] <;> rfl) | (simp [*, errW_none, errW_some] <;> rfl), GS.lB HB.out⟩
      ·rw [if_neg c20] at H
       have c20b0 : decide (1 ≤ a1_2) = false := decide_eq_false c20
       clear c20
       obtain rfl := Option.some.inj H
       have hnb24 := NB579_578.out
       have hnc24 := NB578_579.out
       obtain ⟨hcz25_0, hcz25_1, hcz25_2, hcz25_3, hfz25_0, hfz25_1, hfz25_2, hfz25_3⟩ := GS.c4 BK579.out
       go_wp2
       go_ret
       exact ⟨by first | rfl | (simp [errW_none, errW_some] <;> rfl) | (simp [*, errW_none, errW_some] <;> rfl), GS.lB HB.out⟩
     ·rw [if_neg c19] at H
      have c19b0 : (a1_1 == 2) = false := beq_eq_false_iff_ne.mpr c19
      try simp only [beq_self_eq_true, Bool.not_true, Bool.false_or, Bool.true_and] at c19b0
      have c19b1 : (a1_1 != 2) = true := bne_iff_ne.mpr c19
      by_cases c26 : a1_1 = 3
      ·rw [if_pos c26] at H
       have c26b0 : (a1_1 == 3) = true := beq_iff_eq.mpr c26
       try simp only [beq_self_eq_true, Bool.not_true, Bool.false_or, Bool.true_and] at c26b0
       have c26b1 : (a1_1 != 3) = false := bne_eq_false_iff_eq.mpr c26
       clear c26
       obtain rfl := Option.some.inj H
       have hnb27 := NB579_578.out
       have hnc27 := NB578_579.out
       obtain ⟨hcz28_0, hcz28_1, hcz28_2, hcz28_3, hfz28_0, hfz28_1, hfz28_2, hfz28_3⟩ := GS.c4 BK579.out
       obtain ⟨hcz29_0, hcz29_1, hcz29_2, hcz29_3, hcz29_4, hfz29_0, hfz29_1, hfz29_2, hfz29_3, hfz29_4⟩ := GS.c5 BK578.out
       go_wp2
       go_ret
       exact ⟨by first | rfl | (simp [errW_none, errW_some] <;> rfl) | (simp [*, errW_none, errW_some] <;> rfl), GS.lB HB.out⟩
      ·rw [if_neg c26] at H
       have c26b0 : (a1_1 == 3) = false := beq_eq_false_iff_ne.mpr c26
       try simp only [beq_self_eq_true, Bool.not_true, Bool.false_or, Bool.true_and] at c26b0
       have c26b1 : (a1_1 != 3) = true := bne_iff_ne.mpr c26
       obtain rfl := Option.some.inj H
       have hnb30 := NB579_578.out
       have hnc30 := NB578_579.out
       obtain ⟨hcz31_0, hcz31_1, hcz31_2, hcz31_3, hfz31_0, hfz31_1, hfz31_2, hfz31_3⟩ := GS.c4 BK579.out
       go_wp2
       go_ret
       exact ⟨by first | rfl | (simp [errW_none, errW_some] <;> rfl) | (simp [*, errW_none, errW_some] <;> rfl), GS.lB HB.out⟩

end Go.Proofs.Ythboaobgipodiaa.K
