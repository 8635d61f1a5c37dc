-- PRINTED by print.py (a twelfth state) out of the translation. Not trusted: Lean checks it.
import Derived.Test.YtfjenooajbdcmaaK0
import Derived.Test.YtfjenooajbdcmaaGPu
import Derived.Test.YtfjenooajbdcmaaGShort
import Derived.Test.YtfjenooajbdcmaaGSym
import Derived.Test.YtfjenooajbdcmaaK1
import Derived.Test.YtfjenooajbdcmaaK12
namespace Go.Proofs.Ytfjenooajbdcmaa.K
open Go.RowKit Go.Proofs.YtfjenooajbdcmaaW.PrintWords Go.Proofs.YtfjenooajbdcmaaW.PrintLast Go.Proofs.YtfjenooajbdcmaaW.PrintMore
attribute [local go_sem] max2_int min2_int max_two min_two max_three min_three max_four min_four   -- for this text's walks alone
set_option linter.unusedVariables false
set_option linter.unusedSimpArgs false

attribute [local go_sem high] eqA34
-- NOT PRINTED: function 50 (api_Sealing_50)

-- NOT PRINTED: function 21 (api_Sealing_21)

-- NOT PRINTED: function 5 (spilelaw39_SealOnce)

-- NOT PRINTED: function 6 (spilelaw39_SealEnds)

-- NOT PRINTED: function 7 (spilelaw39_SealSame)

/-! ### spileref39_Add: function 31 -/
def spileref39_Add.f (k : Nat) (l0 : List (S34)) (a1_0 : Int) (a1_1 : Int) (a1_2 : Int) (a1_3 : Int) : Option ((List (S34)) × Int) := (spileref39_right.f k l0).bind fun t432 => (if t432 = true then ((some (([] : List (S34)) : List (S34))).bind fun y433 => (if y433.length + l0.length < 4398046511104 then ((some (y433 ++ l0 : List (S34))).bind fun y436 => ((some (([(⟨a1_0, a1_1, a1_2, a1_3⟩ : S34)] : List (S34)) : List (S34))).bind fun y439 => (if y436.length + y439.length < 4398046511104 then ((some (y436 ++ y439 : List (S34))).bind fun y442 => ((spileref39_Check.f k y442).bind fun bt445 => (if bt445.2 = 0 then (some (y442, 0)) else (some (([] : List (S34)), bt445.2))))) else (none)))) else (none))) else (some (([] : List (S34)), 1)))
theorem spileref39_Add.mono : ∀ a0 a1 a2 a3 a4 k, LeO (spileref39_Add.f k a0 a1 a2 a3 a4) (spileref39_Add.f (k + 1) a0 a1 a2 a3 a4) := by
 intro a0 a1 a2 a3 a4 k
 unfold spileref39_Add.f
 repeat' first
   | (with_reducible exact spileref39_Check.mono _ _)
   | (with_reducible exact spileref39_right.mono _ _)
   | (with_reducible exact LeO.refl _)
   | (with_reducible exact LeO.none _)
   | (with_reducible refine LeO.ite ?_ ?_)
   | (with_reducible refine LeO.bind ?_ (fun _ => ?_))
   | exact spileref39_Check.mono _ _
   | exact spileref39_right.mono _ _
   | exact LeO.none _
   | refine LeO.ite ?_ ?_
   | refine LeO.bind ?_ (fun _ => ?_)
def spileref39_Add.T3 : Bool × List (List Nat × List Nat) := (true, [([], []), ([], []), ([0, 1], [0, 1]), ([], []), ([3], [3]), ([2, 4, 2], [2, 4]), ([5, 5, 0, 1, 2, 3, 4, 5], [5])])
def spileref39_Add.B3 : List Nat := [0, 0, 3, 0, 8, 31, 63]
theorem spileref39_Add.tab3 : rtab .any (opsOf Try.f31 3) = spileref39_Add.T3 := by kernel_rfl
theorem spileref39_Add.bits3 : waitsOk spileref39_Add.T3.2 spileref39_Add.B3 = true := by kernel_rfl
set_option maxHeartbeats 8000000 in
set_option maxRecDepth 100000 in
theorem spileref39_Add.calls (k : Nat) (A0 : Option Addr) (c0 : Nat) (l0 : List (S34)) (a1_0 : Int) (a1_1 : Int) (a1_2 : Int) (a1_3 : Int) (r1 : List (S34)) (r2 : Int) (w : World) (hr0 : Kd.C k34 w A0 l0.length l0) (hc0 : l0.length ≤ c0) (h : spileref39_Add.f k l0 a1_0 a1_1 a1_2 a1_3 = some (r1, r2)) :
  Calls Try.prog 31 #[.slice A0 l0.length c0, .agg #[.int .i64 a1_0, .int .i64 a1_1, .int .i64 a1_2, .int .i64 a1_3]] w fun e w' => ∃ v0_ : Value, e = .returned (.tuple #[v0_, .int .i64 r2]) ∧ Kd.R k34 34 w' w.heap.size (fun _ => True) v0_ r1 ∧ Below w.heap.size w w' := by
 have hu34 := Try.underlying34
 have HR0 := Aside0.mk hr0
 have HC0 := Aside0.mk hc0
 clear hr0 hc0
 have HB := Aside0.mk (Below.refl w.heap.size w)
 have H : ((spileref39_right.f k l0).bind fun t432 => (if t432 = true then ((some (([] : List (S34)) : List (S34))).bind fun y433 => (if y433.length + l0.length < 4398046511104 then ((some (y433 ++ l0 : List (S34))).bind fun y436 => ((some (([(⟨a1_0, a1_1, a1_2, a1_3⟩ : S34)] : List (S34)) : List (S34))).bind fun y439 => (if y436.length + y439.length < 4398046511104 then ((some (y436 ++ y439 : List (S34))).bind fun y442 => ((spileref39_Check.f k y442).bind fun bt445 => (if bt445.2 = 0 then (some (y442, 0)) else (some (([] : List (S34)), bt445.2))))) else (none)))) else (none))) else (some (([] : List (S34)), 1)))) = some (r1, r2) := h
 clear h
 replace H := Option.bind_eq_some_iff.mp H
 obtain ⟨t432, A30, H⟩ := H
 replace H : (if t432 = true then ((some (([] : List (S34)) : List (S34))).bind fun y433 => (if y433.length + l0.length < 4398046511104 then ((some (y433 ++ l0 : List (S34))).bind fun y436 => ((some (([(⟨a1_0, a1_1, a1_2, a1_3⟩ : S34)] : List (S34)) : List (S34))).bind fun y439 => (if y436.length + y439.length < 4398046511104 then ((some (y436 ++ y439 : List (S34))).bind fun y442 => ((spileref39_Check.f k y442).bind fun bt445 => (if bt445.2 = 0 then (some (y442, 0)) else (some (([] : List (S34)), bt445.2))))) else (none)))) else (none))) else (some (([] : List (S34)), 1))) = some (r1, r2) := H
 have A3 := Aside0.mk A30
 clear A30
 by_cases c4 : t432 = true
 ·subst c4
  have H1 : ((some (([] : List (S34)) : List (S34))).bind fun y433 => (if y433.length + l0.length < 4398046511104 then ((some (y433 ++ l0 : List (S34))).bind fun y436 => ((some (([(⟨a1_0, a1_1, a1_2, a1_3⟩ : S34)] : List (S34)) : List (S34))).bind fun y439 => (if y436.length + y439.length < 4398046511104 then ((some (y436 ++ y439 : List (S34))).bind fun y442 => ((spileref39_Check.f k y442).bind fun bt445 => (if bt445.2 = 0 then (some (y442, 0)) else (some (([] : List (S34)), bt445.2))))) else (none)))) else (none))) = some (r1, r2) := by rw [if_pos rfl] at H; exact H
  clear H
  have H := H1
  clear H1
  obtain ⟨y433, hy433⟩ : ∃ y_ : List (S34), y_ = (([] : List (S34))) := ⟨_, rfl⟩
  replace H : (if y433.length + l0.length < 4398046511104 then ((some (y433 ++ l0 : List (S34))).bind fun y436 => ((some (([(⟨a1_0, a1_1, a1_2, a1_3⟩ : S34)] : List (S34)) : List (S34))).bind fun y439 => (if y436.length + y439.length < 4398046511104 then ((some (y436 ++ y439 : List (S34))).bind fun y442 => ((spileref39_Check.f k y442).bind fun bt445 => (if bt445.2 = 0 then (some (y442, 0)) else (some (([] : List (S34)), bt445.2))))) else (none)))) else (none)) = some (r1, r2) := by first | (rw [hy433]; with_reducible exact H) | (have H2_ := (Option.bind_some _ _).symm.trans H; rw [hy433]; with_reducible exact H2_) | (have H2_ := (Option.bind_some _ _).symm.trans H; with_reducible exact H2_) | with_reducible exact H | (rw [hy433]; exact H) | exact H
  have Ny433 := Aside0.mk hy433
  clear hy433
  by_cases c5 : y433.length + l0.length < 4398046511104
  ·rw [if_pos c5] at H
   have LMc5 := Aside0.mk c5
   clear c5
   obtain ⟨y436, hy436⟩ : ∃ y_ : List (S34), y_ = (y433 ++ l0) := ⟨_, rfl⟩
   replace H : ((some (([(⟨a1_0, a1_1, a1_2, a1_3⟩ : S34)] : List (S34)) : List (S34))).bind fun y439 => (if y436.length + y439.length < 4398046511104 then ((some (y436 ++ y439 : List (S34))).bind fun y442 => ((spileref39_Check.f k y442).bind fun bt445 => (if bt445.2 = 0 then (some (y442, 0)) else (some (([] : List (S34)), bt445.2))))) else (none))) = some (r1, r2) := by first | (rw [hy436]; with_reducible exact H) | (have H2_ := (Option.bind_some _ _).symm.trans H; rw [hy436]; with_reducible exact H2_) | (have H2_ := (Option.bind_some _ _).symm.trans H; with_reducible exact H2_) | with_reducible exact H | (rw [hy436]; exact H) | exact H
   have Ny436 := Aside0.mk hy436
   clear hy436
   obtain ⟨y439, hy439⟩ : ∃ y_ : List (S34), y_ = (([(⟨a1_0, a1_1, a1_2, a1_3⟩ : S34)] : List (S34))) := ⟨_, rfl⟩
   replace H : (if y436.length + y439.length < 4398046511104 then ((some (y436 ++ y439 : List (S34))).bind fun y442 => ((spileref39_Check.f k y442).bind fun bt445 => (if bt445.2 = 0 then (some (y442, 0)) else (some (([] : List (S34)), bt445.2))))) else (none)) = some (r1, r2) := by first | (rw [hy439]; with_reducible exact H) | (have H2_ := (Option.bind_some _ _).symm.trans H; rw [hy439]; with_reducible exact H2_) | (have H2_ := (Option.bind_some _ _).symm.trans H; with_reducible exact H2_) | with_reducible exact H | (rw [hy439]; exact H) | exact H
   have Ny439 := Aside0.mk hy439
   clear hy439
   by_cases c6 : y436.length + y439.length < 4398046511104
   ·rw [if_pos c6] at H
    have LMc6 := Aside0.mk c6
    clear c6
    obtain ⟨y442, hy442⟩ : ∃ y_ : List (S34), y_ = (y436 ++ y439) := ⟨_, rfl⟩
    replace H : ((spileref39_Check.f k y442).bind fun bt445 => (if bt445.2 = 0 then (some (y442, 0)) else (some (([] : List (S34)), bt445.2)))) = some (r1, r2) := by first | (rw [hy442]; with_reducible exact H) | (have H2_ := (Option.bind_some _ _).symm.trans H; rw [hy442]; with_reducible exact H2_) | (have H2_ := (Option.bind_some _ _).symm.trans H; with_reducible exact H2_) | with_reducible exact H | (rw [hy442]; exact H) | exact H
    have Ny442 := Aside0.mk hy442
    clear hy442
    replace H := Option.bind_eq_some_iff.mp H
    obtain ⟨⟨t445, t446⟩, A70, H⟩ := H
    replace H : (if t446 = 0 then (some (y442, 0)) else (some (([] : List (S34)), t446))) = some (r1, r2) := H
    have A7 := Aside0.mk A70
    clear A70
    by_cases c8 : t446 = 0
    ·rw [if_pos c8] at H
     have c8b0 : (t446 == 0) = true := beq_iff_eq.mpr c8
     try simp only [beq_self_eq_true, Bool.not_true, Bool.false_or, Bool.true_and] at c8b0
     have c8b1 : (t446 != 0) = false := bne_eq_false_iff_eq.mpr c8
     clear c8
     simp only [Option.some.injEq, Prod.mk.injEq] at H
     obtain ⟨rfl, rfl⟩ := H
     go_enter Try.func31, Try.ntmps31
     try go_wp2_with (first | ((with_reducible refine gqD (N := 3) rfl ?_); refine GS.bx (N := 3) (cs := #[.int .i64 a1_0, .int .i64 a1_1, .int .i64 a1_2, .int .i64 a1_3]) (t := 34) ?_; intro gb431 hg w9 hbox hb; have n0_ := Aside0.mk (lqT (GS.lB HB.out) hb); have n1_ := Aside0.mk (hbox); have n2_ := Aside0.mk ((by rw [hg]; exact (lqZ (GS.lB HB.out)) : w.heap.size ≤ gb431)); have n3_ := Aside0.mk ((by rw [hg]; exact (lqZ (GS.lB HB.out)) : w.heap.size ≤ gb431)); clear HB; have HB := n0_; have BK431 := n1_; have GW431 := n2_; have GE431 := n3_; clear n0_ n1_ n2_ n3_; clear hb hbox hg) | ((with_reducible refine gqC (f := 42) rfl ?_); refine GS.gL (some 10) Try.func42 #[.slice A0 l0.length c0] ?_; (with_reducible refine (spileref39_right.calls k _ _ l0 true _ ?side1 ?side2 A3.out).mono ?_); (case side1 => exact GS.rC (Kd.C_below HR0.out HB.out)); (case side2 => exact HC0.out); rintro e w10 ⟨rfl, hb⟩; refine ⟨_, rfl, ?_⟩; have n0_ := Aside0.mk (bqB (GS.bqX BK431.out) hb); have n1_ := Aside0.mk (lqT (GS.lB HB.out) hb); clear BK431; clear HB; have BK431 := n0_; have HB := n1_; clear n0_ n1_; (try clear hb); (try clear hb2); (try clear hk); (try clear hi)))
     have n0_ := Aside0.mk (bqD BK431.out)
     have n1_ := Aside0.mk (lqD HB.out)
     clear BK431
     clear HB
     have BK431 := n0_
     have HB := n1_
     clear n0_ n1_
     refine start_ (n := 7) (S := fun w' => True) (ds := []) #[false, false, false, false, false, false, false] (by kernel_rfl) rfl rfl trivial (fun hHeld => ?_); refine with_tabW spileref39_Add.tab3 spileref39_Add.bits3 (fun HT_ HW_ => ?_)
     generalize w10.drew = w11 at BK431 HB hHeld ⊢
     refine GS.pu 1 (some 13) HT_.out ?_
     refine inv_at [0, 2, 3, 4, 5, 6] (fun a0_ b a w' => ∃ (v434 : Value) (v437 : Value) (v440 : Value) (v443 : Value) (m6_ : Value), a = putSel a0_ b [(0, 12, v434), (2, 14, v437), (3, 15, .agg #[.int .i64 a1_0, .int .i64 a1_1, .int .i64 a1_2, .int .i64 a1_3]), (4, 16, v440), (5, 17, v443), (6, 6, m6_)] ∧ (w'.heap[gb431]? = some (.cells #[.int .i64 a1_0, .int .i64 a1_1, .int .i64 a1_2, .int .i64 a1_3] 34 (0, 0))) ∧ (Below w.heap.size w w') ∧ (b 0 = true → b 2 = false → Kd.R k34 34 w' w.heap.size (fun k_ => (b 4 = true → some k_ ≠ (v440 : Value).ownBlock) ∧ k_ ≠ gb431) v434 y433) ∧ (b 2 = true → b 5 = false → Kd.R k34 34 w' w.heap.size (fun k_ => (b 4 = true → some k_ ≠ (v440 : Value).ownBlock) ∧ k_ ≠ gb431) v437 y436) ∧ (b 4 = true → Kd.R k34 34 w' w.heap.size (fun k_ => k_ ≠ gb431) v440 y439) ∧ (b 5 = true → Kd.R k34 34 w' w.heap.size (fun k_ => k_ ≠ gb431) v443 y442) ∧ (b 6 = true → (m6_ : Value) = v443)) HT_.out HW_.out (by kernel_rfl) (by kernel_rfl) ?_ ?_ ?_
     ·exact ⟨.bool false, .bool false, .bool false, .bool false, .bool false, by simp only [putSel, Bool.false_eq_true, if_false], BK431.out, HB.out, fun h_ => absurd h_ (by decide), fun h_ => absurd h_ (by decide), fun h_ => absurd h_ (by decide), fun h_ => absurd h_ (by decide), fun h_ => absurd h_ (by decide)⟩
     ·skip
      clear BK431 HB
      refine steps_cons ?_ ?_
      ·rintro b a w' ⟨v434, v437, v440, v443, m6_, ha, Q_BK431, Q_HB, Q_HO435, Q_HO438, Q_HO441, Q_HO444, Q_X6_⟩ hb_ hon hoff
       refine ⟨_, rfl, fun K hK => ?_⟩
       replace ha := Aside0.mk ha
       have BK431 := Aside0.mk Q_BK431
       have HB := Aside0.mk Q_HB
       refine Kd.R_lit_step k34 _ 34 ?hg (N := 12) ?hd (xs := ([] : List (S34))) (inner := []) (ok := fun _ => True) (okp := fun _ => True) ?hr ?hp (fun _ hk => hk) trivial (Below.refl _ _) (Nat.le_refl _) (by simp) ?_; (case hd => rfl); (case hg => rfl); (case hr => first | (go_simp; done) | (go_simp; rfl)); (case hp => exact (Reps.none _ _))
       intro v434 w12 ho13 hb hg_ hnew_
       clear hg_ hnew_
       (first | rw [← Ny433.out] at ho13 | (simp only [Int.reduceToNat] at ho13; rw [← Ny433.out] at ho13))
       have n0_ := Aside0.mk (Kd.R_lower (Kd.R_mono (Kd.R_bound (Kd.R_newB ho13 (GS.bqX BK431.out))) (fun k hk => (⟨fun h3 e => absurd (Kd.R_lt (Q_HO441 h3) k e.symm) (Nat.not_lt.2 hk.2.1), hk.1.2⟩ : (b 4 = true → some k ≠ (v440 : Value).ownBlock) ∧ k ≠ gb431))) (lqZ (GS.lB HB.out)))
       have n1_ := Aside0.mk (bqB (GS.bqX BK431.out) hb)
       have n2_ := Aside0.mk (lqT (GS.lB HB.out) hb)
       have z_HO441 := fun (h0_ : b 4 = true) => (show Kd.R k34 34 w12 w.heap.size (fun k_ => k_ ≠ gb431) v440 y439 from by first | exact (Kd.R_elder' (GS.rR (Q_HO441 h0_)) (Kd.R_base ho13) hb) | exact Kd.R_mono (Kd.R_elder' (GS.rR (Q_HO441 h0_)) (Kd.R_base ho13) hb) (fun _ hk => GS.cj hk))
       clear BK431
       clear HB
       have HO435 := n0_
       have BK431 := n1_
       have HB := n2_
       clear n0_ n1_ n2_
       clear hb ho13
       refine hK.out _ _ ⟨v434, v437, v440, v443, m6_, (by rw [ha.out]; exact putSel_upk 0 hb_ rfl rfl rfl), (GS.bqX BK431.out), (GS.lB HB.out), fun _ _ => (GS.rR HO435.out), fun h0_ _ => absurd ((hoff 2 (by kernel_rfl)).symm.trans h0_) (by decide), z_HO441, fun h0_ => absurd ((hoff 5 (by kernel_rfl)).symm.trans h0_) (by decide), fun h0_ => absurd ((hoff 6 (by kernel_rfl)).symm.trans h0_) (by decide)⟩
      refine steps_cons ?_ ?_
      ·rintro b a w' ⟨v434, v437, v440, v443, m6_, ha, Q_BK431, Q_HB, Q_HO435, Q_HO438, Q_HO441, Q_HO444, Q_X6_⟩ hb_ hon hoff
       refine ⟨_, rfl, fun K hK => ?_⟩
       have e12 : a.tmps[12]? = some (v434) := by rw [ha]; exact putSel_on (e := (0, 12, v434)) 0 rfl rfl (hon 0 (by kernel_rfl)) rfl
       have e13 : a.tmps[13]? = some (.slice A0 l0.length c0) := by rw [ha]; exact (putSel_off rfl).trans rfl
       replace ha := Aside0.mk ha
       have BK431 := Aside0.mk Q_BK431
       have HB := Aside0.mk Q_HB
       have HO435 := Aside0.mk (Q_HO435 (hon 0 (by kernel_rfl)) hb_)
       refine Kd.R_append_rows_step k34 (w0 := w) w.heap.size (by rfl) (.tmp 12) (.tmp 13) 22 34 (.agg #[(.int .i64 0), (.int .i64 0), (.int .i64 0), (.int .i64 0)]) 32 rfl Try.underlying22 info34 rfl (by decide) (by omega) v434 y433 l0 A0 l0.length c0 (fun k_ => (b 4 = true → some k_ ≠ (v440 : Value).ownBlock) ∧ k_ ≠ gb431) (fun _ => False) (by first | rfl | (go_simp; done) | (go_simp; rfl)) (by first | rfl | (go_simp; done) | (go_simp; rfl)) ?aO ?aR (fun _ _ h => h) (fun _ h => h.elim) ?aF ?aB ?aS ?aL ?_
       (case aR => repeat (first | exact (Kd.C_below HR0.out HB.out) | (with_reducible refine Kd.C_alloc ?_ _) | (with_reducible refine Kd.C_drewN ?_ _) | (with_reducible refine Kd.C_drew ?_)))
       (case aB => exact (GS.lB HB.out))
       (case aF => exact (fun k_ hk => ⟨fun h3 e => absurd (Kd.R_lt (Q_HO441 h3) k_ e.symm) (Nat.not_lt.2 hk), Kd.freshB (GS.bqX BK431.out) k_ hk⟩))
       (case aO => exact (GS.rR HO435.out))
       (case aS => exact (lqZ (GS.lB HB.out)))
       (case aL => have := LMc5.out; omega)
       intro v437 w15 ho hb hg hat
       rw [← Ny436.out] at ho
       have n0_ := Aside0.mk (blk_grown (GS.bqX BK431.out) hg (Kd.R_away HO435.out (fun _ hk => hk.2)))
       have n1_ := Aside0.mk (hb)
       have n2_ := Aside0.mk (ho)
       have z_HO441 := fun (h0_ : b 4 = true) => (show Kd.R k34 34 w15 w.heap.size (fun k_ => k_ ≠ gb431) v440 y439 from Kd.R_mono (Kd.R_after (ok := (fun k_ => k_ ≠ gb431)) (GS.rR (Kd.R_mono (GW.R_sym (v' := v434) rfl (Q_HO441 h0_) (fun k hk => (HO435.out.1 k hk).1 h0_)) (fun _ hk => ⟨hk.2, hk.1⟩))) hg hat) (fun _ hk => hk.1))
       clear BK431
       clear HB
       clear HO435
       have BK431 := n0_
       have HB := n1_
       have HO438 := n2_
       clear n0_ n1_ n2_
       clear ho hb hg hat
       refine hK.out _ _ ⟨v434, v437, v440, v443, m6_, (by rw [ha.out]; exact putSel_upk 1 hb_ rfl rfl rfl), (GS.bqX BK431.out), (GS.lB HB.out), fun _ h1_ => absurd ((up_self b 2).symm.trans h1_) (by decide), fun _ _ => (GS.rR HO438.out), z_HO441, fun h0_ => absurd ((hoff 5 (by kernel_rfl)).symm.trans h0_) (by decide), fun h0_ => absurd ((hoff 6 (by kernel_rfl)).symm.trans h0_) (by decide)⟩
      refine steps_cons ?_ ?_
      ·rintro b a w' ⟨v434, v437, v440, v443, m6_, ha, Q_BK431, Q_HB, Q_HO435, Q_HO438, Q_HO441, Q_HO444, Q_X6_⟩ hb_ hon hoff
       refine ⟨_, rfl, fun K hK => ?_⟩
       have e3 : a.tmps[3]? = some (.pointer (some ⟨gb431, 0, none⟩)) := by rw [ha]; exact (putSel_off rfl).trans rfl
       replace ha := Aside0.mk ha
       have BK431 := Aside0.mk Q_BK431
       have HB := Aside0.mk Q_HB
       have hc0_ : w'.cell? ⟨gb431, 0, none⟩ = some (.int .i64 a1_0) := (bqC BK431.out 0).trans rfl
       have hc1_ : w'.cell? ⟨gb431, 1, none⟩ = some (.int .i64 a1_1) := (bqC BK431.out 1).trans rfl
       have hc2_ : w'.cell? ⟨gb431, 2, none⟩ = some (.int .i64 a1_2) := (bqC BK431.out 2).trans rfl
       have hc3_ : w'.cell? ⟨gb431, 3, none⟩ = some (.int .i64 a1_3) := (bqC BK431.out 3).trans rfl
       refine value_ (w1 := w') (v := .agg #[.int .i64 a1_0, .int .i64 a1_1, .int .i64 a1_2, .int .i64 a1_3]) (by rfl) rfl ?_ ?_
       ·go_simp
        (try simp only [i64_w])
        try rfl
       refine hK.out _ _ ⟨v434, v437, v440, v443, m6_, (by rw [ha.out]; exact putSel_upk 2 hb_ rfl rfl rfl), Q_BK431, Q_HB, Q_HO435, Q_HO438, fun h0_ => absurd ((hoff 4 (by kernel_rfl)).symm.trans h0_) (by decide), fun h0_ => absurd ((hoff 5 (by kernel_rfl)).symm.trans h0_) (by decide), fun h0_ => absurd ((hoff 6 (by kernel_rfl)).symm.trans h0_) (by decide)⟩
      refine steps_cons ?_ ?_
      ·rintro b a w' ⟨v434, v437, v440, v443, m6_, ha, Q_BK431, Q_HB, Q_HO435, Q_HO438, Q_HO441, Q_HO444, Q_X6_⟩ hb_ hon hoff
       refine ⟨_, rfl, fun K hK => ?_⟩
       have e15 : a.tmps[15]? = some (.agg #[.int .i64 a1_0, .int .i64 a1_1, .int .i64 a1_2, .int .i64 a1_3]) := by rw [ha]; exact putSel_on (e := (3, 15, .agg #[.int .i64 a1_0, .int .i64 a1_1, .int .i64 a1_2, .int .i64 a1_3])) 2 rfl rfl (hon 3 (by kernel_rfl)) rfl
       replace ha := Aside0.mk ha
       have BK431 := Aside0.mk Q_BK431
       have HB := Aside0.mk Q_HB
       refine Kd.R_lit_step k34 _ 34 ?hg (N := 16) ?hd (xs := ([(⟨a1_0, a1_1, a1_2, a1_3⟩ : S34)] : List (S34))) (inner := [.int .i64 a1_0, .int .i64 a1_1, .int .i64 a1_2, .int .i64 a1_3]) (ok := fun _ => True) (okp := fun _ => True) ?hr ?hp (fun _ hk => hk) trivial (Below.refl _ _) (Nat.le_refl _) (by simp) ?_; (case hd => rfl); (case hg => rfl); (case hr => first | (go_simp; done) | (go_simp; rfl)); (case hp => exact (Reps.c4 (show Kd.M k34 _ _ _ (⟨a1_0, a1_1, a1_2, a1_3⟩ : S34) [.int .i64 a1_0, .int .i64 a1_1, .int .i64 a1_2, .int .i64 a1_3] from (k34_mkM _ _ _ (⟨a1_0, a1_1, a1_2, a1_3⟩ : S34) )) (Reps.none _ _)))
       intro v440 w12 ho13 hb hg_ hnew_
       clear hg_ hnew_
       (first | rw [← Ny439.out] at ho13 | (simp only [Int.reduceToNat] at ho13; rw [← Ny439.out] at ho13))
       have n0_ := Aside0.mk (Kd.R_lower (Kd.R_newB ho13 (GS.bqX BK431.out)) (lqZ (GS.lB HB.out)))
       have n1_ := Aside0.mk (bqB (GS.bqX BK431.out) hb)
       have n2_ := Aside0.mk (lqT (GS.lB HB.out) hb)
       have z_HO435 := fun (h0_ : b 0 = true) (h1_ : b 2 = false) => (show Kd.R k34 34 w12 w.heap.size (fun k_ => (true = true → some k_ ≠ (v440 : Value).ownBlock) ∧ k_ ≠ gb431) v434 y433 from Kd.R_mono (Kd.R_elder' (GS.rR (Q_HO435 h0_ h1_)) (Kd.R_base ho13) hb) (fun _ hk => ⟨fun _ => hk.2, hk.1.2⟩))
       have z_HO438 := fun (h0_ : b 2 = true) (h1_ : b 5 = false) => (show Kd.R k34 34 w12 w.heap.size (fun k_ => (true = true → some k_ ≠ (v440 : Value).ownBlock) ∧ k_ ≠ gb431) v437 y436 from Kd.R_mono (Kd.R_elder' (GS.rR (Q_HO438 h0_ h1_)) (Kd.R_base ho13) hb) (fun _ hk => ⟨fun _ => hk.2, hk.1.2⟩))
       clear BK431
       clear HB
       have HO441 := n0_
       have BK431 := n1_
       have HB := n2_
       clear n0_ n1_ n2_
       clear hb ho13
       refine hK.out _ _ ⟨v434, v437, v440, v443, m6_, (by rw [ha.out]; exact putSel_upk 3 hb_ rfl rfl rfl), (GS.bqX BK431.out), (GS.lB HB.out), z_HO435, z_HO438, fun _ => (GS.rR (Kd.R_mono HO441.out (fun _ hk => GS.cj hk))), fun h0_ => absurd ((hoff 5 (by kernel_rfl)).symm.trans h0_) (by decide), fun h0_ => absurd ((hoff 6 (by kernel_rfl)).symm.trans h0_) (by decide)⟩
      refine steps_cons ?_ ?_
      ·rintro b a w' ⟨v434, v437, v440, v443, m6_, ha, Q_BK431, Q_HB, Q_HO435, Q_HO438, Q_HO441, Q_HO444, Q_X6_⟩ hb_ hon hoff
       refine ⟨_, rfl, fun K hK => ?_⟩
       have e14 : a.tmps[14]? = some (v437) := by rw [ha]; exact putSel_on (e := (2, 14, v437)) 1 rfl rfl (hon 2 (by kernel_rfl)) rfl
       have e16 : a.tmps[16]? = some (v440) := by rw [ha]; exact putSel_on (e := (4, 16, v440)) 3 rfl rfl (hon 4 (by kernel_rfl)) rfl
       replace ha := Aside0.mk ha
       have BK431 := Aside0.mk Q_BK431
       have HB := Aside0.mk Q_HB
       have HO438 := Aside0.mk (Q_HO438 (hon 2 (by kernel_rfl)) hb_)
       have HO441 := Aside0.mk (Q_HO441 (hon 4 (by kernel_rfl)))
       obtain ⟨Ao19, co19, eo19⟩ := Kd.R_slice HO441.out
       (first | subst eo19 | (injection eo19 with f1_ f2_ f3_; have f4_ := f1_.symm; have f5_ := f3_.symm; clear f1_ f2_ f3_; subst f4_; subst f5_))
       refine Kd.R_append_rows_step k34 (w0 := w) w.heap.size (by rfl) (.tmp 14) (.tmp 16) 22 34 (.agg #[(.int .i64 0), (.int .i64 0), (.int .i64 0), (.int .i64 0)]) 32 rfl Try.underlying22 info34 rfl (by decide) (by omega) v437 y436 y439 Ao19 y439.length co19 (fun k_ => some k_ ≠ (.slice Ao19 y439.length co19 : Value).ownBlock ∧ k_ ≠ gb431) (fun _ => False) (by first | rfl | (go_simp; done) | (go_simp; rfl)) (by first | rfl | (go_simp; done) | (go_simp; rfl)) ?aO ?aR (fun _ _ h => h) (fun _ h => h.elim) ?aF ?aB ?aS ?aL ?_
       (case aR => repeat (first | exact (Kd.R_reads' HO441.out).2.2 | (with_reducible refine Kd.C_alloc ?_ _) | (with_reducible refine Kd.C_drewN ?_ _) | (with_reducible refine Kd.C_drew ?_)))
       (case aB => exact (GS.lB HB.out))
       (case aF => exact (fun k_ hk => ⟨Kd.fresh' (Kd.R_lt (GS.rR HO441.out)) k_ hk, Kd.freshB (GS.bqX BK431.out) k_ hk⟩))
       (case aO => exact (GS.rR (Kd.R_mono HO438.out (fun _ hk => ⟨hk.1 (hon 4 (by kernel_rfl)), hk.2⟩))))
       (case aS => exact (lqZ (GS.lB HB.out)))
       (case aL => have := LMc6.out; omega)
       intro v443 w18 ho hb hg hat
       rw [← Ny442.out] at ho
       have n0_ := Aside0.mk (blk_grown (GS.bqX BK431.out) hg (Kd.R_away HO438.out (fun _ hk => hk.2)))
       have n1_ := Aside0.mk (Kd.R_after (ok := (fun k_ => k_ ≠ gb431)) (GS.rR (Kd.R_mono (GW.R_sym (v' := v437) rfl HO441.out (fun k hk => (HO438.out.1 k hk).1 (hon 4 (by kernel_rfl)))) (fun _ hk => ⟨hk.2, hk.1⟩))) hg hat)
       have n2_ := Aside0.mk (hb)
       have n3_ := Aside0.mk (ho)
       clear BK431
       clear HO441
       clear HB
       clear HO438
       have BK431 := n0_
       have HO441 := n1_
       have HB := n2_
       have HO444 := n3_
       clear n0_ n1_ n2_ n3_
       clear ho hb hg hat
       refine hK.out _ _ ⟨v434, v437, .slice Ao19 y439.length co19, v443, m6_, (by rw [ha.out]; exact putSel_upk 4 hb_ rfl rfl rfl), (GS.bqX BK431.out), (GS.lB HB.out), fun _ h1_ => absurd ((hon 2 (by kernel_rfl)).symm.trans h1_) (by decide), fun _ h1_ => absurd ((up_self b 5).symm.trans h1_) (by decide), fun _ => (GS.rR (Kd.R_mono HO441.out (fun _ hk => GS.cj hk))), fun _ => (GS.rR (Kd.R_mono HO444.out (fun _ hk => hk.2))), fun h0_ => absurd ((hoff 6 (by kernel_rfl)).symm.trans h0_) (by decide)⟩
      refine steps_cons ?_ ?_
      ·rintro b a w' ⟨v434, v437, v440, v443, m6_, ha, Q_BK431, Q_HB, Q_HO435, Q_HO438, Q_HO441, Q_HO444, Q_X6_⟩ hb_ hon hoff
       refine ⟨_, rfl, fun K hK => ?_⟩
       have e17 : a.tmps[17]? = some (v443) := by rw [ha]; exact putSel_on (e := (5, 17, v443)) 4 rfl rfl (hon 5 (by kernel_rfl)) rfl
       replace ha := Aside0.mk ha
       have BK431 := Aside0.mk Q_BK431
       have HB := Aside0.mk Q_HB
       have HO441 := Aside0.mk (Q_HO441 (hon 4 (by kernel_rfl)))
       have HO444 := Aside0.mk (Q_HO444 (hon 5 (by kernel_rfl)))
       refine value_ (w1 := w') (v := v443) (by rfl) rfl ?_ ?_
       ·go_simp
        (try simp only [i64_w])
        try rfl
       refine hK.out _ _ ⟨v434, v437, v440, v443, (v443), (by rw [ha.out]; exact putSel_upk 5 hb_ rfl rfl rfl), Q_BK431, Q_HB, fun _ h1_ => absurd ((hon 2 (by kernel_rfl)).symm.trans h1_) (by decide), fun _ h1_ => absurd ((hon 5 (by kernel_rfl)).symm.trans h1_) (by decide), Q_HO441, Q_HO444, fun _ => rfl⟩
      exact steps_nil
     rintro b a w19 hall ⟨v434, v437, v440, v443, m6_, ha, Q_BK431, Q_HB, Q_HO435, Q_HO438, Q_HO441, Q_HO444, Q_X6_⟩
     clear BK431 HB
     have hb0_ := hall 0 (by kernel_rfl)
     have hb2_ := hall 2 (by kernel_rfl)
     have hb3_ := hall 3 (by kernel_rfl)
     have hb4_ := hall 4 (by kernel_rfl)
     have hb5_ := hall 5 (by kernel_rfl)
     have hb6_ := hall 6 (by kernel_rfl)
     subst ha
     obtain rfl := Q_X6_ hb6_
     simp only [putSel, hb0_, hb2_, hb3_, hb4_, hb5_, hb6_, if_true, Act.put, List.setIfInBounds_toArray, List.set_cons_zero, List.set_cons_succ]
     have BK431 := Aside0.mk Q_BK431
     clear Q_BK431
     have HB := Aside0.mk Q_HB
     clear Q_HB
     clear Q_HO435
     clear Q_HO438
     have HO441 := Aside0.mk (Q_HO441 hb4_)
     clear Q_HO441
     have HO444 := Aside0.mk (Q_HO444 hb5_)
     clear Q_HO444
     clear hall hb0_ hb2_ hb3_ hb4_ hb5_ hb6_
     obtain ⟨Ao20, co20, eo20⟩ := Kd.R_slice HO444.out
     subst eo20
     try go_wp2_with (first | ((with_reducible refine gqC (f := 29) rfl ?_); refine GS.gL (some 20) Try.func29 #[.slice Ao20 y442.length co20] ?_; (with_reducible refine (spileref39_Check.calls k _ _ y442 t445 t446 _ ?side1 ?side2 A7.out).mono ?_); (case side1 => repeat (first | exact (Kd.R_reads' HO444.out).2.2 | (with_reducible refine Kd.C_alloc ?_ _) | (with_reducible refine Kd.C_drewN ?_ _) | (with_reducible refine Kd.C_drew ?_))); (case side2 => exact (Kd.R_reads' HO444.out).2.1); rintro e w21 ⟨rfl, hb⟩; refine ⟨_, rfl, ?_⟩; have n0_ := Aside0.mk (Kd.R_below (GS.rR HO441.out) hb); have n1_ := Aside0.mk (Kd.R_below (GS.rR HO444.out) hb); have n2_ := Aside0.mk (bqB (GS.bqX BK431.out) hb); have n3_ := Aside0.mk (lqT (GS.lB HB.out) hb); clear HO441; clear HO444; clear BK431; clear HB; have HO441 := n0_; have HO444 := n1_; have BK431 := n2_; have HB := n3_; clear n0_ n1_ n2_ n3_; (try clear hb); (try clear hb2); (try clear hk); (try clear hi)))
     go_ret2
     exact ⟨_, by first | rfl | (simp [errW_none, errW_some] <;> rfl) | (simp [*, errW_none, errW_some] <;> rfl), by (with_reducible repeat (first | apply Kd.R_alloc | apply Kd.R_drewN | apply Kd.R_drew)); exact Kd.R_mono HO444.out (fun _ hk => trivial), GS.lB HB.out⟩
    ·rw [if_neg c8] at H
     have c8b0 : (t446 == 0) = false := beq_eq_false_iff_ne.mpr c8
     try simp only [beq_self_eq_true, Bool.not_true, Bool.false_or, Bool.true_and] at c8b0
     have c8b1 : (t446 != 0) = true := bne_iff_ne.mpr c8
     simp only [Option.some.injEq, Prod.mk.injEq] at H
     obtain ⟨rfl, rfl⟩ := H
     go_enter Try.func31, Try.ntmps31
     try go_wp2_with (first | ((with_reducible refine gqD (N := 3) rfl ?_); refine GS.bx (N := 3) (cs := #[.int .i64 a1_0, .int .i64 a1_1, .int .i64 a1_2, .int .i64 a1_3]) (t := 34) ?_; intro gb431 hg w22 hbox hb; have n0_ := Aside0.mk (lqT (GS.lB HB.out) hb); have n1_ := Aside0.mk (hbox); have n2_ := Aside0.mk ((by rw [hg]; exact (lqZ (GS.lB HB.out)) : w.heap.size ≤ gb431)); have n3_ := Aside0.mk ((by rw [hg]; exact (lqZ (GS.lB HB.out)) : w.heap.size ≤ gb431)); clear HB; have HB := n0_; have BK431 := n1_; have GW431 := n2_; have GE431 := n3_; clear n0_ n1_ n2_ n3_; clear hb hbox hg) | ((with_reducible refine gqC (f := 42) rfl ?_); refine GS.gL (some 10) Try.func42 #[.slice A0 l0.length c0] ?_; (with_reducible refine (spileref39_right.calls k _ _ l0 true _ ?side1 ?side2 A3.out).mono ?_); (case side1 => exact GS.rC (Kd.C_below HR0.out HB.out)); (case side2 => exact HC0.out); rintro e w23 ⟨rfl, hb⟩; refine ⟨_, rfl, ?_⟩; have n0_ := Aside0.mk (bqB (GS.bqX BK431.out) hb); have n1_ := Aside0.mk (lqT (GS.lB HB.out) hb); clear BK431; clear HB; have BK431 := n0_; have HB := n1_; clear n0_ n1_; (try clear hb); (try clear hb2); (try clear hk); (try clear hi)))
     have n0_ := Aside0.mk (bqD BK431.out)
     have n1_ := Aside0.mk (lqD HB.out)
     clear BK431
     clear HB
     have BK431 := n0_
     have HB := n1_
     clear n0_ n1_
     refine start_ (n := 7) (S := fun w' => True) (ds := []) #[false, false, false, false, false, false, false] (by kernel_rfl) rfl rfl trivial (fun hHeld => ?_); refine with_tabW spileref39_Add.tab3 spileref39_Add.bits3 (fun HT_ HW_ => ?_)
     generalize w23.drew = w24 at BK431 HB hHeld ⊢
     refine GS.pu 1 (some 13) HT_.out ?_
     refine inv_at [0, 2, 3, 4, 5, 6] (fun a0_ b a w' => ∃ (v434 : Value) (v437 : Value) (v440 : Value) (v443 : Value) (m6_ : Value), a = putSel a0_ b [(0, 12, v434), (2, 14, v437), (3, 15, .agg #[.int .i64 a1_0, .int .i64 a1_1, .int .i64 a1_2, .int .i64 a1_3]), (4, 16, v440), (5, 17, v443), (6, 6, m6_)] ∧ (w'.heap[gb431]? = some (.cells #[.int .i64 a1_0, .int .i64 a1_1, .int .i64 a1_2, .int .i64 a1_3] 34 (0, 0))) ∧ (Below w.heap.size w w') ∧ (b 0 = true → b 2 = false → Kd.R k34 34 w' w.heap.size (fun k_ => (b 4 = true → some k_ ≠ (v440 : Value).ownBlock) ∧ k_ ≠ gb431) v434 y433) ∧ (b 2 = true → b 5 = false → Kd.R k34 34 w' w.heap.size (fun k_ => (b 4 = true → some k_ ≠ (v440 : Value).ownBlock) ∧ k_ ≠ gb431) v437 y436) ∧ (b 4 = true → Kd.R k34 34 w' w.heap.size (fun k_ => k_ ≠ gb431) v440 y439) ∧ (b 5 = true → Kd.R k34 34 w' w.heap.size (fun k_ => k_ ≠ gb431) v443 y442) ∧ (b 6 = true → (m6_ : Value) = v443)) HT_.out HW_.out (by kernel_rfl) (by kernel_rfl) ?_ ?_ ?_
     ·exact ⟨.bool false, .bool false, .bool false, .bool false, .bool false, by simp only [putSel, Bool.false_eq_true, if_false], BK431.out, HB.out, fun h_ => absurd h_ (by decide), fun h_ => absurd h_ (by decide), fun h_ => absurd h_ (by decide), fun h_ => absurd h_ (by decide), fun h_ => absurd h_ (by decide)⟩
     ·skip
      clear BK431 HB
      refine steps_cons ?_ ?_
      ·rintro b a w' ⟨v434, v437, v440, v443, m6_, ha, Q_BK431, Q_HB, Q_HO435, Q_HO438, Q_HO441, Q_HO444, Q_X6_⟩ hb_ hon hoff
       refine ⟨_, rfl, fun K hK => ?_⟩
       replace ha := Aside0.mk ha
       have BK431 := Aside0.mk Q_BK431
       have HB := Aside0.mk Q_HB
       refine Kd.R_lit_step k34 _ 34 ?hg (N := 12) ?hd (xs := ([] : List (S34))) (inner := []) (ok := fun _ => True) (okp := fun _ => True) ?hr ?hp (fun _ hk => hk) trivial (Below.refl _ _) (Nat.le_refl _) (by simp) ?_; (case hd => rfl); (case hg => rfl); (case hr => first | (go_simp; done) | (go_simp; rfl)); (case hp => exact (Reps.none _ _))
       intro v434 w25 ho26 hb hg_ hnew_
       clear hg_ hnew_
       (first | rw [← Ny433.out] at ho26 | (simp only [Int.reduceToNat] at ho26; rw [← Ny433.out] at ho26))
       have n0_ := Aside0.mk (Kd.R_lower (Kd.R_mono (Kd.R_bound (Kd.R_newB ho26 (GS.bqX BK431.out))) (fun k hk => (⟨fun h3 e => absurd (Kd.R_lt (Q_HO441 h3) k e.symm) (Nat.not_lt.2 hk.2.1), hk.1.2⟩ : (b 4 = true → some k ≠ (v440 : Value).ownBlock) ∧ k ≠ gb431))) (lqZ (GS.lB HB.out)))
       have n1_ := Aside0.mk (bqB (GS.bqX BK431.out) hb)
       have n2_ := Aside0.mk (lqT (GS.lB HB.out) hb)
       have z_HO441 := fun (h0_ : b 4 = true) => (show Kd.R k34 34 w25 w.heap.size (fun k_ => k_ ≠ gb431) v440 y439 from by first | exact (Kd.R_elder' (GS.rR (Q_HO441 h0_)) (Kd.R_base ho26) hb) | exact Kd.R_mono (Kd.R_elder' (GS.rR (Q_HO441 h0_)) (Kd.R_base ho26) hb) (fun _ hk => GS.cj hk))
       clear BK431
       clear HB
       have HO435 := n0_
       have BK431 := n1_
       have HB := n2_
       clear n0_ n1_ n2_
       clear hb ho26
       refine hK.out _ _ ⟨v434, v437, v440, v443, m6_, (by rw [ha.out]; exact putSel_upk 0 hb_ rfl rfl rfl), (GS.bqX BK431.out), (GS.lB HB.out), fun _ _ => (GS.rR HO435.out), fun h0_ _ => absurd ((hoff 2 (by kernel_rfl)).symm.trans h0_) (by decide), z_HO441, fun h0_ => absurd ((hoff 5 (by kernel_rfl)).symm.trans h0_) (by decide), fun h0_ => absurd ((hoff 6 (by kernel_rfl)).symm.trans h0_) (by decide)⟩
      refine steps_cons ?_ ?_
      ·rintro b a w' ⟨v434, v437, v440, v443, m6_, ha, Q_BK431, Q_HB, Q_HO435, Q_HO438, Q_HO441, Q_HO444, Q_X6_⟩ hb_ hon hoff
       refine ⟨_, rfl, fun K hK => ?_⟩
       have e12 : a.tmps[12]? = some (v434) := by rw [ha]; exact putSel_on (e := (0, 12, v434)) 0 rfl rfl (hon 0 (by kernel_rfl)) rfl
       have e13 : a.tmps[13]? = some (.slice A0 l0.length c0) := by rw [ha]; exact (putSel_off rfl).trans rfl
       replace ha := Aside0.mk ha
       have BK431 := Aside0.mk Q_BK431
       have HB := Aside0.mk Q_HB
       have HO435 := Aside0.mk (Q_HO435 (hon 0 (by kernel_rfl)) hb_)
       refine Kd.R_append_rows_step k34 (w0 := w) w.heap.size (by rfl) (.tmp 12) (.tmp 13) 22 34 (.agg #[(.int .i64 0), (.int .i64 0), (.int .i64 0), (.int .i64 0)]) 32 rfl Try.underlying22 info34 rfl (by decide) (by omega) v434 y433 l0 A0 l0.length c0 (fun k_ => (b 4 = true → some k_ ≠ (v440 : Value).ownBlock) ∧ k_ ≠ gb431) (fun _ => False) (by first | rfl | (go_simp; done) | (go_simp; rfl)) (by first | rfl | (go_simp; done) | (go_simp; rfl)) ?aO ?aR (fun _ _ h => h) (fun _ h => h.elim) ?aF ?aB ?aS ?aL ?_
       (case aR => repeat (first | exact (Kd.C_below HR0.out HB.out) | (with_reducible refine Kd.C_alloc ?_ _) | (with_reducible refine Kd.C_drewN ?_ _) | (with_reducible refine Kd.C_drew ?_)))
       (case aB => exact (GS.lB HB.out))
       (case aF => exact (fun k_ hk => ⟨fun h3 e => absurd (Kd.R_lt (Q_HO441 h3) k_ e.symm) (Nat.not_lt.2 hk), Kd.freshB (GS.bqX BK431.out) k_ hk⟩))
       (case aO => exact (GS.rR HO435.out))
       (case aS => exact (lqZ (GS.lB HB.out)))
       (case aL => have := LMc5.out; omega)
       intro v437 w28 ho hb hg hat
       rw [← Ny436.out] at ho
       have n0_ := Aside0.mk (blk_grown (GS.bqX BK431.out) hg (Kd.R_away HO435.out (fun _ hk => hk.2)))
       have n1_ := Aside0.mk (hb)
       have n2_ := Aside0.mk (ho)
       have z_HO441 := fun (h0_ : b 4 = true) => (show Kd.R k34 34 w28 w.heap.size (fun k_ => k_ ≠ gb431) v440 y439 from Kd.R_mono (Kd.R_after (ok := (fun k_ => k_ ≠ gb431)) (GS.rR (Kd.R_mono (GW.R_sym (v' := v434) rfl (Q_HO441 h0_) (fun k hk => (HO435.out.1 k hk).1 h0_)) (fun _ hk => ⟨hk.2, hk.1⟩))) hg hat) (fun _ hk => hk.1))
       clear BK431
       clear HB
       clear HO435
       have BK431 := n0_
       have HB := n1_
       have HO438 := n2_
       clear n0_ n1_ n2_
       clear ho hb hg hat
       refine hK.out _ _ ⟨v434, v437, v440, v443, m6_, (by rw [ha.out]; exact putSel_upk 1 hb_ rfl rfl rfl), (GS.bqX BK431.out), (GS.lB HB.out), fun _ h1_ => absurd ((up_self b 2).symm.trans h1_) (by decide), fun _ _ => (GS.rR HO438.out), z_HO441, fun h0_ => absurd ((hoff 5 (by kernel_rfl)).symm.trans h0_) (by decide), fun h0_ => absurd ((hoff 6 (by kernel_rfl)).symm.trans h0_) (by decide)⟩
      refine steps_cons ?_ ?_
      ·rintro b a w' ⟨v434, v437, v440, v443, m6_, ha, Q_BK431, Q_HB, Q_HO435, Q_HO438, Q_HO441, Q_HO444, Q_X6_⟩ hb_ hon hoff
       refine ⟨_, rfl, fun K hK => ?_⟩
       have e3 : a.tmps[3]? = some (.pointer (some ⟨gb431, 0, none⟩)) := by rw [ha]; exact (putSel_off rfl).trans rfl
       replace ha := Aside0.mk ha
       have BK431 := Aside0.mk Q_BK431
       have HB := Aside0.mk Q_HB
       have hc0_ : w'.cell? ⟨gb431, 0, none⟩ = some (.int .i64 a1_0) := (bqC BK431.out 0).trans rfl
       have hc1_ : w'.cell? ⟨gb431, 1, none⟩ = some (.int .i64 a1_1) := (bqC BK431.out 1).trans rfl
       have hc2_ : w'.cell? ⟨gb431, 2, none⟩ = some (.int .i64 a1_2) := (bqC BK431.out 2).trans rfl
       have hc3_ : w'.cell? ⟨gb431, 3, none⟩ = some (.int .i64 a1_3) := (bqC BK431.out 3).trans rfl
       refine value_ (w1 := w') (v := .agg #[.int .i64 a1_0, .int .i64 a1_1, .int .i64 a1_2, .int .i64 a1_3]) (by rfl) rfl ?_ ?_
       ·go_simp
        (try simp only [i64_w])
        try rfl
       refine hK.out _ _ ⟨v434, v437, v440, v443, m6_, (by rw [ha.out]; exact putSel_upk 2 hb_ rfl rfl rfl), Q_BK431, Q_HB, Q_HO435, Q_HO438, fun h0_ => absurd ((hoff 4 (by kernel_rfl)).symm.trans h0_) (by decide), fun h0_ => absurd ((hoff 5 (by kernel_rfl)).symm.trans h0_) (by decide), fun h0_ => absurd ((hoff 6 (by kernel_rfl)).symm.trans h0_) (by decide)⟩
      refine steps_cons ?_ ?_
      ·rintro b a w' ⟨v434, v437, v440, v443, m6_, ha, Q_BK431, Q_HB, Q_HO435, Q_HO438, Q_HO441, Q_HO444, Q_X6_⟩ hb_ hon hoff
       refine ⟨_, rfl, fun K hK => ?_⟩
       have e15 : a.tmps[15]? = some (.agg #[.int .i64 a1_0, .int .i64 a1_1, .int .i64 a1_2, .int .i64 a1_3]) := by rw [ha]; exact putSel_on (e := (3, 15, .agg #[.int .i64 a1_0, .int .i64 a1_1, .int .i64 a1_2, .int .i64 a1_3])) 2 rfl rfl (hon 3 (by kernel_rfl)) rfl
       replace ha := Aside0.mk ha
       have BK431 := Aside0.mk Q_BK431
       have HB := Aside0.mk Q_HB
       refine Kd.R_lit_step k34 _ 34 ?hg (N := 16) ?hd (xs := ([(⟨a1_0, a1_1, a1_2, a1_3⟩ : S34)] : List (S34))) (inner := [.int .i64 a1_0, .int .i64 a1_1, .int .i64 a1_2, .int .i64 a1_3]) (ok := fun _ => True) (okp := fun _ => True) ?hr ?hp (fun _ hk => hk) trivial (Below.refl _ _) (Nat.le_refl _) (by simp) ?_; (case hd => rfl); (case hg => rfl); (case hr => first | (go_simp; done) | (go_simp; rfl)); (case hp => exact (Reps.c4 (show Kd.M k34 _ _ _ (⟨a1_0, a1_1, a1_2, a1_3⟩ : S34) [.int .i64 a1_0, .int .i64 a1_1, .int .i64 a1_2, .int .i64 a1_3] from (k34_mkM _ _ _ (⟨a1_0, a1_1, a1_2, a1_3⟩ : S34) )) (Reps.none _ _)))
       intro v440 w25 ho26 hb hg_ hnew_
       clear hg_ hnew_
       (first | rw [← Ny439.out] at ho26 | (simp only [Int.reduceToNat] at ho26; rw [← Ny439.out] at ho26))
       have n0_ := Aside0.mk (Kd.R_lower (Kd.R_newB ho26 (GS.bqX BK431.out)) (lqZ (GS.lB HB.out)))
       have n1_ := Aside0.mk (bqB (GS.bqX BK431.out) hb)
       have n2_ := Aside0.mk (lqT (GS.lB HB.out) hb)
       have z_HO435 := fun (h0_ : b 0 = true) (h1_ : b 2 = false) => (show Kd.R k34 34 w25 w.heap.size (fun k_ => (true = true → some k_ ≠ (v440 : Value).ownBlock) ∧ k_ ≠ gb431) v434 y433 from Kd.R_mono (Kd.R_elder' (GS.rR (Q_HO435 h0_ h1_)) (Kd.R_base ho26) hb) (fun _ hk => ⟨fun _ => hk.2, hk.1.2⟩))
       have z_HO438 := fun (h0_ : b 2 = true) (h1_ : b 5 = false) => (show Kd.R k34 34 w25 w.heap.size (fun k_ => (true = true → some k_ ≠ (v440 : Value).ownBlock) ∧ k_ ≠ gb431) v437 y436 from Kd.R_mono (Kd.R_elder' (GS.rR (Q_HO438 h0_ h1_)) (Kd.R_base ho26) hb) (fun _ hk => ⟨fun _ => hk.2, hk.1.2⟩))
       clear BK431
       clear HB
       have HO441 := n0_
       have BK431 := n1_
       have HB := n2_
       clear n0_ n1_ n2_
       clear hb ho26
       refine hK.out _ _ ⟨v434, v437, v440, v443, m6_, (by rw [ha.out]; exact putSel_upk 3 hb_ rfl rfl rfl), (GS.bqX BK431.out), (GS.lB HB.out), z_HO435, z_HO438, fun _ => (GS.rR (Kd.R_mono HO441.out (fun _ hk => GS.cj hk))), fun h0_ => absurd ((hoff 5 (by kernel_rfl)).symm.trans h0_) (by decide), fun h0_ => absurd ((hoff 6 (by kernel_rfl)).symm.trans h0_) (by decide)⟩
      refine steps_cons ?_ ?_
      ·rintro b a w' ⟨v434, v437, v440, v443, m6_, ha, Q_BK431, Q_HB, Q_HO435, Q_HO438, Q_HO441, Q_HO444, Q_X6_⟩ hb_ hon hoff
       refine ⟨_, rfl, fun K hK => ?_⟩
       have e14 : a.tmps[14]? = some (v437) := by rw [ha]; exact putSel_on (e := (2, 14, v437)) 1 rfl rfl (hon 2 (by kernel_rfl)) rfl
       have e16 : a.tmps[16]? = some (v440) := by rw [ha]; exact putSel_on (e := (4, 16, v440)) 3 rfl rfl (hon 4 (by kernel_rfl)) rfl
       replace ha := Aside0.mk ha
       have BK431 := Aside0.mk Q_BK431
       have HB := Aside0.mk Q_HB
       have HO438 := Aside0.mk (Q_HO438 (hon 2 (by kernel_rfl)) hb_)
       have HO441 := Aside0.mk (Q_HO441 (hon 4 (by kernel_rfl)))
       obtain ⟨Ao32, co32, eo32⟩ := Kd.R_slice HO441.out
       (first | subst eo32 | (injection eo32 with f1_ f2_ f3_; have f4_ := f1_.symm; have f5_ := f3_.symm; clear f1_ f2_ f3_; subst f4_; subst f5_))
       refine Kd.R_append_rows_step k34 (w0 := w) w.heap.size (by rfl) (.tmp 14) (.tmp 16) 22 34 (.agg #[(.int .i64 0), (.int .i64 0), (.int .i64 0), (.int .i64 0)]) 32 rfl Try.underlying22 info34 rfl (by decide) (by omega) v437 y436 y439 Ao32 y439.length co32 (fun k_ => some k_ ≠ (.slice Ao32 y439.length co32 : Value).ownBlock ∧ k_ ≠ gb431) (fun _ => False) (by first | rfl | (go_simp; done) | (go_simp; rfl)) (by first | rfl | (go_simp; done) | (go_simp; rfl)) ?aO ?aR (fun _ _ h => h) (fun _ h => h.elim) ?aF ?aB ?aS ?aL ?_
       (case aR => repeat (first | exact (Kd.R_reads' HO441.out).2.2 | (with_reducible refine Kd.C_alloc ?_ _) | (with_reducible refine Kd.C_drewN ?_ _) | (with_reducible refine Kd.C_drew ?_)))
       (case aB => exact (GS.lB HB.out))
       (case aF => exact (fun k_ hk => ⟨Kd.fresh' (Kd.R_lt (GS.rR HO441.out)) k_ hk, Kd.freshB (GS.bqX BK431.out) k_ hk⟩))
       (case aO => exact (GS.rR (Kd.R_mono HO438.out (fun _ hk => ⟨hk.1 (hon 4 (by kernel_rfl)), hk.2⟩))))
       (case aS => exact (lqZ (GS.lB HB.out)))
       (case aL => have := LMc6.out; omega)
       intro v443 w31 ho hb hg hat
       rw [← Ny442.out] at ho
       have n0_ := Aside0.mk (blk_grown (GS.bqX BK431.out) hg (Kd.R_away HO438.out (fun _ hk => hk.2)))
       have n1_ := Aside0.mk (Kd.R_after (ok := (fun k_ => k_ ≠ gb431)) (GS.rR (Kd.R_mono (GW.R_sym (v' := v437) rfl HO441.out (fun k hk => (HO438.out.1 k hk).1 (hon 4 (by kernel_rfl)))) (fun _ hk => ⟨hk.2, hk.1⟩))) hg hat)
       have n2_ := Aside0.mk (hb)
       have n3_ := Aside0.mk (ho)
       clear BK431
       clear HO441
       clear HB
       clear HO438
       have BK431 := n0_
       have HO441 := n1_
       have HB := n2_
       have HO444 := n3_
       clear n0_ n1_ n2_ n3_
       clear ho hb hg hat
       refine hK.out _ _ ⟨v434, v437, .slice Ao32 y439.length co32, v443, m6_, (by rw [ha.out]; exact putSel_upk 4 hb_ rfl rfl rfl), (GS.bqX BK431.out), (GS.lB HB.out), fun _ h1_ => absurd ((hon 2 (by kernel_rfl)).symm.trans h1_) (by decide), fun _ h1_ => absurd ((up_self b 5).symm.trans h1_) (by decide), fun _ => (GS.rR (Kd.R_mono HO441.out (fun _ hk => GS.cj hk))), fun _ => (GS.rR (Kd.R_mono HO444.out (fun _ hk => hk.2))), fun h0_ => absurd ((hoff 6 (by kernel_rfl)).symm.trans h0_) (by decide)⟩
      refine steps_cons ?_ ?_
      ·rintro b a w' ⟨v434, v437, v440, v443, m6_, ha, Q_BK431, Q_HB, Q_HO435, Q_HO438, Q_HO441, Q_HO444, Q_X6_⟩ hb_ hon hoff
       refine ⟨_, rfl, fun K hK => ?_⟩
       have e17 : a.tmps[17]? = some (v443) := by rw [ha]; exact putSel_on (e := (5, 17, v443)) 4 rfl rfl (hon 5 (by kernel_rfl)) rfl
       replace ha := Aside0.mk ha
       have BK431 := Aside0.mk Q_BK431
       have HB := Aside0.mk Q_HB
       have HO441 := Aside0.mk (Q_HO441 (hon 4 (by kernel_rfl)))
       have HO444 := Aside0.mk (Q_HO444 (hon 5 (by kernel_rfl)))
       refine value_ (w1 := w') (v := v443) (by rfl) rfl ?_ ?_
       ·go_simp
        (try simp only [i64_w])
        try rfl
       refine hK.out _ _ ⟨v434, v437, v440, v443, (v443), (by rw [ha.out]; exact putSel_upk 5 hb_ rfl rfl rfl), Q_BK431, Q_HB, fun _ h1_ => absurd ((hon 2 (by kernel_rfl)).symm.trans h1_) (by decide), fun _ h1_ => absurd ((hon 5 (by kernel_rfl)).symm.trans h1_) (by decide), Q_HO441, Q_HO444, fun _ => rfl⟩
      exact steps_nil
     rintro b a w32 hall ⟨v434, v437, v440, v443, m6_, ha, Q_BK431, Q_HB, Q_HO435, Q_HO438, Q_HO441, Q_HO444, Q_X6_⟩
     clear BK431 HB
     have hb0_ := hall 0 (by kernel_rfl)
     have hb2_ := hall 2 (by kernel_rfl)
     have hb3_ := hall 3 (by kernel_rfl)
     have hb4_ := hall 4 (by kernel_rfl)
     have hb5_ := hall 5 (by kernel_rfl)
     have hb6_ := hall 6 (by kernel_rfl)
     subst ha
     obtain rfl := Q_X6_ hb6_
     simp only [putSel, hb0_, hb2_, hb3_, hb4_, hb5_, hb6_, if_true, Act.put, List.setIfInBounds_toArray, List.set_cons_zero, List.set_cons_succ]
     have BK431 := Aside0.mk Q_BK431
     clear Q_BK431
     have HB := Aside0.mk Q_HB
     clear Q_HB
     clear Q_HO435
     clear Q_HO438
     have HO441 := Aside0.mk (Q_HO441 hb4_)
     clear Q_HO441
     have HO444 := Aside0.mk (Q_HO444 hb5_)
     clear Q_HO444
     clear hall hb0_ hb2_ hb3_ hb4_ hb5_ hb6_
     obtain ⟨Ao33, co33, eo33⟩ := Kd.R_slice HO444.out
     subst eo33
     try go_wp2_with (first | ((with_reducible refine gqC (f := 29) rfl ?_); refine GS.gL (some 20) Try.func29 #[.slice Ao33 y442.length co33] ?_; (with_reducible refine (spileref39_Check.calls k _ _ y442 t445 t446 _ ?side1 ?side2 A7.out).mono ?_); (case side1 => repeat (first | exact (Kd.R_reads' HO444.out).2.2 | (with_reducible refine Kd.C_alloc ?_ _) | (with_reducible refine Kd.C_drewN ?_ _) | (with_reducible refine Kd.C_drew ?_))); (case side2 => exact (Kd.R_reads' HO444.out).2.1); rintro e w34 ⟨rfl, hb⟩; refine ⟨_, rfl, ?_⟩; have n0_ := Aside0.mk (Kd.R_below (GS.rR HO441.out) hb); have n1_ := Aside0.mk (Kd.R_below (GS.rR HO444.out) hb); have n2_ := Aside0.mk (bqB (GS.bqX BK431.out) hb); have n3_ := Aside0.mk (lqT (GS.lB HB.out) hb); clear HO441; clear HO444; clear BK431; clear HB; have HO441 := n0_; have HO444 := n1_; have BK431 := n2_; have HB := n3_; clear n0_ n1_ n2_ n3_; (try clear hb); (try clear hb2); (try clear hk); (try clear hi)))
     go_ret2
     exact ⟨_, by first | rfl | (simp [errW_none, errW_some] <;> rfl) | (simp [*, errW_none, errW_some] <;> rfl), by first | exact Kd.R_nil _ _ _ _ _ | exact Kd.N_nil _ _ _ _ _ | exact Kd.V_nil _ _ _ _ _ | exact Kd.Q_nil _ _ _ _ _ | exact Kd.S_nil _ _ _ _ _, GS.lB HB.out⟩
   ·rw [if_neg c6] at H
    exact absurd H (by simp)
  ·rw [if_neg c5] at H
   exact absurd H (by simp)
 ·replace c4 := Bool.eq_false_iff.mpr c4
  subst c4
  have H1 : (some (([] : List (S34)), 1)) = some (r1, r2) := by rw [if_neg (show ¬ (false = true) by decide)] at H; exact H
  clear H
  have H := H1
  clear H1
  simp only [Option.some.injEq, Prod.mk.injEq] at H
  obtain ⟨rfl, rfl⟩ := H
  go_enter Try.func31, Try.ntmps31
  go_wp2_with (first | ((with_reducible refine gqD (N := 3) rfl ?_); refine GS.bx (N := 3) (cs := #[.int .i64 a1_0, .int .i64 a1_1, .int .i64 a1_2, .int .i64 a1_3]) (t := 34) ?_; intro gb431 hg w35 hbox hb; have n0_ := Aside0.mk (lqT (GS.lB HB.out) hb); have n1_ := Aside0.mk (hbox); have n2_ := Aside0.mk ((by rw [hg]; exact (lqZ (GS.lB HB.out)) : w.heap.size ≤ gb431)); have n3_ := Aside0.mk ((by rw [hg]; exact (lqZ (GS.lB HB.out)) : w.heap.size ≤ gb431)); clear HB; have HB := n0_; have BK431 := n1_; have GW431 := n2_; have GE431 := n3_; clear n0_ n1_ n2_ n3_; clear hb hbox hg) | ((with_reducible refine gqC (f := 42) rfl ?_); refine GS.gL (some 10) Try.func42 #[.slice A0 l0.length c0] ?_; (with_reducible refine (spileref39_right.calls k _ _ l0 false _ ?side1 ?side2 A3.out).mono ?_); (case side1 => exact GS.rC (Kd.C_below HR0.out HB.out)); (case side2 => exact HC0.out); rintro e w36 ⟨rfl, hb⟩; refine ⟨_, rfl, ?_⟩; have n0_ := Aside0.mk (bqB (GS.bqX BK431.out) hb); have n1_ := Aside0.mk (lqT (GS.lB HB.out) hb); clear BK431; clear HB; have BK431 := n0_; have HB := n1_; clear n0_ n1_; (try clear hb); (try clear hb2); (try clear hk); (try clear hi)))
  go_ret2
  exact ⟨_, by first | rfl | (simp [errW_none, errW_some] <;> rfl) | (simp [*, errW_none, errW_some] <;> rfl), by first | exact Kd.R_nil _ _ _ _ _ | exact Kd.N_nil _ _ _ _ _ | exact Kd.V_nil _ _ _ _ _ | exact Kd.Q_nil _ _ _ _ _ | exact Kd.S_nil _ _ _ _ _, GS.lB HB.out⟩

-- NOT PRINTED: function 55 (api_Sealing_55)

-- GIVEN: function 32 (seal_History)

/-! ### spileref39_History: function 33 -/
def spileref39_History.l0 : Nat → List (S34) → Int → List (S34) → Int → Option ((List (S34)) × Int)
 | 0, _, _, _, _ => none
 | k + 1, x0, x1, x6, x7 => if x7 < (x0.length : Int) then (if 0 ≤ x7 then (if ((rd_T34 x0 x7).f2) = x1 then (if x6.length < 4398046511104 then (spileref39_History.l0 k x0 x1 (x6 ++ [(⟨(rd_T34 x0 x7).f0, (rd_T34 x0 x7).f1, (rd_T34 x0 x7).f2, (rd_T34 x0 x7).f3⟩ : S34)]) (wrap64 (x7 + 1))) else (none)) else (spileref39_History.l0 k x0 x1 x6 (wrap64 (x7 + 1)))) else (none)) else (if (x6.length : Int) = 0 then (some (([] : List (S34)), 7)) else (some (x6, 0)))
def spileref39_History.f (k : Nat) (l0 : List (S34)) (a1 : Int) : Option ((List (S34)) × Int) := (spileref39_right.f k l0).bind fun t447 => (if t447 = true then (spileref39_History.l0 k l0 a1 (([] : List (S34))) 0) else (some (([] : List (S34)), 1)))
theorem spileref39_History.mono_l : ∀ k, (∀ y0 y1 y2 y3, LeO (spileref39_History.l0 k y0 y1 y2 y3) (spileref39_History.l0 (k + 1) y0 y1 y2 y3))
 | 0 => fun _ _ _ _ r h => by simp [spileref39_History.l0] at h
 | k + 1 => by
  have ih0 := spileref39_History.mono_l k
  ·intro y0 y1 y2 y3
   unfold spileref39_History.l0
   repeat' first
   | (with_reducible exact ih0 _ _ _ _)
   | (with_reducible exact spileref39_right.mono _ _)
   | (with_reducible exact LeO.refl _)
   | (with_reducible exact LeO.none _)
   | (with_reducible refine LeO.ite ?_ ?_)
   | (with_reducible refine LeO.bind ?_ (fun _ => ?_))
   | exact ih0 _ _ _ _
   | exact spileref39_right.mono _ _
   | exact LeO.none _
   | refine LeO.ite ?_ ?_
   | refine LeO.bind ?_ (fun _ => ?_)
theorem spileref39_History.mono : ∀ a0 a1 k, LeO (spileref39_History.f k a0 a1) (spileref39_History.f (k + 1) a0 a1) := by
 intro a0 a1 k
 have ih0 := spileref39_History.mono_l k
 unfold spileref39_History.f
 repeat' first
   | (with_reducible exact ih0 _ _ _ _)
   | (with_reducible exact spileref39_right.mono _ _)
   | (with_reducible exact LeO.refl _)
   | (with_reducible exact LeO.none _)
   | (with_reducible refine LeO.ite ?_ ?_)
   | (with_reducible refine LeO.bind ?_ (fun _ => ?_))
   | exact ih0 _ _ _ _
   | exact spileref39_right.mono _ _
   | exact LeO.none _
   | refine LeO.ite ?_ ?_
   | refine LeO.bind ?_ (fun _ => ?_)
set_option maxHeartbeats 8000000 in
set_option maxRecDepth 100000 in
theorem spileref39_History.calls (k : Nat) (A0 : Option Addr) (c0 : Nat) (l0 : List (S34)) (a1 : Int) (r1 : List (S34)) (r2 : Int) (w : World) (hr0 : Kd.C k34 w A0 l0.length l0) (hc0 : l0.length ≤ c0) (h : spileref39_History.f k l0 a1 = some (r1, r2)) :
  Calls Try.prog 33 #[.slice A0 l0.length c0, .int .i64 a1] w fun e w' => ∃ v0_ : Value, e = .returned (.tuple #[v0_, .int .i64 r2]) ∧ Kd.R k34 34 w' w.heap.size (fun _ => True) v0_ r1 ∧ Below w.heap.size w w' := by
 have hu34 := Try.underlying34
 have HR0 := Aside0.mk hr0
 have HC0 := Aside0.mk hc0
 clear hr0 hc0
 have HB := Aside0.mk (Below.refl w.heap.size w)
 have H : ((spileref39_right.f k l0).bind fun t447 => (if t447 = true then (spileref39_History.l0 k l0 a1 (([] : List (S34))) 0) else (some (([] : List (S34)), 1)))) = some (r1, r2) := h
 clear h
 replace H := Option.bind_eq_some_iff.mp H
 obtain ⟨t447, A30, H⟩ := H
 replace H : (if t447 = true then (spileref39_History.l0 k l0 a1 (([] : List (S34))) 0) else (some (([] : List (S34)), 1))) = some (r1, r2) := H
 have A3 := Aside0.mk A30
 clear A30
 by_cases c4 : t447 = true
 ·subst c4
  have H1 : (spileref39_History.l0 k l0 a1 (([] : List (S34))) 0) = some (r1, r2) := by rw [if_pos rfl] at H; exact H
  clear H
  have H := H1
  clear H1
  obtain ⟨y448, hy448⟩ : ∃ y_ : List (S34), y_ = (([] : List (S34))) := ⟨_, rfl⟩
  replace H : (spileref39_History.l0 k l0 a1 y448 0) = some (r1, r2) := by first | (rw [hy448]; with_reducible exact H) | (have H2_ := (Option.bind_some _ _).symm.trans H; rw [hy448]; with_reducible exact H2_) | (have H2_ := (Option.bind_some _ _).symm.trans H; with_reducible exact H2_) | with_reducible exact H | (rw [hy448]; exact H) | exact H
  have Ny448 := Aside0.mk hy448
  clear hy448
  have H' := Aside0.mk H
  clear H
  go_enter Try.func33, Try.ntmps33
  go_wp2_with (first | ((with_reducible refine gqC (f := 42) rfl ?_); refine GS.gL (some 9) Try.func42 #[.slice A0 l0.length c0] ?_; (with_reducible refine (spileref39_right.calls k _ _ l0 true _ ?side1 ?side2 A3.out).mono ?_); (case side1 => exact GS.rC HR0.out); (case side2 => exact HC0.out); rintro e w5 ⟨rfl, hb⟩; refine ⟨_, rfl, ?_⟩; have n0_ := Aside0.mk (lqT (GS.lB HB.out) hb); clear HB; have HB := n0_; clear n0_; (try clear hb); (try clear hb2); (try clear hk); (try clear hi)) | ((with_reducible refine gqD (N := 11) rfl ?_); refine Kd.R_lit k34 _ 34 ?hg (N := 11) ?hd (xs := ([] : List (S34))) (inner := []) (ok := fun _ => True) (okp := fun _ => True) ?hr ?hp (fun _ hk => hk) trivial (Below.refl _ _) (Nat.le_refl _) (by simp) ?_; (case hd => rfl); (case hg => rfl); (case hr => first | (go_simp; done) | (go_simp; rfl)); (case hp => exact (Reps.none _ _)); intro v449 w6 ho7 hb hg_ hnew_; clear hg_ hnew_; (first | rw [← Ny448.out] at ho7 | (simp only [Int.reduceToNat] at ho7; rw [← Ny448.out] at ho7)); have n0_ := Aside0.mk (Kd.R_lower ho7 (lqZ (GS.lB HB.out))); have n1_ := Aside0.mk (lqT (GS.lB HB.out) hb); clear HB; have HO450 := n0_; have HB := n1_; clear n0_ n1_; clear hb ho7))
  go_loopg [6, 7] k (fun kq v6 v7 w' => ∃ (x6_1 : List (S34)) (x7_1 : Int), v7 = .int .i64 x7_1 ∧ Aside0 (spileref39_History.l0 kq l0 a1 x6_1 x7_1 = some (r1, r2)) ∧ Aside0 (kq ≤ k) ∧ Aside0 (Kd.R k34 34 w' w.heap.size (fun _ => True) v6 x6_1) ∧ Aside0 (Below w.heap.size w w'))
  case atStart => exact ⟨(y448), (0), (by first | rfl | (simp; done) | (simp [*]; done)), H', ⟨Nat.le_refl _⟩, ⟨by (with_reducible repeat (first | apply Kd.R_alloc | apply Kd.R_drewN | apply Kd.R_drew)); exact HO450.out⟩, ⟨GS.lB HB.out⟩⟩
  case round =>
   clear H'
   try clear p2
   try clear c3
   try clear c4
   obtain ⟨x6_1, x7_1, rfl, HA, HK1, HO_6, HB⟩ := hrel
   cases gk with
   | zero => exact absurd HA.out (by simp [spileref39_History.l0])
   | succ k1 =>
    have H := HA.out
    clear HA
    simp only [spileref39_History.l0] at H
    by_cases c8 : x7_1 < (l0.length : Int)
    ·rw [if_pos c8] at H
     have c8b0 : decide (x7_1 < (l0.length : Int)) = true := decide_eq_true c8
     clear c8
     by_cases c9 : 0 ≤ x7_1
     ·rw [if_pos c9] at H
      have c9b0 : decide (0 ≤ x7_1) = true := decide_eq_true c9
      clear c9
      by_cases c10 : ((rd_T34 l0 x7_1).f2) = a1
      ·rw [if_pos c10] at H
       have c10b0 : (((rd_T34 l0 x7_1).f2) == a1) = true := beq_iff_eq.mpr c10
       try simp only [beq_self_eq_true, Bool.not_true, Bool.false_or, Bool.true_and] at c10b0
       have c10b1 : (((rd_T34 l0 x7_1).f2) != a1) = false := bne_eq_false_iff_eq.mpr c10
       clear c10
       by_cases c11 : x6_1.length < 4398046511104
       ·rw [if_pos c11] at H
        have LMc11 := Aside0.mk c11
        clear c11
        obtain ⟨y453, hy453⟩ : ∃ y_ : List (S34), y_ = (x6_1 ++ [(⟨(rd_T34 l0 x7_1).f0, (rd_T34 l0 x7_1).f1, (rd_T34 l0 x7_1).f2, (rd_T34 l0 x7_1).f3⟩ : S34)]) := ⟨_, rfl⟩
        replace H : (spileref39_History.l0 k1 l0 a1 y453 (wrap64 (x7_1 + 1))) = some (r1, r2) := by first | (rw [hy453]; with_reducible exact H) | (have H2_ := (Option.bind_some _ _).symm.trans H; rw [hy453]; with_reducible exact H2_) | (have H2_ := (Option.bind_some _ _).symm.trans H; with_reducible exact H2_) | with_reducible exact H | (rw [hy453]; exact H) | exact H
        have Ny453 := Aside0.mk hy453
        clear hy453
        have H' := Aside0.mk H
        clear H
        have p451 : 0 ≤ (x7_1 : Int) := of_decide_eq_true (by first | (with_reducible assumption) | assumption)
        have q451 : x7_1 < (l0.length : Int) := of_decide_eq_true (by first | (with_reducible assumption) | assumption)
        obtain ⟨ad451, e451, hx451_0, hx451_1, hx451_2, hx451_3⟩ := at_T34 HR0.out x7_1 p451 q451
        cases e451
        replace hx451_0 := (HB.out.cell (World.block_lt_of_cell? w _ hx451_0)).trans hx451_0
        replace hx451_1 := (HB.out.cell (World.block_lt_of_cell? w _ hx451_1)).trans hx451_1
        replace hx451_2 := (HB.out.cell (World.block_lt_of_cell? w _ hx451_2)).trans hx451_2
        replace hx451_3 := (HB.out.cell (World.block_lt_of_cell? w _ hx451_3)).trans hx451_3
        replace p451 := eq_true p451
        replace q451 := eq_true q451
        have p452 : 0 ≤ (x7_1 : Int) := of_decide_eq_true (by first | (with_reducible assumption) | assumption)
        have q452 : x7_1 < (l0.length : Int) := of_decide_eq_true (by first | (with_reducible assumption) | assumption)
        obtain ⟨ad452, e452, hx452_0, hx452_1, hx452_2, hx452_3⟩ := at_T34 HR0.out x7_1 p452 q452
        obtain rfl : ad451 = ad452 := (by injection e452)
        replace hx452_0 := (HB.out.cell (World.block_lt_of_cell? w _ hx452_0)).trans hx452_0
        replace hx452_1 := (HB.out.cell (World.block_lt_of_cell? w _ hx452_1)).trans hx452_1
        replace hx452_2 := (HB.out.cell (World.block_lt_of_cell? w _ hx452_2)).trans hx452_2
        replace hx452_3 := (HB.out.cell (World.block_lt_of_cell? w _ hx452_3)).trans hx452_3
        replace p452 := eq_true p452
        replace q452 := eq_true q452
        go_wp2_with (first | ((with_reducible refine gate_builtin (b := .append) (xs := #[.tmp 25, .tmp 30]) rfl ?_); at_builtin; refine Kd.R_append k34 (w0 := w) w.heap.size rfl (.tmp 25) (.tmp 30) 22 34 (.agg #[(.int .i64 0), (.int .i64 0), (.int .i64 0), (.int .i64 0)]) 32 rfl Try.underlying22 info34 rfl (by decide) (by omega) u6 x6_1 (⟨(rd_T34 l0 x7_1).f0, (rd_T34 l0 x7_1).f1, (rd_T34 l0 x7_1).f2, (rd_T34 l0 x7_1).f3⟩ : S34) [.int .i64 ((rd_T34 l0 x7_1).f0), .int .i64 ((rd_T34 l0 x7_1).f1), .int .i64 ((rd_T34 l0 x7_1).f2), .int .i64 ((rd_T34 l0 x7_1).f3)] (fun _ => True) (fun _ => False) rfl rfl ?aP (fun _ hk => hk.elim) ?aF ?aO ?aB ?aS ?aL ?_; (case aP => exact k34_mkM _ _ _ (⟨(rd_T34 l0 x7_1).f0, (rd_T34 l0 x7_1).f1, (rd_T34 l0 x7_1).f2, (rd_T34 l0 x7_1).f3⟩ : S34)); (case aB => exact (GS.lB HB.out)); (case aF => exact (fun _ _ => trivial)); (case aO => exact (GS.rR HO_6.out)); (case aS => exact (lqZ (GS.lB HB.out))); (case aL => have := LMc11.out; omega); intro v454 w12 ho hb hg hat; rw [← Ny453.out] at ho; have n0_ := Aside0.mk (hb); have n1_ := Aside0.mk (ho); clear HB; clear HO_6; have HB := n0_; have HO455 := n1_; clear n0_ n1_; clear ho hb hg hat))
        go_roundg k1
        case measure => have := HK1.out; omega
        case rel => exact ⟨(y453), (wrap64 (x7_1 + 1)), (by first | rfl | (simp; done) | (simp [*]; done)), H', ⟨by have := HK1.out; omega⟩, ⟨by (with_reducible repeat (first | apply Kd.R_alloc | apply Kd.R_drewN | apply Kd.R_drew)); exact HO455.out⟩, ⟨GS.lB HB.out⟩⟩
       ·rw [if_neg c11] at H
        exact absurd H (by simp)
      ·rw [if_neg c10] at H
       have c10b0 : (((rd_T34 l0 x7_1).f2) == a1) = false := beq_eq_false_iff_ne.mpr c10
       try simp only [beq_self_eq_true, Bool.not_true, Bool.false_or, Bool.true_and] at c10b0
       have c10b1 : (((rd_T34 l0 x7_1).f2) != a1) = true := bne_iff_ne.mpr c10
       have H' := Aside0.mk H
       clear H
       have p451 : 0 ≤ (x7_1 : Int) := of_decide_eq_true (by first | (with_reducible assumption) | assumption)
       have q451 : x7_1 < (l0.length : Int) := of_decide_eq_true (by first | (with_reducible assumption) | assumption)
       obtain ⟨ad451, e451, hx451_0, hx451_1, hx451_2, hx451_3⟩ := at_T34 HR0.out x7_1 p451 q451
       cases e451
       replace hx451_0 := (HB.out.cell (World.block_lt_of_cell? w _ hx451_0)).trans hx451_0
       replace hx451_1 := (HB.out.cell (World.block_lt_of_cell? w _ hx451_1)).trans hx451_1
       replace hx451_2 := (HB.out.cell (World.block_lt_of_cell? w _ hx451_2)).trans hx451_2
       replace hx451_3 := (HB.out.cell (World.block_lt_of_cell? w _ hx451_3)).trans hx451_3
       replace p451 := eq_true p451
       replace q451 := eq_true q451
       go_wp2
       go_roundg k1
       case measure => have := HK1.out; omega
       case rel => exact ⟨(x6_1), (wrap64 (x7_1 + 1)), (by first | rfl | (simp; done) | (simp [*]; done)), H', ⟨by have := HK1.out; omega⟩, ⟨by (with_reducible repeat (first | apply Kd.R_alloc | apply Kd.R_drewN | apply Kd.R_drew)); exact HO_6.out⟩, ⟨GS.lB HB.out⟩⟩
     ·rw [if_neg c9] at H
      exact absurd H (by simp)
    ·rw [if_neg c8] at H
     have c8b0 : decide (x7_1 < (l0.length : Int)) = false := decide_eq_false c8
     clear c8
     by_cases c13 : (x6_1.length : Int) = 0
     ·rw [if_pos c13] at H
      have c13b0 : ((x6_1.length : Int) == 0) = true := beq_iff_eq.mpr c13
      try simp only [beq_self_eq_true, Bool.not_true, Bool.false_or, Bool.true_and] at c13b0
      have c13b1 : ((x6_1.length : Int) != 0) = false := bne_eq_false_iff_eq.mpr c13
      clear c13
      simp only [Option.some.injEq, Prod.mk.injEq] at H
      obtain ⟨rfl, rfl⟩ := H
      obtain ⟨Ao14, co14, eo14⟩ := Kd.R_slice HO_6.out
      subst eo14
      go_wp2
      go_ret2
      exact ⟨_, by first | rfl | (simp [errW_none, errW_some] <;> rfl) | (simp [*, errW_none, errW_some] <;> rfl), by first | exact Kd.R_nil _ _ _ _ _ | exact Kd.N_nil _ _ _ _ _ | exact Kd.V_nil _ _ _ _ _ | exact Kd.Q_nil _ _ _ _ _ | exact Kd.S_nil _ _ _ _ _, GS.lB HB.out⟩
     ·rw [if_neg c13] at H
      have c13b0 : ((x6_1.length : Int) == 0) = false := beq_eq_false_iff_ne.mpr c13
      try simp only [beq_self_eq_true, Bool.not_true, Bool.false_or, Bool.true_and] at c13b0
      have c13b1 : ((x6_1.length : Int) != 0) = true := bne_iff_ne.mpr c13
      have c13b2 : ¬ (x6_1 = []) := fun h_ => c13 (by rw [h_]; rfl)
      simp only [Option.some.injEq, Prod.mk.injEq] at H
      obtain ⟨rfl, rfl⟩ := H
      obtain ⟨Ao15, co15, eo15⟩ := Kd.R_slice HO_6.out
      subst eo15
      go_wp2
      go_ret2
      exact ⟨_, by first | rfl | (simp [errW_none, errW_some] <;> rfl) | (simp [*, errW_none, errW_some] <;> rfl), by (with_reducible repeat (first | apply Kd.R_alloc | apply Kd.R_drewN | apply Kd.R_drew)); exact HO_6.out, GS.lB HB.out⟩
 ·replace c4 := Bool.eq_false_iff.mpr c4
  subst c4
  have H1 : (some (([] : List (S34)), 1)) = some (r1, r2) := by rw [if_neg (show ¬ (false = true) by decide)] at H; exact H
  clear H
  have H := H1
  clear H1
  simp only [Option.some.injEq, Prod.mk.injEq] at H
  obtain ⟨rfl, rfl⟩ := H
  go_enter Try.func33, Try.ntmps33
  go_wp2_with (first | ((with_reducible refine gqC (f := 42) rfl ?_); refine GS.gL (some 9) Try.func42 #[.slice A0 l0.length c0] ?_; (with_reducible refine (spileref39_right.calls k _ _ l0 false _ ?side1 ?side2 A3.out).mono ?_); (case side1 => exact GS.rC HR0.out); (case side2 => exact HC0.out); rintro e w16 ⟨rfl, hb⟩; refine ⟨_, rfl, ?_⟩; have n0_ := Aside0.mk (lqT (GS.lB HB.out) hb); clear HB; have HB := n0_; clear n0_; (try clear hb); (try clear hb2); (try clear hk); (try clear hi)))
  go_ret2
  exact ⟨_, by first | rfl | (simp [errW_none, errW_some] <;> rfl) | (simp [*, errW_none, errW_some] <;> rfl), by first | exact Kd.R_nil _ _ _ _ _ | exact Kd.N_nil _ _ _ _ _ | exact Kd.V_nil _ _ _ _ _ | exact Kd.Q_nil _ _ _ _ _ | exact Kd.S_nil _ _ _ _ _, GS.lB HB.out⟩

/-! ### spileref39_Same: function 34 -/
def spileref39_Same.l0 : Nat → List (S34) → List (S34) → Int → Option (Bool)
 | 0, _, _, _ => none
 | k + 1, x0, x1, x5 => if x5 < (x0.length : Int) then (if 0 ≤ x5 then (if x5 < (x1.length : Int) then (if (!(((rd_T34 x0 x5).f0) == ((rd_T34 x1 x5).f0)) || (!(((rd_T34 x0 x5).f1) == ((rd_T34 x1 x5).f1)) || (!(((rd_T34 x0 x5).f2) == ((rd_T34 x1 x5).f2)) || (!(((rd_T34 x0 x5).f3) == ((rd_T34 x1 x5).f3)))))) = true then (some false) else (spileref39_Same.l0 k x0 x1 (wrap64 (x5 + 1)))) else (none)) else (none)) else (some true)
def spileref39_Same.f (k : Nat) (l0 : List (S34)) (l1 : List (S34)) : Option (Bool) := if (l0.length : Int) = (l1.length : Int) then (spileref39_Same.l0 k l0 l1 0) else (some false)
theorem spileref39_Same.mono_l : ∀ k, (∀ y0 y1 y2, LeO (spileref39_Same.l0 k y0 y1 y2) (spileref39_Same.l0 (k + 1) y0 y1 y2))
 | 0 => fun _ _ _ r h => by simp [spileref39_Same.l0] at h
 | k + 1 => by
  have ih0 := spileref39_Same.mono_l k
  ·intro y0 y1 y2
   unfold spileref39_Same.l0
   repeat' first
   | (with_reducible exact ih0 _ _ _)
   | (with_reducible exact LeO.refl _)
   | (with_reducible exact LeO.none _)
   | (with_reducible refine LeO.ite ?_ ?_)
   | (with_reducible refine LeO.bind ?_ (fun _ => ?_))
   | exact ih0 _ _ _
   | exact LeO.none _
   | refine LeO.ite ?_ ?_
   | refine LeO.bind ?_ (fun _ => ?_)
theorem spileref39_Same.mono : ∀ a0 a1 k, LeO (spileref39_Same.f k a0 a1) (spileref39_Same.f (k + 1) a0 a1) := by
 intro a0 a1 k
 have ih0 := spileref39_Same.mono_l k
 unfold spileref39_Same.f
 repeat' first
   | (with_reducible exact ih0 _ _ _)
   | (with_reducible exact LeO.refl _)
   | (with_reducible exact LeO.none _)
   | (with_reducible refine LeO.ite ?_ ?_)
   | (with_reducible refine LeO.bind ?_ (fun _ => ?_))
   | exact ih0 _ _ _
   | exact LeO.none _
   | refine LeO.ite ?_ ?_
   | refine LeO.bind ?_ (fun _ => ?_)
set_option maxHeartbeats 8000000 in
set_option maxRecDepth 100000 in
theorem spileref39_Same.calls (k : Nat) (A0 : Option Addr) (c0 : Nat) (l0 : List (S34)) (A1 : Option Addr) (c1 : Nat) (l1 : List (S34)) (r : Bool) (w : World) (hr0 : Kd.C k34 w A0 l0.length l0) (hc0 : l0.length ≤ c0) (hr1 : Kd.C k34 w A1 l1.length l1) (hc1 : l1.length ≤ c1) (h : spileref39_Same.f k l0 l1 = some r) :
  Calls Try.prog 34 #[.slice A0 l0.length c0, .slice A1 l1.length c1] w fun e w' => e = .returned (.bool r) ∧ Drawn0 w w' := by
 have hu34 := Try.underlying34
 have HR0 := Aside0.mk hr0
 have HC0 := Aside0.mk hc0
 clear hr0 hc0
 have HR1 := Aside0.mk hr1
 have HC1 := Aside0.mk hc1
 clear hr1 hc1
 have H : (if (l0.length : Int) = (l1.length : Int) then (spileref39_Same.l0 k l0 l1 0) else (some false)) = some r := h
 clear h
 by_cases c3 : (l0.length : Int) = (l1.length : Int)
 ·rw [if_pos c3] at H
  have c3b0 : ((l0.length : Int) == (l1.length : Int)) = true := beq_iff_eq.mpr c3
  try simp only [beq_self_eq_true, Bool.not_true, Bool.false_or, Bool.true_and] at c3b0
  have c3b1 : ((l0.length : Int) != (l1.length : Int)) = false := bne_eq_false_iff_eq.mpr c3
  have c3b2 : (l0.length == l1.length) = true := by first | simpa using c3 | (simp at c3 ⊢; omega)
  clear c3
  have H' := Aside0.mk H
  clear H
  go_enter Try.func34, Try.ntmps34
  go_wp2
  repeat (go_quiet (fail); try go_wp2)
  go_loopg [5] k (fun kq v5 w' => ∃ (x5_1 : Int), v5 = .int .i64 x5_1 ∧ Aside0 (spileref39_Same.l0 kq l0 l1 x5_1 = some r) ∧ Aside0 (kq ≤ k) ∧ Drawn0 w w')
  case atStart => exact ⟨(0), (by first | rfl | (simp; done) | (simp [*]; done)), H', ⟨Nat.le_refl _⟩, by repeat (first | exact Drawn0.refl _ | apply Drawn0.step)⟩
  case round =>
   clear H'
   try clear c1
   try clear p2
   try clear c3
   try clear c3b0
   try clear c3b1
   try clear c3b2
   obtain ⟨x5_1, rfl, HA, HK1, ⟨m1, rfl⟩⟩ := hrel
   cases gk with
   | zero => exact absurd HA.out (by simp [spileref39_Same.l0])
   | succ k1 =>
    have H := HA.out
    clear HA
    simp only [spileref39_Same.l0] at H
    by_cases c4 : x5_1 < (l0.length : Int)
    ·rw [if_pos c4] at H
     have c4b0 : decide (x5_1 < (l0.length : Int)) = true := decide_eq_true c4
     clear c4
     by_cases c5 : 0 ≤ x5_1
     ·rw [if_pos c5] at H
      have c5b0 : decide (0 ≤ x5_1) = true := decide_eq_true c5
      clear c5
      by_cases c6 : x5_1 < (l1.length : Int)
      ·rw [if_pos c6] at H
       have c6b0 : decide (x5_1 < (l1.length : Int)) = true := decide_eq_true c6
       clear c6
       by_cases c7 : (!(((rd_T34 l0 x5_1).f0) == ((rd_T34 l1 x5_1).f0)) || (!(((rd_T34 l0 x5_1).f1) == ((rd_T34 l1 x5_1).f1)) || (!(((rd_T34 l0 x5_1).f2) == ((rd_T34 l1 x5_1).f2)) || (!(((rd_T34 l0 x5_1).f3) == ((rd_T34 l1 x5_1).f3)))))) = true
       ·rw [if_pos c7] at H
        have c7b0 : (!(((rd_T34 l0 x5_1).f0) == ((rd_T34 l1 x5_1).f0)) || (!(((rd_T34 l0 x5_1).f1) == ((rd_T34 l1 x5_1).f1)) || (!(((rd_T34 l0 x5_1).f2) == ((rd_T34 l1 x5_1).f2)) || (!(((rd_T34 l0 x5_1).f3) == ((rd_T34 l1 x5_1).f3)))))) = true := c7
        try simp only [beq_self_eq_true, Bool.not_true, Bool.false_or, Bool.true_and] at c7b0
        clear c7
        obtain rfl := Option.some.inj H
        have p456 : 0 ≤ (x5_1 : Int) := of_decide_eq_true (by first | (with_reducible assumption) | assumption)
        have q456 : x5_1 < (l0.length : Int) := of_decide_eq_true (by first | (with_reducible assumption) | assumption)
        obtain ⟨ad456, e456, hx456_0, hx456_1, hx456_2, hx456_3⟩ := at_T34 HR0.out x5_1 p456 q456
        cases e456
        replace p456 := eq_true p456
        replace q456 := eq_true q456
        have p457 : 0 ≤ (x5_1 : Int) := of_decide_eq_true (by first | (with_reducible assumption) | assumption)
        have q457 : x5_1 < (l1.length : Int) := of_decide_eq_true (by first | (with_reducible assumption) | assumption)
        obtain ⟨ad457, e457, hx457_0, hx457_1, hx457_2, hx457_3⟩ := at_T34 HR1.out x5_1 p457 q457
        cases e457
        replace p457 := eq_true p457
        replace q457 := eq_true q457
        go_wp2
        repeat (go_quiet (fail); try go_wp2)
        go_ret
        exact ⟨by first | rfl | (simp; done) | (simp [*]; done), by repeat (first | exact Drawn0.refl _ | apply Drawn0.step)⟩
       ·rw [if_neg c7] at H
        have c7b0 : (!(((rd_T34 l0 x5_1).f0) == ((rd_T34 l1 x5_1).f0)) || (!(((rd_T34 l0 x5_1).f1) == ((rd_T34 l1 x5_1).f1)) || (!(((rd_T34 l0 x5_1).f2) == ((rd_T34 l1 x5_1).f2)) || (!(((rd_T34 l0 x5_1).f3) == ((rd_T34 l1 x5_1).f3)))))) = false := by simpa using c7
        try simp only [beq_self_eq_true, Bool.not_true, Bool.false_or, Bool.true_and] at c7b0
        clear c7
        have H' := Aside0.mk H
        clear H
        have p456 : 0 ≤ (x5_1 : Int) := of_decide_eq_true (by first | (with_reducible assumption) | assumption)
        have q456 : x5_1 < (l0.length : Int) := of_decide_eq_true (by first | (with_reducible assumption) | assumption)
        obtain ⟨ad456, e456, hx456_0, hx456_1, hx456_2, hx456_3⟩ := at_T34 HR0.out x5_1 p456 q456
        cases e456
        replace p456 := eq_true p456
        replace q456 := eq_true q456
        have p457 : 0 ≤ (x5_1 : Int) := of_decide_eq_true (by first | (with_reducible assumption) | assumption)
        have q457 : x5_1 < (l1.length : Int) := of_decide_eq_true (by first | (with_reducible assumption) | assumption)
        obtain ⟨ad457, e457, hx457_0, hx457_1, hx457_2, hx457_3⟩ := at_T34 HR1.out x5_1 p457 q457
        cases e457
        replace p457 := eq_true p457
        replace q457 := eq_true q457
        go_wp2
        repeat (go_quiet (fail); try go_wp2)
        go_roundg k1
        case measure => have := HK1.out; omega
        case rel => exact ⟨(wrap64 (x5_1 + 1)), (by first | rfl | (simp; done) | (simp [*]; done)), H', ⟨by have := HK1.out; omega⟩, by repeat (first | exact Drawn0.refl _ | apply Drawn0.step)⟩
      ·rw [if_neg c6] at H
       exact absurd H (by simp)
     ·rw [if_neg c5] at H
      exact absurd H (by simp)
    ·rw [if_neg c4] at H
     have c4b0 : decide (x5_1 < (l0.length : Int)) = false := decide_eq_false c4
     clear c4
     obtain rfl := Option.some.inj H
     go_wp2
     repeat (go_quiet (fail); try go_wp2)
     go_ret
     exact ⟨by first | rfl | (simp; done) | (simp [*]; done), by repeat (first | exact Drawn0.refl _ | apply Drawn0.step)⟩
 ·rw [if_neg c3] at H
  have c3b0 : ((l0.length : Int) == (l1.length : Int)) = false := beq_eq_false_iff_ne.mpr c3
  try simp only [beq_self_eq_true, Bool.not_true, Bool.false_or, Bool.true_and] at c3b0
  have c3b1 : ((l0.length : Int) != (l1.length : Int)) = true := bne_iff_ne.mpr c3
  have c3b2 : (l0.length == l1.length) = false := by first | simpa using c3 | (simp at c3 ⊢; omega)
  obtain rfl := Option.some.inj H
  go_enter Try.func34, Try.ntmps34
  go_wp2
  repeat (go_quiet (fail); try go_wp2)
  go_ret
  exact ⟨by first | rfl | (simp; done) | (simp [*]; done), by repeat (first | exact Drawn0.refl _ | apply Drawn0.step)⟩

end Go.Proofs.Ytfjenooajbdcmaa.K
