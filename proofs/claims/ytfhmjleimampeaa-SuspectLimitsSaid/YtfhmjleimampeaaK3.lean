-- PRINTED by print.py (a twelfth state) out of the translation. Not trusted: Lean checks it.
import Derived.Test.YtfhmjleimampeaaK0
import Derived.Test.YtfhmjleimampeaaK3a
import Derived.Test.YtfhmjleimampeaaGShort
import Derived.Test.YtfhmjleimampeaaGAtLeast
import Derived.Test.YtfhmjleimampeaaGOf
namespace Go.Proofs.Ytfhmjleimampeaa.K
open Go.RowKit Go.Proofs.YtfhmjleimampeaaW.PrintWords Go.Proofs.YtfhmjleimampeaaW.PrintLast Go.Proofs.YtfhmjleimampeaaW.PrintMore
attribute [local go_sem] max2_int min2_int max_two min_two max_three min_three max_four min_four   -- for this text's walks alone
set_option linter.unusedVariables false
set_option linter.unusedSimpArgs false

/-! ### suspect_Test: function 21 -/
def suspect_Test.f (l0 : List (S30)) (a1 : Int) (a2 : Int) : Option (Int × Int × Int) := (suspect_Of.f l0 a1 a2).bind fun bt117 => (if bt117.2.2 = 0 then (if (bt117.2.1.length : Int) = 0 then (some (0, 0, 9)) else ((rank_AtLeast.f bt117.1 bt117.2.1).bind fun bt124 => (some (bt124.1, bt124.2.1, bt124.2.2)))) else (some (0, 0, bt117.2.2)))
set_option maxHeartbeats 8000000 in
set_option maxRecDepth 100000 in
theorem suspect_Test.calls (A0 : Option Addr) (c0 : Nat) (l0 : List (S30)) (a1 : Int) (a2 : Int) (r1 : Int) (r2 : Int) (r3 : Int) (w : World) (hr0 : Kd.C k30 w A0 l0.length l0) (hc0 : l0.length ≤ c0) (h : suspect_Test.f l0 a1 a2 = some (r1, r2, r3)) :
  Calls Try.prog 21 #[.slice A0 l0.length c0, .int .i64 a1, .int .i64 a2] w fun e w' => e = .returned (.tuple #[.int .i64 r1, .int .i64 r2, .int .i64 r3]) ∧ Below w.heap.size w w' := by
 have HR0 := Aside0.mk hr0
 have HC0 := Aside0.mk hc0
 clear hr0 hc0
 have HB := Aside0.mk (Below.refl w.heap.size w)
 have H : ((suspect_Of.f l0 a1 a2).bind fun bt117 => (if bt117.2.2 = 0 then (if (bt117.2.1.length : Int) = 0 then (some (0, 0, 9)) else ((rank_AtLeast.f bt117.1 bt117.2.1).bind fun bt124 => (some (bt124.1, bt124.2.1, bt124.2.2)))) else (some (0, 0, bt117.2.2)))) = some (r1, r2, r3) := h
 clear h
 replace H := Option.bind_eq_some_iff.mp H
 obtain ⟨⟨t117, t118, t119⟩, A40, H⟩ := H
 replace H : (if t119 = 0 then (if (t118.length : Int) = 0 then (some (0, 0, 9)) else ((rank_AtLeast.f t117 t118).bind fun bt124 => (some (bt124.1, bt124.2.1, bt124.2.2)))) else (some (0, 0, t119))) = some (r1, r2, r3) := H
 have A4 := Aside0.mk A40
 clear A40
 by_cases c5 : t119 = 0
 ·rw [if_pos c5] at H
  have c5b0 : (t119 == 0) = true := beq_iff_eq.mpr c5
  try simp only [beq_self_eq_true, Bool.not_true, Bool.false_or, Bool.true_and] at c5b0
  have c5b1 : (t119 != 0) = false := bne_eq_false_iff_eq.mpr c5
  clear c5
  by_cases c6 : (t118.length : Int) = 0
  ·rw [if_pos c6] at H
   have c6b0 : ((t118.length : Int) == 0) = true := beq_iff_eq.mpr c6
   try simp only [beq_self_eq_true, Bool.not_true, Bool.false_or, Bool.true_and] at c6b0
   have c6b1 : ((t118.length : Int) != 0) = false := bne_eq_false_iff_eq.mpr c6
   clear c6
   simp only [Option.some.injEq, Prod.mk.injEq] at H
   obtain ⟨rfl, rfl, rfl⟩ := H
   go_enter Try.func21, Try.ntmps21
   go_wp2_with (first | ((with_reducible refine gqC (f := 15) rfl ?_); refine GS.gL (some 16) Try.func15 #[.slice A0 l0.length c0, .int .i64 a1, .int .i64 a2] ?_; (with_reducible refine (suspect_Of.calls _ _ l0 a1 a2 t117 t118 t119 _ ?side1 ?side2 A4.out).mono ?_); (case side1 => exact GS.rC HR0.out); (case side2 => exact HC0.out); rintro e w7 ⟨v120, v122, rfl, ho0, ho1, hb⟩; refine ⟨_, rfl, ?_⟩; have n0_ := Aside0.mk (Kd.R_lower ho0 (lqZ (GS.lB HB.out))); have n1_ := Aside0.mk (Kd.R_lower ho1 (lqZ (GS.lB HB.out))); have n2_ := Aside0.mk (lqT (GS.lB HB.out) hb); clear HB; have HO121 := n0_; have HO123 := n1_; have HB := n2_; clear n0_ n1_ n2_; (try clear hb); (try clear hb2); (try clear hk); (try clear hi); (try clear ho0); (try clear ho1); obtain ⟨Ao8, co8, eo8⟩ := Kd.R_slice HO123.out; subst eo8))
   go_ret3
   exact ⟨by first | rfl | (simp [errW_none, errW_some] <;> rfl) | (simp [*, errW_none, errW_some] <;> rfl), GS.lB HB.out⟩
  ·rw [if_neg c6] at H
   have c6b0 : ((t118.length : Int) == 0) = false := beq_eq_false_iff_ne.mpr c6
   try simp only [beq_self_eq_true, Bool.not_true, Bool.false_or, Bool.true_and] at c6b0
   have c6b1 : ((t118.length : Int) != 0) = true := bne_iff_ne.mpr c6
   have c6b2 : ¬ (t118 = []) := fun h_ => c6 (by rw [h_]; rfl)
   replace H := Option.bind_eq_some_iff.mp H
   obtain ⟨⟨t124, t125, t126⟩, A90, H⟩ := H
   replace H : (some (t124, t125, t126)) = some (r1, r2, r3) := H
   have A9 := Aside0.mk A90
   clear A90
   simp only [Option.some.injEq, Prod.mk.injEq] at H
   obtain ⟨rfl, rfl, rfl⟩ := H
   go_enter Try.func21, Try.ntmps21
   go_wp2_with (first | ((with_reducible refine gqC (f := 15) rfl ?_); refine GS.gL (some 16) Try.func15 #[.slice A0 l0.length c0, .int .i64 a1, .int .i64 a2] ?_; (with_reducible refine (suspect_Of.calls _ _ l0 a1 a2 t117 t118 t119 _ ?side1 ?side2 A4.out).mono ?_); (case side1 => exact GS.rC HR0.out); (case side2 => exact HC0.out); rintro e w10 ⟨v120, v122, rfl, ho0, ho1, hb⟩; refine ⟨_, rfl, ?_⟩; have n0_ := Aside0.mk (Kd.R_lower ho0 (lqZ (GS.lB HB.out))); have n1_ := Aside0.mk (Kd.R_lower ho1 (lqZ (GS.lB HB.out))); have n2_ := Aside0.mk (lqT (GS.lB HB.out) hb); clear HB; have HO121 := n0_; have HO123 := n1_; have HB := n2_; clear n0_ n1_ n2_; (try clear hb); (try clear hb2); (try clear hk); (try clear hi); (try clear ho0); (try clear ho1); obtain ⟨Ao11, co11, eo11⟩ := Kd.R_slice HO123.out; subst eo11; obtain ⟨Ao12, co12, eo12⟩ := Kd.R_slice HO121.out; subst eo12) | ((with_reducible refine gqC (f := 45) rfl ?_); refine GS.gL (some 30) Try.func45 #[.slice Ao12 t117.length co12, .slice Ao11 t118.length co11] ?_; (with_reducible refine (rank_AtLeast.calls _ _ t117 _ _ t118 t124 t125 t126 _ ?side1 ?side2 ?side3 ?side4 A9.out).mono ?_); (case side1 => repeat (first | exact (Kd.R_reads' HO121.out).2.2 | (with_reducible refine Kd.C_alloc ?_ _) | (with_reducible refine Kd.C_drewN ?_ _) | (with_reducible refine Kd.C_drew ?_))); (case side2 => exact (Kd.R_reads' HO121.out).2.1); (case side3 => repeat (first | exact (Kd.R_reads' HO123.out).2.2 | (with_reducible refine Kd.C_alloc ?_ _) | (with_reducible refine Kd.C_drewN ?_ _) | (with_reducible refine Kd.C_drew ?_))); (case side4 => exact (Kd.R_reads' HO123.out).2.1); rintro e w13 ⟨rfl, hb⟩; refine ⟨_, rfl, ?_⟩; have n0_ := Aside0.mk (Kd.R_below (GS.rR HO121.out) hb); have n1_ := Aside0.mk (Kd.R_below (GS.rR HO123.out) hb); have n2_ := Aside0.mk (lqT (GS.lB HB.out) hb); clear HO121; clear HO123; clear HB; have HO121 := n0_; have HO123 := n1_; have HB := n2_; clear n0_ n1_ n2_; (try clear hb); (try clear hb2); (try clear hk); (try clear hi)))
   go_ret3
   exact ⟨by first | rfl | (simp [errW_none, errW_some] <;> rfl) | (simp [*, errW_none, errW_some] <;> rfl), GS.lB HB.out⟩
 ·rw [if_neg c5] at H
  have c5b0 : (t119 == 0) = false := beq_eq_false_iff_ne.mpr c5
  try simp only [beq_self_eq_true, Bool.not_true, Bool.false_or, Bool.true_and] at c5b0
  have c5b1 : (t119 != 0) = true := bne_iff_ne.mpr c5
  simp only [Option.some.injEq, Prod.mk.injEq] at H
  obtain ⟨rfl, rfl, rfl⟩ := H
  go_enter Try.func21, Try.ntmps21
  go_wp2_with (first | ((with_reducible refine gqC (f := 15) rfl ?_); refine GS.gL (some 16) Try.func15 #[.slice A0 l0.length c0, .int .i64 a1, .int .i64 a2] ?_; (with_reducible refine (suspect_Of.calls _ _ l0 a1 a2 t117 t118 t119 _ ?side1 ?side2 A4.out).mono ?_); (case side1 => exact GS.rC HR0.out); (case side2 => exact HC0.out); rintro e w14 ⟨v120, v122, rfl, ho0, ho1, hb⟩; refine ⟨_, rfl, ?_⟩; have n0_ := Aside0.mk (Kd.R_lower ho0 (lqZ (GS.lB HB.out))); have n1_ := Aside0.mk (Kd.R_lower ho1 (lqZ (GS.lB HB.out))); have n2_ := Aside0.mk (lqT (GS.lB HB.out) hb); clear HB; have HO121 := n0_; have HO123 := n1_; have HB := n2_; clear n0_ n1_ n2_; (try clear hb); (try clear hb2); (try clear hk); (try clear hi); (try clear ho0); (try clear ho1)))
  go_ret3
  exact ⟨by first | rfl | (simp [errW_none, errW_some] <;> rfl) | (simp [*, errW_none, errW_some] <;> rfl), GS.lB HB.out⟩

end Go.Proofs.Ytfhmjleimampeaa.K
