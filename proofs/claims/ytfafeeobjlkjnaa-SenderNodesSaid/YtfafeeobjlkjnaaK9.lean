-- PRINTED by print.py (a twelfth state) out of the translation. Not trusted: Lean checks it.
import Derived.Test.YtfafeeobjlkjnaaK0
import Derived.Test.YtfafeeobjlkjnaaGShort
namespace Go.Proofs.Ytfafeeobjlkjnaa.K
open Go.RowKit Go.Proofs.YtfafeeobjlkjnaaW.PrintWords Go.Proofs.YtfafeeobjlkjnaaW.PrintLast Go.Proofs.YtfafeeobjlkjnaaW.PrintMore
attribute [local go_sem] max2_int min2_int max_two min_two max_three min_three max_four min_four   -- for this text's walks alone
set_option linter.unusedVariables false
set_option linter.unusedSimpArgs false

/-! ### spileref42_Few: function 11 -/
def spileref42_Few.f (a0_0 : Int) (a0_1 : Int) (l0_2 : List (S33)) : Option (Bool) := if (l0_2.length : Int) ≤ 14 then (some true) else (some ((l0_2.length : Int) == 65))
set_option maxHeartbeats 8000000 in
set_option maxRecDepth 100000 in
theorem spileref42_Few.calls (a0_0 : Int) (a0_1 : Int) (A0_2 : Option Addr) (c0_2 : Nat) (l0_2 : List (S33)) (r : Bool) (w : World) (hr0_2 : Kd.C k33 w A0_2 l0_2.length l0_2) (hc0_2 : l0_2.length ≤ c0_2) (h : spileref42_Few.f a0_0 a0_1 l0_2 = some r) :
  Calls Try.prog 11 #[.agg #[.int .i64 a0_0, .int .i64 a0_1, .slice A0_2 l0_2.length c0_2]] w fun e w' => e = .returned (.bool r) ∧ Below w.heap.size w w' := by
 have hu24 := Try.underlying24
 have HR0_2 := Aside0.mk hr0_2
 have HC0_2 := Aside0.mk hc0_2
 clear hr0_2 hc0_2
 have HB := Aside0.mk (Below.refl w.heap.size w)
 have H : (if (l0_2.length : Int) ≤ 14 then (some true) else (some ((l0_2.length : Int) == 65))) = some r := h
 clear h
 by_cases c2 : (l0_2.length : Int) ≤ 14
 ·rw [if_pos c2] at H
  have c2b0 : decide ((l0_2.length : Int) ≤ 14) = true := decide_eq_true c2
  have c2b1 : decide (l0_2.length ≤ 14) = true := decide_eq_true (by omega)
  clear c2
  obtain rfl := Option.some.inj H
  go_enter Try.func11, Try.ntmps11
  go_wp2_with (first | ((with_reducible refine gqD (N := 1) rfl ?_); (try (refine gate_guard (by rfl) ?_; dsimp only)); refine GS.bx (N := 1) (cs := #[.int .i64 a0_0, .int .i64 a0_1, .slice A0_2 l0_2.length c0_2]) (t := 24) ?_; intro gb221 hg w3 hbox hb; have n0_ := Aside0.mk (lqT (GS.lB HB.out) hb); have n1_ := Aside0.mk (hbox); have n2_ := Aside0.mk ((by rw [hg]; exact (lqZ (GS.lB HB.out)) : w.heap.size ≤ gb221)); have n3_ := Aside0.mk ((by rw [hg]; exact (lqZ (GS.lB HB.out)) : w.heap.size ≤ gb221)); clear HB; have HB := n0_; have BK221 := n1_; have GW221 := n2_; have GE221 := n3_; clear n0_ n1_ n2_ n3_; clear hb hbox hg; obtain ⟨hcz4_0, hcz4_1, hcz4_2, hfz4_0, hfz4_1, hfz4_2⟩ := GS.c3 BK221.out))
  go_ret
  exact ⟨by first | rfl | (simp [errW_none, errW_some] <;> rfl) | (simp [*, errW_none, errW_some] <;> rfl), GS.lB HB.out⟩
 ·rw [if_neg c2] at H
  have c2b0 : decide ((l0_2.length : Int) ≤ 14) = false := decide_eq_false c2
  have c2b1 : decide (l0_2.length ≤ 14) = false := decide_eq_false (by omega)
  clear c2
  obtain rfl := Option.some.inj H
  go_enter Try.func11, Try.ntmps11
  go_wp2_with (first | ((with_reducible refine gqD (N := 1) rfl ?_); (try (refine gate_guard (by rfl) ?_; dsimp only)); refine GS.bx (N := 1) (cs := #[.int .i64 a0_0, .int .i64 a0_1, .slice A0_2 l0_2.length c0_2]) (t := 24) ?_; intro gb221 hg w5 hbox hb; have n0_ := Aside0.mk (lqT (GS.lB HB.out) hb); have n1_ := Aside0.mk (hbox); have n2_ := Aside0.mk ((by rw [hg]; exact (lqZ (GS.lB HB.out)) : w.heap.size ≤ gb221)); have n3_ := Aside0.mk ((by rw [hg]; exact (lqZ (GS.lB HB.out)) : w.heap.size ≤ gb221)); clear HB; have HB := n0_; have BK221 := n1_; have GW221 := n2_; have GE221 := n3_; clear n0_ n1_ n2_ n3_; clear hb hbox hg; obtain ⟨hcz6_0, hcz6_1, hcz6_2, hfz6_0, hfz6_1, hfz6_2⟩ := GS.c3 BK221.out))
  go_ret
  exact ⟨by first | rfl | (simp [errW_none, errW_some] <;> rfl) | (simp [*, errW_none, errW_some] <;> rfl), GS.lB HB.out⟩

/-! ### spileref40_Node: function 41 -/
def spileref40_Node.f (a0 : Int) : Option (Bool) := if a0 ≥ 1 then (some (decide (a0 ≤ 99))) else (some false)
set_option maxHeartbeats 8000000 in
set_option maxRecDepth 100000 in
theorem spileref40_Node.calls (a0 : Int) (r : Bool) (w : World) (h : spileref40_Node.f a0 = some r) :
  Calls Try.prog 41 #[.int .i64 a0] w fun e w' => e = .returned (.bool r) ∧ Drawn0 w w' := by
 have H : (if a0 ≥ 1 then (some (decide (a0 ≤ 99))) else (some false)) = some r := h
 clear h
 by_cases c2 : a0 ≥ 1
 ·rw [if_pos c2] at H
  have c2b0 : decide (1 ≤ a0) = true := decide_eq_true c2
  clear c2
  obtain rfl := Option.some.inj H
  go_enter Try.func41, Try.ntmps41
  go_wp2
  go_ret
  exact ⟨by first | rfl | (simp; done) | (simp [*]; done), by repeat (first | exact Drawn0.refl _ | apply Drawn0.step)⟩
 ·rw [if_neg c2] at H
  have c2b0 : decide (1 ≤ a0) = false := decide_eq_false c2
  clear c2
  obtain rfl := Option.some.inj H
  go_enter Try.func41, Try.ntmps41
  go_wp2
  go_ret
  exact ⟨by first | rfl | (simp; done) | (simp [*]; done), by repeat (first | exact Drawn0.refl _ | apply Drawn0.step)⟩

/-! ### spileref42_New: function 13 -/
def spileref42_New.f (a0 : Int) : Option (Int × Int × (List (S33)) × Int) := (spileref40_Node.f a0).bind fun t223 => (if t223 = true then (some (a0, 1, ([] : List (S33)), 0)) else (some (0, 0, ([] : List (S33)), 2)))
set_option maxHeartbeats 8000000 in
set_option maxRecDepth 100000 in
theorem spileref42_New.calls (a0 : Int) (r1 : Int) (r2 : Int) (r3 : List (S33)) (r4 : Int) (w : World) (h : spileref42_New.f a0 = some (r1, r2, r3, r4)) :
  Calls Try.prog 13 #[.int .i64 a0] w fun e w' => ∃ v2_ : Value, e = .returned (.tuple #[.agg #[.int .i64 r1, .int .i64 r2, v2_], .int .i64 r4]) ∧ Kd.R k33 33 w' w.heap.size (fun _ => True) v2_ r3 ∧ Below w.heap.size w w' := by
 have hu24 := Try.underlying24
 have HB := Aside0.mk (Below.refl w.heap.size w)
 have H : ((spileref40_Node.f a0).bind fun t223 => (if t223 = true then (some (a0, 1, ([] : List (S33)), 0)) else (some (0, 0, ([] : List (S33)), 2)))) = some (r1, r2, r3, r4) := h
 clear h
 replace H := Option.bind_eq_some_iff.mp H
 obtain ⟨t223, A20, H⟩ := H
 replace H : (if t223 = true then (some (a0, 1, ([] : List (S33)), 0)) else (some (0, 0, ([] : List (S33)), 2))) = some (r1, r2, r3, r4) := H
 have A2 := Aside0.mk A20
 clear A20
 by_cases c3 : t223 = true
 ·subst c3
  have H1 : (some (a0, 1, ([] : List (S33)), 0)) = some (r1, r2, r3, r4) := by rw [if_pos rfl] at H; exact H
  clear H
  have H := H1
  clear H1
  simp only [Option.some.injEq, Prod.mk.injEq] at H
  obtain ⟨rfl, rfl, rfl, rfl⟩ := H
  go_enter Try.func13, Try.ntmps13
  go_wp2_with (first | ((with_reducible refine gqD (N := 2) rfl ?_); refine GS.bx (N := 2) (cs := #[.int .i64 0, .int .i64 0, .slice none 0 0]) (t := 24) ?_; intro gb222 hg w4 hbox hb; have n0_ := Aside0.mk (lqT (GS.lB HB.out) hb); have n1_ := Aside0.mk (hbox); have n2_ := Aside0.mk ((by rw [hg]; exact (lqZ (GS.lB HB.out)) : w.heap.size ≤ gb222)); have n3_ := Aside0.mk ((by rw [hg]; exact (lqZ (GS.lB HB.out)) : w.heap.size ≤ gb222)); clear HB; have HB := n0_; have BK222 := n1_; have GW222 := n2_; have GE222 := n3_; clear n0_ n1_ n2_ n3_; clear hb hbox hg) | ((with_reducible refine gqC (f := 41) rfl ?_); refine GS.gL (some 5) Try.func41 #[.int .i64 a0] ?_; (with_reducible refine (spileref40_Node.calls a0 true _ A2.out).mono ?_); rintro e w' ⟨rfl, ⟨nd, rfl⟩⟩; refine ⟨_, rfl, ?_⟩; (try (rw [drewN_self w4]; generalize hq_ : World.drewN w4 _ = w4; have n0_ : Aside0 (w4.heap[gb222]? = some (.cells #[.int .i64 0, .int .i64 0, .slice none 0 0] 24 (0, 0))) := ⟨by rw [← hq_]; exact (by (with_reducible repeat (first | refine bqN ?_ _ | refine bqD ?_ | refine bqA ?_ _)); exact BK222.out)⟩; have n1_ : Aside0 (Below w.heap.size w w4) := ⟨by rw [← hq_]; exact (GS.lB HB.out)⟩; clear BK222 HB hq_; have BK222 := n0_; have HB := n1_; clear n0_ n1_)); obtain ⟨hcz5_0, hcz5_1, hcz5_2, hfz5_0, hfz5_1, hfz5_2⟩ := GS.c3 BK222.out))
  refine bodyPost_ret (results_ct rfl _ _ gb222 24 #[.int .i64 a0, .int .i64 1, .slice none 0 0] (0, 0) _ rfl (by (with_reducible repeat (first | refine bqN ?_ _ | refine bqD ?_ | refine bqA ?_ _)); refine bqP (cs := #[.int .i64 a0, .int .i64 1, .slice none 0 0]) ?_ 2 _ rfl; (with_reducible repeat (first | refine bqN ?_ _ | refine bqD ?_ | refine bqA ?_ _)); refine bqP (cs := #[.int .i64 a0, .int .i64 0, .slice none 0 0]) ?_ 1 _ rfl; (with_reducible repeat (first | refine bqN ?_ _ | refine bqD ?_ | refine bqA ?_ _)); refine bqP (cs := #[.int .i64 0, .int .i64 0, .slice none 0 0]) ?_ 0 _ rfl; (with_reducible repeat (first | refine bqN ?_ _ | refine bqD ?_ | refine bqA ?_ _)); exact BK222.out) Try.underlying24 rfl (by kernel_rfl)) rfl ?_
  exact ⟨_, by first | rfl | (simp [errW_none, errW_some] <;> rfl) | (simp [*, errW_none, errW_some] <;> rfl), by first | exact Kd.R_nil _ _ _ _ _ | exact Kd.N_nil _ _ _ _ _ | exact Kd.V_nil _ _ _ _ _ | exact Kd.Q_nil _ _ _ _ _ | exact Kd.S_nil _ _ _ _ _, GS.lB HB.out⟩
 ·replace c3 := Bool.eq_false_iff.mpr c3
  subst c3
  have H1 : (some (0, 0, ([] : List (S33)), 2)) = some (r1, r2, r3, r4) := by rw [if_neg (show ¬ (false = true) by decide)] at H; exact H
  clear H
  have H := H1
  clear H1
  simp only [Option.some.injEq, Prod.mk.injEq] at H
  obtain ⟨rfl, rfl, rfl, rfl⟩ := H
  go_enter Try.func13, Try.ntmps13
  go_wp2_with (first | ((with_reducible refine gqD (N := 2) rfl ?_); refine GS.bx (N := 2) (cs := #[.int .i64 0, .int .i64 0, .slice none 0 0]) (t := 24) ?_; intro gb222 hg w6 hbox hb; have n0_ := Aside0.mk (lqT (GS.lB HB.out) hb); have n1_ := Aside0.mk (hbox); have n2_ := Aside0.mk ((by rw [hg]; exact (lqZ (GS.lB HB.out)) : w.heap.size ≤ gb222)); have n3_ := Aside0.mk ((by rw [hg]; exact (lqZ (GS.lB HB.out)) : w.heap.size ≤ gb222)); clear HB; have HB := n0_; have BK222 := n1_; have GW222 := n2_; have GE222 := n3_; clear n0_ n1_ n2_ n3_; clear hb hbox hg) | ((with_reducible refine gqC (f := 41) rfl ?_); refine GS.gL (some 5) Try.func41 #[.int .i64 a0] ?_; (with_reducible refine (spileref40_Node.calls a0 false _ A2.out).mono ?_); rintro e w' ⟨rfl, ⟨nd, rfl⟩⟩; refine ⟨_, rfl, ?_⟩; (try (rw [drewN_self w6]; generalize hq_ : World.drewN w6 _ = w6; have n0_ : Aside0 (w6.heap[gb222]? = some (.cells #[.int .i64 0, .int .i64 0, .slice none 0 0] 24 (0, 0))) := ⟨by rw [← hq_]; exact (by (with_reducible repeat (first | refine bqN ?_ _ | refine bqD ?_ | refine bqA ?_ _)); exact BK222.out)⟩; have n1_ : Aside0 (Below w.heap.size w w6) := ⟨by rw [← hq_]; exact (GS.lB HB.out)⟩; clear BK222 HB hq_; have BK222 := n0_; have HB := n1_; clear n0_ n1_)); obtain ⟨hcz7_0, hcz7_1, hcz7_2, hfz7_0, hfz7_1, hfz7_2⟩ := GS.c3 BK222.out))
  refine bodyPost_ret (results_ct rfl _ _ gb222 24 #[.int .i64 0, .int .i64 0, .slice none 0 0] (0, 0) _ rfl (by (with_reducible repeat (first | refine bqN ?_ _ | refine bqD ?_ | refine bqA ?_ _)); refine bqP (cs := #[.int .i64 0, .int .i64 0, .slice none 0 0]) ?_ 2 _ rfl; (with_reducible repeat (first | refine bqN ?_ _ | refine bqD ?_ | refine bqA ?_ _)); refine bqP (cs := #[.int .i64 0, .int .i64 0, .slice none 0 0]) ?_ 1 _ rfl; (with_reducible repeat (first | refine bqN ?_ _ | refine bqD ?_ | refine bqA ?_ _)); refine bqP (cs := #[.int .i64 0, .int .i64 0, .slice none 0 0]) ?_ 0 _ rfl; (with_reducible repeat (first | refine bqN ?_ _ | refine bqD ?_ | refine bqA ?_ _)); exact BK222.out) Try.underlying24 rfl (by kernel_rfl)) rfl ?_
  exact ⟨_, by first | rfl | (simp [errW_none, errW_some] <;> rfl) | (simp [*, errW_none, errW_some] <;> rfl), by first | exact Kd.R_nil _ _ _ _ _ | exact Kd.N_nil _ _ _ _ _ | exact Kd.V_nil _ _ _ _ _ | exact Kd.Q_nil _ _ _ _ _ | exact Kd.S_nil _ _ _ _ _, GS.lB HB.out⟩

/-! ### spileref42_Copy: function 15 -/
def spileref42_Copy.f (a0_0 : Int) (a0_1 : Int) (l0_2 : List (S33)) : Option (Int × Int × (List (S33))) := (some (([] : List (S33)) : List (S33))).bind fun y226 => (if y226.length + l0_2.length < 1759218604441 then (some (a0_0, a0_1, (y226 ++ l0_2))) else (none))
set_option maxHeartbeats 8000000 in
set_option maxRecDepth 100000 in
theorem spileref42_Copy.calls (a0_0 : Int) (a0_1 : Int) (A0_2 : Option Addr) (c0_2 : Nat) (l0_2 : List (S33)) (r1 : Int) (r2 : Int) (r3 : List (S33)) (w : World) (hr0_2 : Kd.C k33 w A0_2 l0_2.length l0_2) (hc0_2 : l0_2.length ≤ c0_2) (h : spileref42_Copy.f a0_0 a0_1 l0_2 = some (r1, r2, r3)) :
  Calls Try.prog 15 #[.agg #[.int .i64 a0_0, .int .i64 a0_1, .slice A0_2 l0_2.length c0_2]] w fun e w' => ∃ v2_ : Value, e = .returned (.agg #[.int .i64 r1, .int .i64 r2, v2_]) ∧ Kd.R k33 33 w' w.heap.size (fun _ => True) v2_ r3 ∧ Below w.heap.size w w' := by
 have hu24 := Try.underlying24
 have HR0_2 := Aside0.mk hr0_2
 have HC0_2 := Aside0.mk hc0_2
 clear hr0_2 hc0_2
 have HB := Aside0.mk (Below.refl w.heap.size w)
 have H : ((some (([] : List (S33)) : List (S33))).bind fun y226 => (if y226.length + l0_2.length < 1759218604441 then (some (a0_0, a0_1, (y226 ++ l0_2))) else (none))) = some (r1, r2, r3) := h
 clear h
 obtain ⟨y226, hy226⟩ : ∃ y_ : List (S33), y_ = (([] : List (S33))) := ⟨_, rfl⟩
 replace H : (if y226.length + l0_2.length < 1759218604441 then (some (a0_0, a0_1, (y226 ++ l0_2))) else (none)) = some (r1, r2, r3) := by first | (rw [hy226]; with_reducible exact H) | (have H2_ := (Option.bind_some _ _).symm.trans H; rw [hy226]; with_reducible exact H2_) | (have H2_ := (Option.bind_some _ _).symm.trans H; with_reducible exact H2_) | with_reducible exact H | (rw [hy226]; exact H) | exact H
 have Ny226 := Aside0.mk hy226
 clear hy226
 by_cases c2 : y226.length + l0_2.length < 1759218604441
 ·rw [if_pos c2] at H
  have LMc2 := Aside0.mk c2
  clear c2
  obtain ⟨y229, hy229⟩ : ∃ y_ : List (S33), y_ = (y226 ++ l0_2) := ⟨_, rfl⟩
  replace H : (some (a0_0, a0_1, y229)) = some (r1, r2, r3) := by first | (rw [hy229]; with_reducible exact H) | (have H2_ := (Option.bind_some _ _).symm.trans H; rw [hy229]; with_reducible exact H2_) | (have H2_ := (Option.bind_some _ _).symm.trans H; with_reducible exact H2_) | with_reducible exact H | (rw [hy229]; exact H) | exact H
  have Ny229 := Aside0.mk hy229
  clear hy229
  simp only [Option.some.injEq, Prod.mk.injEq] at H
  obtain ⟨rfl, rfl, rfl⟩ := H
  go_enter Try.func15, Try.ntmps15
  go_wp2_with (first | ((with_reducible refine gqD (N := 1) rfl ?_); refine GS.bx (N := 1) (cs := #[.int .i64 a0_0, .int .i64 a0_1, .slice A0_2 l0_2.length c0_2]) (t := 24) ?_; intro gb224 hg w3 hbox hb; have n0_ := Aside0.mk (lqT (GS.lB HB.out) hb); have n1_ := Aside0.mk (hbox); have n2_ := Aside0.mk ((by rw [hg]; exact (lqZ (GS.lB HB.out)) : w.heap.size ≤ gb224)); have n3_ := Aside0.mk ((by rw [hg]; exact (lqZ (GS.lB HB.out)) : w.heap.size ≤ gb224)); clear HB; have HB := n0_; have BK224 := n1_; have GW224 := n2_; have GE224 := n3_; clear n0_ n1_ n2_ n3_; clear hb hbox hg) | ((with_reducible refine gqD (N := 2) rfl ?_); refine GS.bx (N := 2) (cs := #[.int .i64 0, .int .i64 0, .slice none 0 0]) (t := 24) ?_; intro gb225 hg w4 hbox hb; have n0_ := Aside0.mk (bqB (g := gb224) (o := .cells #[.int .i64 a0_0, .int .i64 a0_1, .slice A0_2 l0_2.length c0_2] 24 (0, 0)) (by (with_reducible repeat (first | refine bqN ?_ _ | refine bqD ?_ | refine bqA ?_ _)); exact BK224.out) hb); have n1_ := Aside0.mk (lqT (GS.lB HB.out) hb); have n2_ := Aside0.mk (hbox); have n3_ := Aside0.mk ((by rw [hg]; exact (lqZ (GS.lB HB.out)) : w.heap.size ≤ gb225)); have n4_ := Aside0.mk ((by rw [hg]; exact (lqZ (GS.lB HB.out)) : w.heap.size ≤ gb225)); have n5_ := Aside0.mk ((by rw [hg]; exact Nat.ne_of_lt (blk_lt (g := gb224) (o := .cells #[.int .i64 a0_0, .int .i64 a0_1, .slice A0_2 l0_2.length c0_2] 24 (0, 0)) (by (with_reducible repeat (first | refine bqN ?_ _ | refine bqD ?_ | refine bqA ?_ _)); exact BK224.out)) : gb224 ≠ gb225)); have n6_ := Aside0.mk ((by rw [hg]; exact Nat.ne_of_gt (blk_lt (g := gb224) (o := .cells #[.int .i64 a0_0, .int .i64 a0_1, .slice A0_2 l0_2.length c0_2] 24 (0, 0)) (by (with_reducible repeat (first | refine bqN ?_ _ | refine bqD ?_ | refine bqA ?_ _)); exact BK224.out)) : gb225 ≠ gb224)); clear BK224; clear HB; have BK224 := n0_; have HB := n1_; have BK225 := n2_; have GW225 := n3_; have GE225 := n4_; have NB224_225 := n5_; have NB225_224 := n6_; clear n0_ n1_ n2_ n3_ n4_ n5_ n6_; clear hb hbox hg) | ((with_reducible refine gqD (N := 3) rfl ?_); refine Kd.R_lit k33 _ 33 ?hg (N := 3) ?hd (xs := ([] : List (S33))) (inner := []) (ok := fun _ => True) (okp := fun _ => True) ?hr ?hp (fun _ hk => hk) trivial (Below.refl _ _) (Nat.le_refl _) (by simp) ?_; (case hd => rfl); (case hg => rfl); (case hr => first | (go_simp; done) | (go_simp; rfl)); (case hp => exact (Reps.none _ _)); intro v227 w5 ho6 hb hg_ hnew_; clear hg_ hnew_; (first | rw [← Ny226.out] at ho6 | (simp only [Int.reduceToNat] at ho6; rw [← Ny226.out] at ho6)); have n0_ := Aside0.mk (Kd.R_lower ho6 (lqZ (GS.lB HB.out))); have n1_ := Aside0.mk (bqB (g := gb224) (o := .cells #[.int .i64 a0_0, .int .i64 a0_1, .slice A0_2 l0_2.length c0_2] 24 (0, 0)) (by (with_reducible repeat (first | refine bqN ?_ _ | refine bqD ?_ | refine bqA ?_ _)); exact BK224.out) hb); have n2_ := Aside0.mk (bqB (g := gb225) (o := .cells #[.int .i64 0, .int .i64 0, .slice none 0 0] 24 (0, 0)) (by (with_reducible repeat (first | refine bqN ?_ _ | refine bqD ?_ | refine bqA ?_ _)); exact BK225.out) hb); have n3_ := Aside0.mk (lqT (GS.lB HB.out) hb); clear BK224; clear BK225; clear HB; have HO228 := n0_; have BK224 := n1_; have BK225 := n2_; have HB := n3_; clear n0_ n1_ n2_ n3_; clear hb ho6; have hnb7 := NB224_225.out; have hnc7 := NB225_224.out; obtain ⟨hcz8_0, hcz8_1, hcz8_2, hfz8_0, hfz8_1, hfz8_2⟩ := GS.c3 BK224.out) | ((with_reducible refine gate_builtin (b := .append) (xs := #[.tmp 3, .tmp 5]) rfl ?_); at_builtin; refine Kd.R_append_rows k33 (w0 := w) w.heap.size rfl (.tmp 3) (.tmp 5) 22 33 (.agg #[(.int .i64 0), (.int .i64 0), (.int .i64 0), (.int .i64 0), (.int .i64 0), (.int .i64 0), (.int .i64 0), (.int .i64 0), (.int .i64 0), (.int .i64 0)]) 80 rfl Try.underlying22 info33 rfl (by decide) (by omega) v227 y226 l0_2 _ _ _ (fun _ => True) (fun _ => False) rfl rfl ?aO ?aR (fun _ _ h => h) (fun _ h => h.elim) ?aF ?aB ?aS ?aL ?_; (case aR => repeat (first | exact (Kd.C_below HR0_2.out HB.out) | (with_reducible refine Kd.C_alloc ?_ _) | (with_reducible refine Kd.C_drewN ?_ _) | (with_reducible refine Kd.C_drew ?_))); (case aB => exact (GS.lB HB.out)); (case aF => exact (fun _ _ => trivial)); (case aO => exact (GS.rR HO228.out)); (case aS => exact (lqZ (GS.lB HB.out))); (case aL => have := LMc2.out; omega); intro v230 w9 ho hb hg hat; rw [← Ny229.out] at ho; have n0_ := Aside0.mk (blk_grown (g := gb224) (o := .cells #[.int .i64 a0_0, .int .i64 a0_1, .slice A0_2 l0_2.length c0_2] 24 (0, 0)) (by (with_reducible repeat (first | refine bqN ?_ _ | refine bqD ?_ | refine bqA ?_ _)); exact BK224.out) hg (Kd.R_ne HO228.out BK224.out (by decide))); have n1_ := Aside0.mk (blk_grown (g := gb225) (o := .cells #[.int .i64 0, .int .i64 0, .slice none 0 0] 24 (0, 0)) (by (with_reducible repeat (first | refine bqN ?_ _ | refine bqD ?_ | refine bqA ?_ _)); exact BK225.out) hg (Kd.R_ne HO228.out BK225.out (by decide))); have n2_ := Aside0.mk (hb); have n3_ := Aside0.mk (ho); clear BK224; clear BK225; clear HB; clear HO228; have BK224 := n0_; have BK225 := n1_; have HB := n2_; have HO231 := n3_; clear n0_ n1_ n2_ n3_; clear ho hb hg hat; obtain ⟨Ao10, co10, eo10⟩ := Kd.R_slice HO231.out; subst eo10; obtain ⟨hcz11_0, hcz11_1, hcz11_2, hfz11_0, hfz11_1, hfz11_2⟩ := GS.c3 BK224.out; obtain ⟨hcz12_0, hcz12_1, hcz12_2, hfz12_0, hfz12_1, hfz12_2⟩ := GS.c3 BK225.out))
  refine bodyPost_ret (results_cell_row rfl _ _ gb225 24 #[.int .i64 a0_0, .int .i64 a0_1, .slice Ao10 y229.length co10] (0, 0) _ rfl (by (with_reducible repeat (first | refine bqN ?_ _ | refine bqD ?_ | refine bqA ?_ _)); refine bqP (cs := #[.int .i64 a0_0, .int .i64 a0_1, .slice none 0 0]) ?_ 2 _ rfl; (with_reducible repeat (first | refine bqN ?_ _ | refine bqD ?_ | refine bqA ?_ _)); refine bqP (cs := #[.int .i64 a0_0, .int .i64 0, .slice none 0 0]) ?_ 1 _ rfl; (with_reducible repeat (first | refine bqN ?_ _ | refine bqD ?_ | refine bqA ?_ _)); refine bqP (cs := #[.int .i64 0, .int .i64 0, .slice none 0 0]) ?_ 0 _ rfl; (with_reducible repeat (first | refine bqN ?_ _ | refine bqD ?_ | refine bqA ?_ _)); refine blk_far ?_ NB225_224.out _; (with_reducible repeat (first | refine bqN ?_ _ | refine bqD ?_ | refine bqA ?_ _)); exact BK225.out) Try.underlying24 rfl (by kernel_rfl)) rfl ?_
  exact ⟨_, by first | rfl | (simp [errW_none, errW_some] <;> rfl) | (simp [*, errW_none, errW_some] <;> rfl), by (with_reducible repeat (first | apply Kd.R_alloc | apply Kd.R_drewN | apply Kd.R_drew)); exact Kd.R_mono (Kd.R_far (p := ⟨gb225, 2, none⟩) (Kd.R_far (p := ⟨gb225, 1, none⟩) (Kd.R_far (p := ⟨gb225, 0, none⟩) (Kd.R_far (p := ⟨gb224, 2, none⟩) (Kd.R_types (Kd.R_types HO231.out BK224.out (by decide)) BK225.out (by decide)) (fun _ hk => hk.1.2) (.slice Ao10 y229.length co10)) (fun _ hk => hk.2) (.int .i64 a0_0)) (fun _ hk => hk.2) (.int .i64 a0_1)) (fun _ hk => hk.2) (.slice Ao10 y229.length co10)) (fun _ hk => trivial), GS.lB HB.out⟩
 ·rw [if_neg c2] at H
  exact absurd H (by simp)

end Go.Proofs.Ytfafeeobjlkjnaa.K
