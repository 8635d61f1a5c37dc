-- PRINTED by print.py (a twelfth state) out of the translation. Not trusted: Lean checks it.
import Derived.Test.YtfjenooajbdcmaaK0
import Derived.Test.YtfjenooajbdcmaaGShort
import Derived.Test.YtfjenooajbdcmaaK9
import Derived.Test.YtfjenooajbdcmaaK10
import Derived.Test.YtfjenooajbdcmaaK12
import Derived.Test.YtfjenooajbdcmaaK13
namespace Go.Proofs.Ytfjenooajbdcmaa.K
open Go.RowKit Go.Proofs.YtfjenooajbdcmaaW.PrintWords Go.Proofs.YtfjenooajbdcmaaW.PrintLast Go.Proofs.YtfjenooajbdcmaaW.PrintMore
attribute [local go_sem] max2_int min2_int max_two min_two max_three min_three max_four min_four   -- for this text's walks alone
set_option linter.unusedVariables false
set_option linter.unusedSimpArgs false

/-! ### spileref39_Intact: function 15 -/
def spileref39_Intact.f (k : Nat) (l0 : List (S34)) (a1 : Int) (a2 : Int) : Option (List Int × Int) := (spileref39_right.f k l0).bind fun t308 => (if t308 = true then ((spileref39_id.f a1).bind fun t309 => (if t309 = true then ((spileref39_day.f a2).bind fun t310 => (if t310 = true then ((spileref39_intact.f k l0 a1 a2).bind fun t311 => (some (t311, 0))) else (some (([] : List Int), 2)))) else (some (([] : List Int), 2)))) else (some (([] : List Int), 1)))
theorem spileref39_Intact.mono : ∀ a0 a1 a2 k, LeO (spileref39_Intact.f k a0 a1 a2) (spileref39_Intact.f (k + 1) a0 a1 a2) := by
 intro a0 a1 a2 k
 unfold spileref39_Intact.f
 repeat' first
   | (with_reducible exact spileref39_intact.mono _ _ _ _)
   | (with_reducible exact spileref39_right.mono _ _)
   | (with_reducible exact LeO.refl _)
   | (with_reducible exact LeO.none _)
   | (with_reducible refine LeO.ite ?_ ?_)
   | (with_reducible refine LeO.bind ?_ (fun _ => ?_))
   | exact spileref39_intact.mono _ _ _ _
   | exact spileref39_right.mono _ _
   | exact LeO.none _
   | refine LeO.ite ?_ ?_
   | refine LeO.bind ?_ (fun _ => ?_)
set_option maxHeartbeats 8000000 in
set_option maxRecDepth 100000 in
theorem spileref39_Intact.calls (k : Nat) (A0 : Option Addr) (c0 : Nat) (l0 : List (S34)) (a1 : Int) (a2 : Int) (r1 : List Int) (r2 : Int) (w : World) (hr0 : Kd.C k34 w A0 l0.length l0) (hc0 : l0.length ≤ c0) (h : spileref39_Intact.f k l0 a1 a2 = some (r1, r2)) :
  Calls Try.prog 15 #[.slice A0 l0.length c0, .int .i64 a1, .int .i64 a2] w fun e w' => ∃ v0_ : Value, e = .returned (.tuple #[v0_, .int .i64 r2]) ∧ Kd.R (Kd.int .i64) 3 w' w.heap.size (fun _ => True) v0_ r1 ∧ Below w.heap.size w w' := by
 have HR0 := Aside0.mk hr0
 have HC0 := Aside0.mk hc0
 clear hr0 hc0
 have HB := Aside0.mk (Below.refl w.heap.size w)
 have H : ((spileref39_right.f k l0).bind fun t308 => (if t308 = true then ((spileref39_id.f a1).bind fun t309 => (if t309 = true then ((spileref39_day.f a2).bind fun t310 => (if t310 = true then ((spileref39_intact.f k l0 a1 a2).bind fun t311 => (some (t311, 0))) else (some (([] : List Int), 2)))) else (some (([] : List Int), 2)))) else (some (([] : List Int), 1)))) = some (r1, r2) := h
 clear h
 replace H := Option.bind_eq_some_iff.mp H
 obtain ⟨t308, A40, H⟩ := H
 replace H : (if t308 = true then ((spileref39_id.f a1).bind fun t309 => (if t309 = true then ((spileref39_day.f a2).bind fun t310 => (if t310 = true then ((spileref39_intact.f k l0 a1 a2).bind fun t311 => (some (t311, 0))) else (some (([] : List Int), 2)))) else (some (([] : List Int), 2)))) else (some (([] : List Int), 1))) = some (r1, r2) := H
 have A4 := Aside0.mk A40
 clear A40
 by_cases c5 : t308 = true
 ·subst c5
  have H1 : ((spileref39_id.f a1).bind fun t309 => (if t309 = true then ((spileref39_day.f a2).bind fun t310 => (if t310 = true then ((spileref39_intact.f k l0 a1 a2).bind fun t311 => (some (t311, 0))) else (some (([] : List Int), 2)))) else (some (([] : List Int), 2)))) = some (r1, r2) := by rw [if_pos rfl] at H; exact H
  clear H
  have H := H1
  clear H1
  replace H := Option.bind_eq_some_iff.mp H
  obtain ⟨t309, A60, H⟩ := H
  replace H : (if t309 = true then ((spileref39_day.f a2).bind fun t310 => (if t310 = true then ((spileref39_intact.f k l0 a1 a2).bind fun t311 => (some (t311, 0))) else (some (([] : List Int), 2)))) else (some (([] : List Int), 2))) = some (r1, r2) := H
  have A6 := Aside0.mk A60
  clear A60
  by_cases c7 : t309 = true
  ·subst c7
   have H1 : ((spileref39_day.f a2).bind fun t310 => (if t310 = true then ((spileref39_intact.f k l0 a1 a2).bind fun t311 => (some (t311, 0))) else (some (([] : List Int), 2)))) = some (r1, r2) := by rw [if_pos rfl] at H; exact H
   clear H
   have H := H1
   clear H1
   replace H := Option.bind_eq_some_iff.mp H
   obtain ⟨t310, A80, H⟩ := H
   replace H : (if t310 = true then ((spileref39_intact.f k l0 a1 a2).bind fun t311 => (some (t311, 0))) else (some (([] : List Int), 2))) = some (r1, r2) := H
   have A8 := Aside0.mk A80
   clear A80
   by_cases c9 : t310 = true
   ·subst c9
    have H1 : ((spileref39_intact.f k l0 a1 a2).bind fun t311 => (some (t311, 0))) = some (r1, r2) := by rw [if_pos rfl] at H; exact H
    clear H
    have H := H1
    clear H1
    replace H := Option.bind_eq_some_iff.mp H
    obtain ⟨t311, A100, H⟩ := H
    replace H : (some (t311, 0)) = some (r1, r2) := H
    have A10 := Aside0.mk A100
    clear A100
    simp only [Option.some.injEq, Prod.mk.injEq] at H
    obtain ⟨rfl, rfl⟩ := H
    go_enter Try.func15, Try.ntmps15
    go_wp2_with (first | ((with_reducible refine gqC (f := 42) rfl ?_); refine GS.gL (some 9) Try.func42 #[.slice A0 l0.length c0] ?_; (with_reducible refine (spileref39_right.calls k _ _ l0 true _ ?side1 ?side2 A4.out).mono ?_); (case side1 => exact GS.rC HR0.out); (case side2 => exact HC0.out); rintro e w11 ⟨rfl, hb⟩; refine ⟨_, rfl, ?_⟩; have n0_ := Aside0.mk (lqT (GS.lB HB.out) hb); clear HB; have HB := n0_; clear n0_; (try clear hb); (try clear hb2); (try clear hk); (try clear hi)) | ((with_reducible refine gqC (f := 43) rfl ?_); refine GS.gL (some 12) Try.func43 #[.int .i64 a1] ?_; (with_reducible refine (spileref39_id.calls a1 true _ A6.out).mono ?_); rintro e w' ⟨rfl, ⟨nd, rfl⟩⟩; refine ⟨_, rfl, ?_⟩) | (go_at_call 44; (with_reducible refine (spileref39_day.calls a2 true _ A8.out).mono ?_); rintro e w' ⟨rfl, ⟨nd, rfl⟩⟩) | ((with_reducible refine gqC (f := 45) rfl ?_); refine GS.gL (some 22) Try.func45 #[.slice A0 l0.length c0, .int .i64 a1, .int .i64 a2] ?_; (with_reducible refine (spileref39_intact.calls k _ _ l0 a1 a2 t311 _ ?side1 ?side2 A10.out).mono ?_); (case side1 => repeat (first | exact (Kd.C_below HR0.out (GS.lB HB.out)) | (with_reducible refine Kd.C_alloc ?_ _) | (with_reducible refine Kd.C_drewN ?_ _) | (with_reducible refine Kd.C_drew ?_))); (case side2 => exact HC0.out); rintro e w12 ⟨v312, rfl, ho0, hb⟩; refine ⟨_, rfl, ?_⟩; have n0_ := Aside0.mk (Kd.R_lower ho0 (lqZ (GS.lB HB.out))); have n1_ := Aside0.mk (lqT (GS.lB HB.out) hb); clear HB; have HO313 := n0_; have HB := n1_; clear n0_ n1_; (try clear hb); (try clear hb2); (try clear hk); (try clear hi); (try clear ho0)))
    go_ret2
    exact ⟨_, by first | rfl | (simp [errW_none, errW_some] <;> rfl) | (simp [*, errW_none, errW_some] <;> rfl), by (with_reducible repeat (first | apply Kd.R_alloc | apply Kd.R_drewN | apply Kd.R_drew)); exact HO313.out, GS.lB HB.out⟩
   ·replace c9 := Bool.eq_false_iff.mpr c9
    subst c9
    have H1 : (some (([] : List Int), 2)) = some (r1, r2) := by rw [if_neg (show ¬ (false = true) by decide)] at H; exact H
    clear H
    have H := H1
    clear H1
    simp only [Option.some.injEq, Prod.mk.injEq] at H
    obtain ⟨rfl, rfl⟩ := H
    go_enter Try.func15, Try.ntmps15
    go_wp2_with (first | ((with_reducible refine gqC (f := 42) rfl ?_); refine GS.gL (some 9) Try.func42 #[.slice A0 l0.length c0] ?_; (with_reducible refine (spileref39_right.calls k _ _ l0 true _ ?side1 ?side2 A4.out).mono ?_); (case side1 => exact GS.rC HR0.out); (case side2 => exact HC0.out); rintro e w13 ⟨rfl, hb⟩; refine ⟨_, rfl, ?_⟩; have n0_ := Aside0.mk (lqT (GS.lB HB.out) hb); clear HB; have HB := n0_; clear n0_; (try clear hb); (try clear hb2); (try clear hk); (try clear hi)) | ((with_reducible refine gqC (f := 43) rfl ?_); refine GS.gL (some 12) Try.func43 #[.int .i64 a1] ?_; (with_reducible refine (spileref39_id.calls a1 true _ A6.out).mono ?_); rintro e w' ⟨rfl, ⟨nd, rfl⟩⟩; refine ⟨_, rfl, ?_⟩) | (go_at_call 44; (with_reducible refine (spileref39_day.calls a2 false _ A8.out).mono ?_); rintro e w' ⟨rfl, ⟨nd, rfl⟩⟩))
    go_ret2
    exact ⟨_, by first | rfl | (simp [errW_none, errW_some] <;> rfl) | (simp [*, errW_none, errW_some] <;> rfl), by first | exact Kd.R_nil _ _ _ _ _ | exact Kd.N_nil _ _ _ _ _ | exact Kd.V_nil _ _ _ _ _ | exact Kd.Q_nil _ _ _ _ _ | exact Kd.S_nil _ _ _ _ _, GS.lB HB.out⟩
  ·replace c7 := Bool.eq_false_iff.mpr c7
   subst c7
   have H1 : (some (([] : List Int), 2)) = some (r1, r2) := by rw [if_neg (show ¬ (false = true) by decide)] at H; exact H
   clear H
   have H := H1
   clear H1
   simp only [Option.some.injEq, Prod.mk.injEq] at H
   obtain ⟨rfl, rfl⟩ := H
   go_enter Try.func15, Try.ntmps15
   go_wp2_with (first | ((with_reducible refine gqC (f := 42) rfl ?_); refine GS.gL (some 9) Try.func42 #[.slice A0 l0.length c0] ?_; (with_reducible refine (spileref39_right.calls k _ _ l0 true _ ?side1 ?side2 A4.out).mono ?_); (case side1 => exact GS.rC HR0.out); (case side2 => exact HC0.out); rintro e w14 ⟨rfl, hb⟩; refine ⟨_, rfl, ?_⟩; have n0_ := Aside0.mk (lqT (GS.lB HB.out) hb); clear HB; have HB := n0_; clear n0_; (try clear hb); (try clear hb2); (try clear hk); (try clear hi)) | ((with_reducible refine gqC (f := 43) rfl ?_); refine GS.gL (some 12) Try.func43 #[.int .i64 a1] ?_; (with_reducible refine (spileref39_id.calls a1 false _ A6.out).mono ?_); rintro e w' ⟨rfl, ⟨nd, rfl⟩⟩; refine ⟨_, rfl, ?_⟩))
   go_ret2
   exact ⟨_, by first | rfl | (simp [errW_none, errW_some] <;> rfl) | (simp [*, errW_none, errW_some] <;> rfl), by first | exact Kd.R_nil _ _ _ _ _ | exact Kd.N_nil _ _ _ _ _ | exact Kd.V_nil _ _ _ _ _ | exact Kd.Q_nil _ _ _ _ _ | exact Kd.S_nil _ _ _ _ _, GS.lB HB.out⟩
 ·replace c5 := Bool.eq_false_iff.mpr c5
  subst c5
  have H1 : (some (([] : List Int), 1)) = some (r1, r2) := by rw [if_neg (show ¬ (false = true) by decide)] at H; exact H
  clear H
  have H := H1
  clear H1
  simp only [Option.some.injEq, Prod.mk.injEq] at H
  obtain ⟨rfl, rfl⟩ := H
  go_enter Try.func15, Try.ntmps15
  go_wp2_with (first | ((with_reducible refine gqC (f := 42) rfl ?_); refine GS.gL (some 9) Try.func42 #[.slice A0 l0.length c0] ?_; (with_reducible refine (spileref39_right.calls k _ _ l0 false _ ?side1 ?side2 A4.out).mono ?_); (case side1 => exact GS.rC HR0.out); (case side2 => exact HC0.out); rintro e w15 ⟨rfl, hb⟩; refine ⟨_, rfl, ?_⟩; have n0_ := Aside0.mk (lqT (GS.lB HB.out) hb); clear HB; have HB := n0_; clear n0_; (try clear hb); (try clear hb2); (try clear hk); (try clear hi)))
  go_ret2
  exact ⟨_, by first | rfl | (simp [errW_none, errW_some] <;> rfl) | (simp [*, errW_none, errW_some] <;> rfl), by first | exact Kd.R_nil _ _ _ _ _ | exact Kd.N_nil _ _ _ _ _ | exact Kd.V_nil _ _ _ _ _ | exact Kd.Q_nil _ _ _ _ _ | exact Kd.S_nil _ _ _ _ _, GS.lB HB.out⟩

/-! ### spileref39_start: function 46 -/
def spileref39_start.j0 : Nat → Int → Int → Bool → Option (Int)
 | 0, _, _, _ => none
 | k + 1, x2, x3, x24 => if x24 = true then (some 2) else (if x2 > x3 then (some 5) else (some 0))
def spileref39_start.f (k : Nat) (l0 : List (S34)) (a1 : Int) (a2 : Int) (a3 : Int) : Option (Int) := (spileref39_right.f k l0).bind fun t314 => (if t314 = true then ((spileref39_id.f a1).bind fun t315 => (if t315 = true then ((spileref39_day.f a2).bind fun t316 => (if t316 = true then ((spileref39_day.f a3).bind fun t317 => (spileref39_start.j0 k a2 a3 (!t317))) else (spileref39_start.j0 k a2 a3 true))) else (spileref39_start.j0 k a2 a3 true))) else (some 1))
theorem spileref39_start.mono_l : ∀ k, (∀ y0 y1 y2, LeO (spileref39_start.j0 k y0 y1 y2) (spileref39_start.j0 (k + 1) y0 y1 y2))
 | 0 => fun _ _ _ r h => by simp [spileref39_start.j0] at h
 | k + 1 => by
  have ih0 := spileref39_start.mono_l k
  ·intro y0 y1 y2
   unfold spileref39_start.j0
   repeat' first
   | (with_reducible exact ih0 _ _ _)
   | (with_reducible exact spileref39_right.mono _ _)
   | (with_reducible exact LeO.refl _)
   | (with_reducible exact LeO.none _)
   | (with_reducible refine LeO.ite ?_ ?_)
   | (with_reducible refine LeO.bind ?_ (fun _ => ?_))
   | exact ih0 _ _ _
   | exact spileref39_right.mono _ _
   | exact LeO.none _
   | refine LeO.ite ?_ ?_
   | refine LeO.bind ?_ (fun _ => ?_)
theorem spileref39_start.mono : ∀ a0 a1 a2 a3 k, LeO (spileref39_start.f k a0 a1 a2 a3) (spileref39_start.f (k + 1) a0 a1 a2 a3) := by
 intro a0 a1 a2 a3 k
 have ih0 := spileref39_start.mono_l k
 unfold spileref39_start.f
 repeat' first
   | (with_reducible exact ih0 _ _ _)
   | (with_reducible exact spileref39_right.mono _ _)
   | (with_reducible exact LeO.refl _)
   | (with_reducible exact LeO.none _)
   | (with_reducible refine LeO.ite ?_ ?_)
   | (with_reducible refine LeO.bind ?_ (fun _ => ?_))
   | exact ih0 _ _ _
   | exact spileref39_right.mono _ _
   | exact LeO.none _
   | refine LeO.ite ?_ ?_
   | refine LeO.bind ?_ (fun _ => ?_)
set_option maxHeartbeats 8000000 in
set_option maxRecDepth 100000 in
theorem spileref39_start.calls (k : Nat) (A0 : Option Addr) (c0 : Nat) (l0 : List (S34)) (a1 : Int) (a2 : Int) (a3 : Int) (r : Int) (w : World) (hr0 : Kd.C k34 w A0 l0.length l0) (hc0 : l0.length ≤ c0) (h : spileref39_start.f k l0 a1 a2 a3 = some r) :
  Calls Try.prog 46 #[.slice A0 l0.length c0, .int .i64 a1, .int .i64 a2, .int .i64 a3] w fun e w' => e = .returned (.int .i64 r) ∧ Below w.heap.size w w' := by
 have HR0 := Aside0.mk hr0
 have HC0 := Aside0.mk hc0
 clear hr0 hc0
 have HB := Aside0.mk (Below.refl w.heap.size w)
 have H : ((spileref39_right.f k l0).bind fun t314 => (if t314 = true then ((spileref39_id.f a1).bind fun t315 => (if t315 = true then ((spileref39_day.f a2).bind fun t316 => (if t316 = true then ((spileref39_day.f a3).bind fun t317 => (spileref39_start.j0 k a2 a3 (!t317))) else (spileref39_start.j0 k a2 a3 true))) else (spileref39_start.j0 k a2 a3 true))) else (some 1))) = some r := h
 clear h
 replace H := Option.bind_eq_some_iff.mp H
 obtain ⟨t314, A50, H⟩ := H
 replace H : (if t314 = true then ((spileref39_id.f a1).bind fun t315 => (if t315 = true then ((spileref39_day.f a2).bind fun t316 => (if t316 = true then ((spileref39_day.f a3).bind fun t317 => (spileref39_start.j0 k a2 a3 (!t317))) else (spileref39_start.j0 k a2 a3 true))) else (spileref39_start.j0 k a2 a3 true))) else (some 1)) = some r := H
 have A5 := Aside0.mk A50
 clear A50
 by_cases c6 : t314 = true
 ·subst c6
  have H1 : ((spileref39_id.f a1).bind fun t315 => (if t315 = true then ((spileref39_day.f a2).bind fun t316 => (if t316 = true then ((spileref39_day.f a3).bind fun t317 => (spileref39_start.j0 k a2 a3 (!t317))) else (spileref39_start.j0 k a2 a3 true))) else (spileref39_start.j0 k a2 a3 true))) = some r := by rw [if_pos rfl] at H; exact H
  clear H
  have H := H1
  clear H1
  have HC7 := Aside0.mk H
  clear H
  go_enter Try.func46, Try.ntmps46
  go_upto_region 3 with (first | ((with_reducible refine gqC (f := 42) rfl ?_); refine GS.gL (some 10) Try.func42 #[.slice A0 l0.length c0] ?_; (with_reducible refine (spileref39_right.calls k _ _ l0 true _ ?side1 ?side2 A5.out).mono ?_); (case side1 => exact GS.rC HR0.out); (case side2 => exact HC0.out); rintro e w8 ⟨rfl, hb⟩; refine ⟨_, rfl, ?_⟩; have n0_ := Aside0.mk (lqT (GS.lB HB.out) hb); clear HB; have HB := n0_; clear n0_; (try clear hb); (try clear hb2); (try clear hk); (try clear hi)))
  (try simp only [Act.put, List.setIfInBounds_toArray, List.set_cons_zero, List.set_cons_succ])
  go_cut [24] (fun v24 wc => ∃ (kq : Nat) (x24_6 : Bool), v24 = .bool x24_6 ∧ Aside0 (spileref39_start.j0 kq a2 a3 x24_6 = some r) ∧ Aside0 (kq ≤ k) ∧ Aside0 (Below w.heap.size w wc))
  case first =>
   have H := HC7.out
   clear HC7
   replace H := Option.bind_eq_some_iff.mp H
   obtain ⟨t315, A90, H⟩ := H
   replace H : (if t315 = true then ((spileref39_day.f a2).bind fun t316 => (if t316 = true then ((spileref39_day.f a3).bind fun t317 => (spileref39_start.j0 k a2 a3 (!t317))) else (spileref39_start.j0 k a2 a3 true))) else (spileref39_start.j0 k a2 a3 true)) = some r := H
   have A9 := Aside0.mk A90
   clear A90
   by_cases c10 : t315 = true
   ·subst c10
    have H1 : ((spileref39_day.f a2).bind fun t316 => (if t316 = true then ((spileref39_day.f a3).bind fun t317 => (spileref39_start.j0 k a2 a3 (!t317))) else (spileref39_start.j0 k a2 a3 true))) = some r := by rw [if_pos rfl] at H; exact H
    clear H
    have H := H1
    clear H1
    replace H := Option.bind_eq_some_iff.mp H
    obtain ⟨t316, A110, H⟩ := H
    replace H : (if t316 = true then ((spileref39_day.f a3).bind fun t317 => (spileref39_start.j0 k a2 a3 (!t317))) else (spileref39_start.j0 k a2 a3 true)) = some r := H
    have A11 := Aside0.mk A110
    clear A110
    by_cases c12 : t316 = true
    ·subst c12
     have H1 : ((spileref39_day.f a3).bind fun t317 => (spileref39_start.j0 k a2 a3 (!t317))) = some r := by rw [if_pos rfl] at H; exact H
     clear H
     have H := H1
     clear H1
     replace H := Option.bind_eq_some_iff.mp H
     obtain ⟨t317, A130, H⟩ := H
     replace H : (spileref39_start.j0 k a2 a3 (!t317)) = some r := H
     have A13 := Aside0.mk A130
     clear A130
     have H' := Aside0.mk H
     clear H
     go_wp2_with (first | ((with_reducible refine gqC (f := 43) rfl ?_); refine GS.gL (some 13) Try.func43 #[.int .i64 a1] ?_; (with_reducible refine (spileref39_id.calls a1 true _ A9.out).mono ?_); rintro e w' ⟨rfl, ⟨nd, rfl⟩⟩; refine ⟨_, rfl, ?_⟩) | (go_at_call 44; (with_reducible refine (spileref39_day.calls a2 true _ A11.out).mono ?_); rintro e w' ⟨rfl, ⟨nd, rfl⟩⟩) | (go_at_call 44; (with_reducible refine (spileref39_day.calls a3 t317 _ A13.out).mono ?_); rintro e w' ⟨rfl, ⟨nd, rfl⟩⟩))
     go_meet
     case rel => exact ⟨_, (!t317), (by first | rfl | (simp; done) | (simp [*]; done)), H', ⟨by first | omega | exact Nat.le_refl _⟩, ⟨GS.lB HB.out⟩⟩
    ·replace c12 := Bool.eq_false_iff.mpr c12
     subst c12
     have H1 : (spileref39_start.j0 k a2 a3 true) = some r := by rw [if_neg (show ¬ (false = true) by decide)] at H; exact H
     clear H
     have H := H1
     clear H1
     have H' := Aside0.mk H
     clear H
     go_wp2_with (first | ((with_reducible refine gqC (f := 43) rfl ?_); refine GS.gL (some 13) Try.func43 #[.int .i64 a1] ?_; (with_reducible refine (spileref39_id.calls a1 true _ A9.out).mono ?_); rintro e w' ⟨rfl, ⟨nd, rfl⟩⟩; refine ⟨_, rfl, ?_⟩) | (go_at_call 44; (with_reducible refine (spileref39_day.calls a2 false _ A11.out).mono ?_); rintro e w' ⟨rfl, ⟨nd, rfl⟩⟩))
     go_meet
     case rel => exact ⟨_, (true), (by first | rfl | (simp; done) | (simp [*]; done)), H', ⟨by first | omega | exact Nat.le_refl _⟩, ⟨GS.lB HB.out⟩⟩
   ·replace c10 := Bool.eq_false_iff.mpr c10
    subst c10
    have H1 : (spileref39_start.j0 k a2 a3 true) = some r := by rw [if_neg (show ¬ (false = true) by decide)] at H; exact H
    clear H
    have H := H1
    clear H1
    have H' := Aside0.mk H
    clear H
    go_wp2_with (first | ((with_reducible refine gqC (f := 43) rfl ?_); refine GS.gL (some 13) Try.func43 #[.int .i64 a1] ?_; (with_reducible refine (spileref39_id.calls a1 false _ A9.out).mono ?_); rintro e w' ⟨rfl, ⟨nd, rfl⟩⟩; refine ⟨_, rfl, ?_⟩))
    go_meet
    case rel => exact ⟨_, (true), (by first | rfl | (simp; done) | (simp [*]; done)), H', ⟨by first | omega | exact Nat.le_refl _⟩, ⟨GS.lB HB.out⟩⟩
  case rest =>
   clear HC7
   try clear c1
   try clear p2
   try clear c4
   try clear c6
   try clear c10
   try clear c12
   obtain ⟨kq, x24_6, rfl, HA, HJ6, HB⟩ := hcut
   cases kq with
   | zero => exact absurd HA.out (by simp [spileref39_start.j0])
   | succ kj6 =>
    have H := HA.out
    clear HA
    simp only [spileref39_start.j0] at H
    by_cases c14 : x24_6 = true
    ·subst c14
     have H1 : (some 2) = some r := by rw [if_pos rfl] at H; exact H
     clear H
     have H := H1
     clear H1
     obtain rfl := Option.some.inj H
     go_wp2
     go_ret
     exact ⟨by first | rfl | (simp [errW_none, errW_some] <;> rfl) | (simp [*, errW_none, errW_some] <;> rfl), GS.lB HB.out⟩
    ·replace c14 := Bool.eq_false_iff.mpr c14
     subst c14
     have H1 : (if a2 > a3 then (some 5) else (some 0)) = some r := by rw [if_neg (show ¬ (false = true) by decide)] at H; exact H
     clear H
     have H := H1
     clear H1
     by_cases c15 : a2 > a3
     ·rw [if_pos c15] at H
      have c15b0 : decide (a3 < a2) = true := decide_eq_true c15
      clear c15
      obtain rfl := Option.some.inj H
      go_wp2
      go_ret
      exact ⟨by first | rfl | (simp [errW_none, errW_some] <;> rfl) | (simp [*, errW_none, errW_some] <;> rfl), GS.lB HB.out⟩
     ·rw [if_neg c15] at H
      have c15b0 : decide (a3 < a2) = false := decide_eq_false c15
      clear c15
      obtain rfl := Option.some.inj H
      go_wp2
      go_ret
      exact ⟨by first | rfl | (simp [errW_none, errW_some] <;> rfl) | (simp [*, errW_none, errW_some] <;> rfl), GS.lB HB.out⟩
 ·replace c6 := Bool.eq_false_iff.mpr c6
  subst c6
  have H1 : (some 1) = some r := by rw [if_neg (show ¬ (false = true) by decide)] at H; exact H
  clear H
  have H := H1
  clear H1
  obtain rfl := Option.some.inj H
  go_enter Try.func46, Try.ntmps46
  go_wp2_with (first | ((with_reducible refine gqC (f := 42) rfl ?_); refine GS.gL (some 10) Try.func42 #[.slice A0 l0.length c0] ?_; (with_reducible refine (spileref39_right.calls k _ _ l0 false _ ?side1 ?side2 A5.out).mono ?_); (case side1 => exact GS.rC HR0.out); (case side2 => exact HC0.out); rintro e w16 ⟨rfl, hb⟩; refine ⟨_, rfl, ?_⟩; have n0_ := Aside0.mk (lqT (GS.lB HB.out) hb); clear HB; have HB := n0_; clear n0_; (try clear hb); (try clear hb2); (try clear hk); (try clear hi)))
  go_ret
  exact ⟨by first | rfl | (simp [errW_none, errW_some] <;> rfl) | (simp [*, errW_none, errW_some] <;> rfl), GS.lB HB.out⟩

/-! ### spileref39_Unbroken: function 17 -/
mutual
def spileref39_Unbroken.l0 : Nat → List (S34) → Int → Int → Int → List Int → Int → Option (Bool × Int)
 | 0, _, _, _, _, _, _ => none
 | k + 1, x0, x1, x2, x3, x11, x12 => if x12 < (x11.length : Int) then (spileref39_Unbroken.l1 k x0 x1 x2 x3 x11 x12 true x2) else (some (false, 0))
def spileref39_Unbroken.l1 : Nat → List (S34) → Int → Int → Int → List Int → Int → Bool → Int → Option (Bool × Int)
 | 0, _, _, _, _, _, _, _, _ => none
 | k + 1, x0, x1, x2, x3, x11, x12, x13, x14 => if x14 ≤ x3 then (if x13 = true then (if 0 ≤ x12 then (if x12 < (x11.length : Int) then ((spileref39_has.f k x0 x1 (rd x11 x12) x14).bind fun t323 => (spileref39_Unbroken.l1 k x0 x1 x2 x3 x11 x12 t323 (wrap64 (x14 + 1)))) else (none)) else (none)) else (spileref39_Unbroken.l1 k x0 x1 x2 x3 x11 x12 false (wrap64 (x14 + 1)))) else (if x13 = true then (some (true, 0)) else (spileref39_Unbroken.l0 k x0 x1 x2 x3 x11 (wrap64 (x12 + 1))))
end
def spileref39_Unbroken.f (k : Nat) (l0 : List (S34)) (a1 : Int) (a2 : Int) (a3 : Int) : Option (Bool × Int) := (spileref39_start.f k l0 a1 a2 a3).bind fun t318 => (if t318 = 0 then ((spileref39_intact.f k l0 a1 a2).bind fun t319 => (spileref39_Unbroken.l0 k l0 a1 a2 a3 t319 0)) else (some (false, t318)))
theorem spileref39_Unbroken.mono_l : ∀ k, (∀ y0 y1 y2 y3 y4 y5, LeO (spileref39_Unbroken.l0 k y0 y1 y2 y3 y4 y5) (spileref39_Unbroken.l0 (k + 1) y0 y1 y2 y3 y4 y5)) ∧ (∀ y0 y1 y2 y3 y4 y5 y6 y7, LeO (spileref39_Unbroken.l1 k y0 y1 y2 y3 y4 y5 y6 y7) (spileref39_Unbroken.l1 (k + 1) y0 y1 y2 y3 y4 y5 y6 y7))
 | 0 => ⟨fun _ _ _ _ _ _ r h => by simp [spileref39_Unbroken.l0] at h, fun _ _ _ _ _ _ _ _ r h => by simp [spileref39_Unbroken.l1] at h⟩
 | k + 1 => by
  obtain ⟨ih0, ih1⟩ := spileref39_Unbroken.mono_l k
  refine ⟨?_, ?_⟩
  ·intro y0 y1 y2 y3 y4 y5
   unfold spileref39_Unbroken.l0
   repeat' first
   | (with_reducible exact ih0 _ _ _ _ _ _)
   | (with_reducible exact ih1 _ _ _ _ _ _ _ _)
   | (with_reducible exact spileref39_has.mono _ _ _ _ _)
   | (with_reducible exact spileref39_intact.mono _ _ _ _)
   | (with_reducible exact spileref39_start.mono _ _ _ _ _)
   | (with_reducible exact LeO.refl _)
   | (with_reducible exact LeO.none _)
   | (with_reducible refine LeO.ite ?_ ?_)
   | (with_reducible refine LeO.bind ?_ (fun _ => ?_))
   | exact ih0 _ _ _ _ _ _
   | exact ih1 _ _ _ _ _ _ _ _
   | exact spileref39_has.mono _ _ _ _ _
   | exact spileref39_intact.mono _ _ _ _
   | exact spileref39_start.mono _ _ _ _ _
   | exact LeO.none _
   | refine LeO.ite ?_ ?_
   | refine LeO.bind ?_ (fun _ => ?_)
  ·intro y0 y1 y2 y3 y4 y5 y6 y7
   unfold spileref39_Unbroken.l1
   repeat' first
   | (with_reducible exact ih0 _ _ _ _ _ _)
   | (with_reducible exact ih1 _ _ _ _ _ _ _ _)
   | (with_reducible exact spileref39_has.mono _ _ _ _ _)
   | (with_reducible exact spileref39_intact.mono _ _ _ _)
   | (with_reducible exact spileref39_start.mono _ _ _ _ _)
   | (with_reducible exact LeO.refl _)
   | (with_reducible exact LeO.none _)
   | (with_reducible refine LeO.ite ?_ ?_)
   | (with_reducible refine LeO.bind ?_ (fun _ => ?_))
   | exact ih0 _ _ _ _ _ _
   | exact ih1 _ _ _ _ _ _ _ _
   | exact spileref39_has.mono _ _ _ _ _
   | exact spileref39_intact.mono _ _ _ _
   | exact spileref39_start.mono _ _ _ _ _
   | exact LeO.none _
   | refine LeO.ite ?_ ?_
   | refine LeO.bind ?_ (fun _ => ?_)
theorem spileref39_Unbroken.mono : ∀ a0 a1 a2 a3 k, LeO (spileref39_Unbroken.f k a0 a1 a2 a3) (spileref39_Unbroken.f (k + 1) a0 a1 a2 a3) := by
 intro a0 a1 a2 a3 k
 obtain ⟨ih0, ih1⟩ := spileref39_Unbroken.mono_l k
 unfold spileref39_Unbroken.f
 repeat' first
   | (with_reducible exact ih0 _ _ _ _ _ _)
   | (with_reducible exact ih1 _ _ _ _ _ _ _ _)
   | (with_reducible exact spileref39_has.mono _ _ _ _ _)
   | (with_reducible exact spileref39_intact.mono _ _ _ _)
   | (with_reducible exact spileref39_start.mono _ _ _ _ _)
   | (with_reducible exact LeO.refl _)
   | (with_reducible exact LeO.none _)
   | (with_reducible refine LeO.ite ?_ ?_)
   | (with_reducible refine LeO.bind ?_ (fun _ => ?_))
   | exact ih0 _ _ _ _ _ _
   | exact ih1 _ _ _ _ _ _ _ _
   | exact spileref39_has.mono _ _ _ _ _
   | exact spileref39_intact.mono _ _ _ _
   | exact spileref39_start.mono _ _ _ _ _
   | exact LeO.none _
   | refine LeO.ite ?_ ?_
   | refine LeO.bind ?_ (fun _ => ?_)
set_option maxHeartbeats 8000000 in
set_option maxRecDepth 100000 in
theorem spileref39_Unbroken.calls (k : Nat) (A0 : Option Addr) (c0 : Nat) (l0 : List (S34)) (a1 : Int) (a2 : Int) (a3 : Int) (r1 : Bool) (r2 : Int) (w : World) (hr0 : Kd.C k34 w A0 l0.length l0) (hc0 : l0.length ≤ c0) (h : spileref39_Unbroken.f k l0 a1 a2 a3 = some (r1, r2)) :
  Calls Try.prog 17 #[.slice A0 l0.length c0, .int .i64 a1, .int .i64 a2, .int .i64 a3] w fun e w' => e = .returned (.tuple #[.bool r1, .int .i64 r2]) ∧ Below w.heap.size w w' := by
 have HR0 := Aside0.mk hr0
 have HC0 := Aside0.mk hc0
 clear hr0 hc0
 have HB := Aside0.mk (Below.refl w.heap.size w)
 have H : ((spileref39_start.f k l0 a1 a2 a3).bind fun t318 => (if t318 = 0 then ((spileref39_intact.f k l0 a1 a2).bind fun t319 => (spileref39_Unbroken.l0 k l0 a1 a2 a3 t319 0)) else (some (false, t318)))) = some (r1, r2) := h
 clear h
 replace H := Option.bind_eq_some_iff.mp H
 obtain ⟨t318, A50, H⟩ := H
 replace H : (if t318 = 0 then ((spileref39_intact.f k l0 a1 a2).bind fun t319 => (spileref39_Unbroken.l0 k l0 a1 a2 a3 t319 0)) else (some (false, t318))) = some (r1, r2) := H
 have A5 := Aside0.mk A50
 clear A50
 by_cases c6 : t318 = 0
 ·rw [if_pos c6] at H
  have c6b0 : (t318 == 0) = true := beq_iff_eq.mpr c6
  try simp only [beq_self_eq_true, Bool.not_true, Bool.false_or, Bool.true_and] at c6b0
  have c6b1 : (t318 != 0) = false := bne_eq_false_iff_eq.mpr c6
  clear c6
  replace H := Option.bind_eq_some_iff.mp H
  obtain ⟨t319, A70, H⟩ := H
  replace H : (spileref39_Unbroken.l0 k l0 a1 a2 a3 t319 0) = some (r1, r2) := H
  have A7 := Aside0.mk A70
  clear A70
  have H' := Aside0.mk H
  clear H
  go_enter Try.func17, Try.ntmps17
  go_wp2_with (first | ((with_reducible refine gqC (f := 46) rfl ?_); refine GS.gL (some 19) Try.func46 #[.slice A0 l0.length c0, .int .i64 a1, .int .i64 a2, .int .i64 a3] ?_; (with_reducible refine (spileref39_start.calls k _ _ l0 a1 a2 a3 t318 _ ?side1 ?side2 A5.out).mono ?_); (case side1 => exact GS.rC HR0.out); (case side2 => exact HC0.out); rintro e w8 ⟨rfl, hb⟩; refine ⟨_, rfl, ?_⟩; have n0_ := Aside0.mk (lqT (GS.lB HB.out) hb); clear HB; have HB := n0_; clear n0_; (try clear hb); (try clear hb2); (try clear hk); (try clear hi)) | ((with_reducible refine gqC (f := 45) rfl ?_); refine GS.gL (some 26) Try.func45 #[.slice A0 l0.length c0, .int .i64 a1, .int .i64 a2] ?_; (with_reducible refine (spileref39_intact.calls k _ _ l0 a1 a2 t319 _ ?side1 ?side2 A7.out).mono ?_); (case side1 => exact GS.rC (Kd.C_below HR0.out HB.out)); (case side2 => exact HC0.out); rintro e w9 ⟨v320, rfl, ho0, hb⟩; refine ⟨_, rfl, ?_⟩; have n0_ := Aside0.mk (Kd.R_lower ho0 (lqZ (GS.lB HB.out))); have n1_ := Aside0.mk (lqT (GS.lB HB.out) hb); clear HB; have HO321 := n0_; have HB := n1_; clear n0_ n1_; (try clear hb); (try clear hb2); (try clear hk); (try clear hi); (try clear ho0)))
  go_loopg [12] k (fun kq v12 w' => ∃ (x12_1 : Int), v12 = .int .i64 x12_1 ∧ Aside0 (spileref39_Unbroken.l0 kq l0 a1 a2 a3 t319 x12_1 = some (r1, r2)) ∧ Aside0 (kq ≤ k) ∧ Aside0 (Kd.R (Kd.int .i64) 3 w' w.heap.size (fun _ => True) v320 t319) ∧ Aside0 (Below w.heap.size w w'))
  case atStart => exact ⟨(0), (by first | rfl | (simp; done) | (simp [*]; done)), H', ⟨Nat.le_refl _⟩, ⟨by (with_reducible repeat (first | apply Kd.R_alloc | apply Kd.R_drewN | apply Kd.R_drew)); exact HO321.out⟩, ⟨GS.lB HB.out⟩⟩
  case round =>
   clear H'
   try clear c1
   try clear p2
   try clear c4
   try clear c6
   try clear c6b0
   try clear c6b1
   obtain ⟨x12_1, rfl, HA, HK1, HO_11, HB⟩ := hrel
   cases gk with
   | zero => exact absurd HA.out (by simp [spileref39_Unbroken.l0])
   | succ k1 =>
    have H := HA.out
    clear HA
    simp only [spileref39_Unbroken.l0] at H
    by_cases c10 : x12_1 < (t319.length : Int)
    ·rw [if_pos c10] at H
     have c10b0 : decide (x12_1 < (t319.length : Int)) = true := decide_eq_true c10
     clear c10
     have H' := Aside0.mk H
     clear H
     obtain ⟨Ao11, co11, eo11⟩ := Kd.R_slice HO_11.out
     subst eo11
     go_wp2
     go_loopg [13, 14] k1 (fun kq v13 v14 w' => ∃ (x13_2 : Bool) (x14_2 : Int), v13 = .bool x13_2 ∧ v14 = .int .i64 x14_2 ∧ Aside0 (spileref39_Unbroken.l1 kq l0 a1 a2 a3 t319 x12_1 x13_2 x14_2 = some (r1, r2)) ∧ Aside0 (kq ≤ k1) ∧ Aside0 (Kd.R (Kd.int .i64) 3 w' w.heap.size (fun _ => True) (.slice Ao11 t319.length co11) t319) ∧ Aside0 (Below w.heap.size w w'))
     case atStart => exact ⟨(true), (a2), (by first | rfl | (simp; done) | (simp [*]; done)), (by first | rfl | (simp; done) | (simp [*]; done)), H', ⟨Nat.le_refl _⟩, ⟨by (with_reducible repeat (first | apply Kd.R_alloc | apply Kd.R_drewN | apply Kd.R_drew)); exact HO_11.out⟩, ⟨GS.lB HB.out⟩⟩
     case round =>
      clear H'
      try clear c1
      try clear p2
      try clear c4
      try clear c6
      try clear c6b0
      try clear c6b1
      try clear c10
      try clear c10b0
      try clear p2
      obtain ⟨x13_2, x14_2, rfl, rfl, HA, HK2, HO_11, HB⟩ := hrel
      cases gk with
      | zero => exact absurd HA.out (by simp [spileref39_Unbroken.l1])
      | succ k2 =>
       have H := HA.out
       clear HA
       simp only [spileref39_Unbroken.l1] at H
       by_cases c12 : x14_2 ≤ a3
       ·rw [if_pos c12] at H
        have c12b0 : decide (x14_2 ≤ a3) = true := decide_eq_true c12
        clear c12
        by_cases c13 : x13_2 = true
        ·subst c13
         have H1 : (if 0 ≤ x12_1 then (if x12_1 < (t319.length : Int) then ((spileref39_has.f k2 l0 a1 (rd t319 x12_1) x14_2).bind fun t323 => (spileref39_Unbroken.l1 k2 l0 a1 a2 a3 t319 x12_1 t323 (wrap64 (x14_2 + 1)))) else (none)) else (none)) = some (r1, r2) := by rw [if_pos rfl] at H; exact H
         clear H
         have H := H1
         clear H1
         by_cases c14 : 0 ≤ x12_1
         ·rw [if_pos c14] at H
          have c14b0 : decide (0 ≤ x12_1) = true := decide_eq_true c14
          clear c14
          by_cases c15 : x12_1 < (t319.length : Int)
          ·rw [if_pos c15] at H
           have c15b0 : decide (x12_1 < (t319.length : Int)) = true := decide_eq_true c15
           clear c15
           replace H := Option.bind_eq_some_iff.mp H
           obtain ⟨t323, A160, H⟩ := H
           replace H : (spileref39_Unbroken.l1 k2 l0 a1 a2 a3 t319 x12_1 t323 (wrap64 (x14_2 + 1))) = some (r1, r2) := H
           have A16 := Aside0.mk A160
           clear A160
           have H' := Aside0.mk H
           clear H
           have p322 : 0 ≤ (x12_1 : Int) := of_decide_eq_true (by first | (with_reducible assumption) | assumption)
           have q322 : x12_1 < (t319.length : Int) := of_decide_eq_true (by first | (with_reducible assumption) | assumption)
           obtain ⟨ad322, e322, hx322_0⟩ := Kd.at_int (Kd.R_reads' HO_11.out).2.2 x12_1 p322 q322
           cases e322
           replace p322 := eq_true p322
           replace q322 := eq_true q322
           go_wp2_with (first | (go_at_call 47; (with_reducible refine (spileref39_has.calls k2 _ _ l0 a1 (rd t319 x12_1) x14_2 t323 _ ?side1 ?side2 A16.out).mono ?_); (case side1 => exact GS.rC (Kd.C_below HR0.out HB.out)); (case side2 => exact HC0.out); rintro e w' ⟨rfl, ⟨nd, rfl⟩⟩))
           go_roundg k2
           case measure => have := HK1.out; have := HK2.out; omega
           case rel => exact ⟨(t323), (wrap64 (x14_2 + 1)), (by first | rfl | (simp; done) | (simp [*]; done)), (by first | rfl | (simp; done) | (simp [*]; done)), H', ⟨by have := HK1.out; have := HK2.out; omega⟩, ⟨by (with_reducible repeat (first | apply Kd.R_alloc | apply Kd.R_drewN | apply Kd.R_drew)); exact HO_11.out⟩, ⟨GS.lB HB.out⟩⟩
          ·rw [if_neg c15] at H
           exact absurd H (by simp)
         ·rw [if_neg c14] at H
          exact absurd H (by simp)
        ·replace c13 := Bool.eq_false_iff.mpr c13
         subst c13
         have H1 : (spileref39_Unbroken.l1 k2 l0 a1 a2 a3 t319 x12_1 false (wrap64 (x14_2 + 1))) = some (r1, r2) := by rw [if_neg (show ¬ (false = true) by decide)] at H; exact H
         clear H
         have H := H1
         clear H1
         have H' := Aside0.mk H
         clear H
         go_wp2
         go_roundg k2
         case measure => have := HK1.out; have := HK2.out; omega
         case rel => exact ⟨(false), (wrap64 (x14_2 + 1)), (by first | rfl | (simp; done) | (simp [*]; done)), (by first | rfl | (simp; done) | (simp [*]; done)), H', ⟨by have := HK1.out; have := HK2.out; omega⟩, ⟨by (with_reducible repeat (first | apply Kd.R_alloc | apply Kd.R_drewN | apply Kd.R_drew)); exact HO_11.out⟩, ⟨GS.lB HB.out⟩⟩
       ·rw [if_neg c12] at H
        have c12b0 : decide (x14_2 ≤ a3) = false := decide_eq_false c12
        clear c12
        by_cases c17 : x13_2 = true
        ·subst c17
         have H1 : (some (true, 0)) = some (r1, r2) := by rw [if_pos rfl] at H; exact H
         clear H
         have H := H1
         clear H1
         simp only [Option.some.injEq, Prod.mk.injEq] at H
         obtain ⟨rfl, rfl⟩ := H
         go_wp2
         go_ret2
         exact ⟨by first | rfl | (simp [errW_none, errW_some] <;> rfl) | (simp [*, errW_none, errW_some] <;> rfl), GS.lB HB.out⟩
        ·replace c17 := Bool.eq_false_iff.mpr c17
         subst c17
         have H1 : (spileref39_Unbroken.l0 k2 l0 a1 a2 a3 t319 (wrap64 (x12_1 + 1))) = some (r1, r2) := by rw [if_neg (show ¬ (false = true) by decide)] at H; exact H
         clear H
         have H := H1
         clear H1
         have H' := Aside0.mk H
         clear H
         go_wp2
         go_roundg k2
         case measure => have := HK1.out; have := HK2.out; omega
         case rel => exact ⟨(wrap64 (x12_1 + 1)), (by first | rfl | (simp; done) | (simp [*]; done)), H', ⟨by have := HK1.out; have := HK2.out; omega⟩, ⟨by (with_reducible repeat (first | apply Kd.R_alloc | apply Kd.R_drewN | apply Kd.R_drew)); exact HO_11.out⟩, ⟨GS.lB HB.out⟩⟩
    ·rw [if_neg c10] at H
     have c10b0 : decide (x12_1 < (t319.length : Int)) = false := decide_eq_false c10
     clear c10
     simp only [Option.some.injEq, Prod.mk.injEq] at H
     obtain ⟨rfl, rfl⟩ := H
     obtain ⟨Ao18, co18, eo18⟩ := Kd.R_slice HO_11.out
     subst eo18
     go_wp2
     go_ret2
     exact ⟨by first | rfl | (simp [errW_none, errW_some] <;> rfl) | (simp [*, errW_none, errW_some] <;> rfl), GS.lB HB.out⟩
 ·rw [if_neg c6] at H
  have c6b0 : (t318 == 0) = false := beq_eq_false_iff_ne.mpr c6
  try simp only [beq_self_eq_true, Bool.not_true, Bool.false_or, Bool.true_and] at c6b0
  have c6b1 : (t318 != 0) = true := bne_iff_ne.mpr c6
  simp only [Option.some.injEq, Prod.mk.injEq] at H
  obtain ⟨rfl, rfl⟩ := H
  go_enter Try.func17, Try.ntmps17
  go_wp2_with (first | ((with_reducible refine gqC (f := 46) rfl ?_); refine GS.gL (some 19) Try.func46 #[.slice A0 l0.length c0, .int .i64 a1, .int .i64 a2, .int .i64 a3] ?_; (with_reducible refine (spileref39_start.calls k _ _ l0 a1 a2 a3 t318 _ ?side1 ?side2 A5.out).mono ?_); (case side1 => exact GS.rC HR0.out); (case side2 => exact HC0.out); rintro e w19 ⟨rfl, hb⟩; refine ⟨_, rfl, ?_⟩; have n0_ := Aside0.mk (lqT (GS.lB HB.out) hb); clear HB; have HB := n0_; clear n0_; (try clear hb); (try clear hb2); (try clear hk); (try clear hi)))
  go_ret2
  exact ⟨by first | rfl | (simp [errW_none, errW_some] <;> rfl) | (simp [*, errW_none, errW_some] <;> rfl), GS.lB HB.out⟩

/-! ### spileref39_Open: function 19 -/
def spileref39_Open.l0 : Nat → List (S34) → Int → Int → Int → Int → Option (Int × Int)
 | 0, _, _, _, _, _ => none
 | k + 1, x0, x1, x3, x11, x12 => if x12 ≤ x3 then ((spileref39_intact.f k x0 x1 x12).bind fun t325 => (if (t325.length : Int) = 0 then (spileref39_Open.l0 k x0 x1 x3 (wrap64 (x11 + 1)) (wrap64 (x12 + 1))) else (spileref39_Open.l0 k x0 x1 x3 x11 (wrap64 (x12 + 1))))) else (some (x11, 0))
def spileref39_Open.f (k : Nat) (l0 : List (S34)) (a1 : Int) (a2 : Int) (a3 : Int) : Option (Int × Int) := (spileref39_start.f k l0 a1 a2 a3).bind fun t324 => (if t324 = 0 then (spileref39_Open.l0 k l0 a1 a3 0 a2) else (some (0, t324)))
theorem spileref39_Open.mono_l : ∀ k, (∀ y0 y1 y2 y3 y4, LeO (spileref39_Open.l0 k y0 y1 y2 y3 y4) (spileref39_Open.l0 (k + 1) y0 y1 y2 y3 y4))
 | 0 => fun _ _ _ _ _ r h => by simp [spileref39_Open.l0] at h
 | k + 1 => by
  have ih0 := spileref39_Open.mono_l k
  ·intro y0 y1 y2 y3 y4
   unfold spileref39_Open.l0
   repeat' first
   | (with_reducible exact ih0 _ _ _ _ _)
   | (with_reducible exact spileref39_intact.mono _ _ _ _)
   | (with_reducible exact spileref39_start.mono _ _ _ _ _)
   | (with_reducible exact LeO.refl _)
   | (with_reducible exact LeO.none _)
   | (with_reducible refine LeO.ite ?_ ?_)
   | (with_reducible refine LeO.bind ?_ (fun _ => ?_))
   | exact ih0 _ _ _ _ _
   | exact spileref39_intact.mono _ _ _ _
   | exact spileref39_start.mono _ _ _ _ _
   | exact LeO.none _
   | refine LeO.ite ?_ ?_
   | refine LeO.bind ?_ (fun _ => ?_)
theorem spileref39_Open.mono : ∀ a0 a1 a2 a3 k, LeO (spileref39_Open.f k a0 a1 a2 a3) (spileref39_Open.f (k + 1) a0 a1 a2 a3) := by
 intro a0 a1 a2 a3 k
 have ih0 := spileref39_Open.mono_l k
 unfold spileref39_Open.f
 repeat' first
   | (with_reducible exact ih0 _ _ _ _ _)
   | (with_reducible exact spileref39_intact.mono _ _ _ _)
   | (with_reducible exact spileref39_start.mono _ _ _ _ _)
   | (with_reducible exact LeO.refl _)
   | (with_reducible exact LeO.none _)
   | (with_reducible refine LeO.ite ?_ ?_)
   | (with_reducible refine LeO.bind ?_ (fun _ => ?_))
   | exact ih0 _ _ _ _ _
   | exact spileref39_intact.mono _ _ _ _
   | exact spileref39_start.mono _ _ _ _ _
   | exact LeO.none _
   | refine LeO.ite ?_ ?_
   | refine LeO.bind ?_ (fun _ => ?_)
set_option maxHeartbeats 8000000 in
set_option maxRecDepth 100000 in
theorem spileref39_Open.calls (k : Nat) (A0 : Option Addr) (c0 : Nat) (l0 : List (S34)) (a1 : Int) (a2 : Int) (a3 : Int) (r1 : Int) (r2 : Int) (w : World) (hr0 : Kd.C k34 w A0 l0.length l0) (hc0 : l0.length ≤ c0) (h : spileref39_Open.f k l0 a1 a2 a3 = some (r1, r2)) :
  Calls Try.prog 19 #[.slice A0 l0.length c0, .int .i64 a1, .int .i64 a2, .int .i64 a3] w fun e w' => e = .returned (.tuple #[.int .i64 r1, .int .i64 r2]) ∧ Below w.heap.size w w' := by
 have HR0 := Aside0.mk hr0
 have HC0 := Aside0.mk hc0
 clear hr0 hc0
 have HB := Aside0.mk (Below.refl w.heap.size w)
 have H : ((spileref39_start.f k l0 a1 a2 a3).bind fun t324 => (if t324 = 0 then (spileref39_Open.l0 k l0 a1 a3 0 a2) else (some (0, t324)))) = some (r1, r2) := h
 clear h
 replace H := Option.bind_eq_some_iff.mp H
 obtain ⟨t324, A50, H⟩ := H
 replace H : (if t324 = 0 then (spileref39_Open.l0 k l0 a1 a3 0 a2) else (some (0, t324))) = some (r1, r2) := H
 have A5 := Aside0.mk A50
 clear A50
 by_cases c6 : t324 = 0
 ·rw [if_pos c6] at H
  have c6b0 : (t324 == 0) = true := beq_iff_eq.mpr c6
  try simp only [beq_self_eq_true, Bool.not_true, Bool.false_or, Bool.true_and] at c6b0
  have c6b1 : (t324 != 0) = false := bne_eq_false_iff_eq.mpr c6
  clear c6
  have H' := Aside0.mk H
  clear H
  go_enter Try.func19, Try.ntmps19
  go_wp2_with (first | ((with_reducible refine gqC (f := 46) rfl ?_); refine GS.gL (some 17) Try.func46 #[.slice A0 l0.length c0, .int .i64 a1, .int .i64 a2, .int .i64 a3] ?_; (with_reducible refine (spileref39_start.calls k _ _ l0 a1 a2 a3 t324 _ ?side1 ?side2 A5.out).mono ?_); (case side1 => exact GS.rC HR0.out); (case side2 => exact HC0.out); rintro e w7 ⟨rfl, hb⟩; refine ⟨_, rfl, ?_⟩; have n0_ := Aside0.mk (lqT (GS.lB HB.out) hb); clear HB; have HB := n0_; clear n0_; (try clear hb); (try clear hb2); (try clear hk); (try clear hi)))
  go_loopg [11, 12] k (fun kq v11 v12 w' => ∃ (x11_1 : Int) (x12_1 : Int), v11 = .int .i64 x11_1 ∧ v12 = .int .i64 x12_1 ∧ Aside0 (spileref39_Open.l0 kq l0 a1 a3 x11_1 x12_1 = some (r1, r2)) ∧ Aside0 (kq ≤ k) ∧ Aside0 (Below w.heap.size w w'))
  case atStart => exact ⟨(0), (a2), (by first | rfl | (simp; done) | (simp [*]; done)), (by first | rfl | (simp; done) | (simp [*]; done)), H', ⟨Nat.le_refl _⟩, ⟨GS.lB HB.out⟩⟩
  case round =>
   clear H'
   try clear c1
   try clear p2
   try clear c4
   try clear c6
   try clear c6b0
   try clear c6b1
   obtain ⟨x11_1, x12_1, rfl, rfl, HA, HK1, HB⟩ := hrel
   cases gk with
   | zero => exact absurd HA.out (by simp [spileref39_Open.l0])
   | succ k1 =>
    have H := HA.out
    clear HA
    simp only [spileref39_Open.l0] at H
    by_cases c8 : x12_1 ≤ a3
    ·rw [if_pos c8] at H
     have c8b0 : decide (x12_1 ≤ a3) = true := decide_eq_true c8
     clear c8
     replace H := Option.bind_eq_some_iff.mp H
     obtain ⟨t325, A90, H⟩ := H
     replace H : (if (t325.length : Int) = 0 then (spileref39_Open.l0 k1 l0 a1 a3 (wrap64 (x11_1 + 1)) (wrap64 (x12_1 + 1))) else (spileref39_Open.l0 k1 l0 a1 a3 x11_1 (wrap64 (x12_1 + 1)))) = some (r1, r2) := H
     have A9 := Aside0.mk A90
     clear A90
     by_cases c10 : (t325.length : Int) = 0
     ·rw [if_pos c10] at H
      have c10b0 : ((t325.length : Int) == 0) = true := beq_iff_eq.mpr c10
      try simp only [beq_self_eq_true, Bool.not_true, Bool.false_or, Bool.true_and] at c10b0
      have c10b1 : ((t325.length : Int) != 0) = false := bne_eq_false_iff_eq.mpr c10
      clear c10
      have H' := Aside0.mk H
      clear H
      go_wp2_with (first | ((with_reducible refine gqC (f := 45) rfl ?_); refine GS.gL (some 30) Try.func45 #[.slice A0 l0.length c0, .int .i64 a1, .int .i64 x12_1] ?_; (with_reducible refine (spileref39_intact.calls k1 _ _ l0 a1 x12_1 t325 _ ?side1 ?side2 A9.out).mono ?_); (case side1 => exact GS.rC (Kd.C_below HR0.out HB.out)); (case side2 => exact HC0.out); rintro e w11 ⟨v326, rfl, ho0, hb⟩; refine ⟨_, rfl, ?_⟩; have n0_ := Aside0.mk (Kd.R_lower ho0 (lqZ (GS.lB HB.out))); have n1_ := Aside0.mk (lqT (GS.lB HB.out) hb); clear HB; have HO327 := n0_; have HB := n1_; clear n0_ n1_; (try clear hb); (try clear hb2); (try clear hk); (try clear hi); (try clear ho0); obtain ⟨Ao12, co12, eo12⟩ := Kd.R_slice HO327.out; subst eo12))
      go_roundg k1
      case measure => have := HK1.out; omega
      case rel => exact ⟨(wrap64 (x11_1 + 1)), (wrap64 (x12_1 + 1)), (by first | rfl | (simp; done) | (simp [*]; done)), (by first | rfl | (simp; done) | (simp [*]; done)), H', ⟨by have := HK1.out; omega⟩, ⟨GS.lB HB.out⟩⟩
     ·rw [if_neg c10] at H
      have c10b0 : ((t325.length : Int) == 0) = false := beq_eq_false_iff_ne.mpr c10
      try simp only [beq_self_eq_true, Bool.not_true, Bool.false_or, Bool.true_and] at c10b0
      have c10b1 : ((t325.length : Int) != 0) = true := bne_iff_ne.mpr c10
      have c10b2 : ¬ (t325 = []) := fun h_ => c10 (by rw [h_]; rfl)
      have H' := Aside0.mk H
      clear H
      go_wp2_with (first | ((with_reducible refine gqC (f := 45) rfl ?_); refine GS.gL (some 30) Try.func45 #[.slice A0 l0.length c0, .int .i64 a1, .int .i64 x12_1] ?_; (with_reducible refine (spileref39_intact.calls k1 _ _ l0 a1 x12_1 t325 _ ?side1 ?side2 A9.out).mono ?_); (case side1 => exact GS.rC (Kd.C_below HR0.out HB.out)); (case side2 => exact HC0.out); rintro e w13 ⟨v326, rfl, ho0, hb⟩; refine ⟨_, rfl, ?_⟩; have n0_ := Aside0.mk (Kd.R_lower ho0 (lqZ (GS.lB HB.out))); have n1_ := Aside0.mk (lqT (GS.lB HB.out) hb); clear HB; have HO327 := n0_; have HB := n1_; clear n0_ n1_; (try clear hb); (try clear hb2); (try clear hk); (try clear hi); (try clear ho0); obtain ⟨Ao14, co14, eo14⟩ := Kd.R_slice HO327.out; subst eo14))
      go_roundg k1
      case measure => have := HK1.out; omega
      case rel => exact ⟨(x11_1), (wrap64 (x12_1 + 1)), (by first | rfl | (simp; done) | (simp [*]; done)), (by first | rfl | (simp; done) | (simp [*]; done)), H', ⟨by have := HK1.out; omega⟩, ⟨GS.lB HB.out⟩⟩
    ·rw [if_neg c8] at H
     have c8b0 : decide (x12_1 ≤ a3) = false := decide_eq_false c8
     clear c8
     simp only [Option.some.injEq, Prod.mk.injEq] at H
     obtain ⟨rfl, rfl⟩ := H
     go_wp2
     go_ret2
     exact ⟨by first | rfl | (simp [errW_none, errW_some] <;> rfl) | (simp [*, errW_none, errW_some] <;> rfl), GS.lB HB.out⟩
 ·rw [if_neg c6] at H
  have c6b0 : (t324 == 0) = false := beq_eq_false_iff_ne.mpr c6
  try simp only [beq_self_eq_true, Bool.not_true, Bool.false_or, Bool.true_and] at c6b0
  have c6b1 : (t324 != 0) = true := bne_iff_ne.mpr c6
  simp only [Option.some.injEq, Prod.mk.injEq] at H
  obtain ⟨rfl, rfl⟩ := H
  go_enter Try.func19, Try.ntmps19
  go_wp2_with (first | ((with_reducible refine gqC (f := 46) rfl ?_); refine GS.gL (some 17) Try.func46 #[.slice A0 l0.length c0, .int .i64 a1, .int .i64 a2, .int .i64 a3] ?_; (with_reducible refine (spileref39_start.calls k _ _ l0 a1 a2 a3 t324 _ ?side1 ?side2 A5.out).mono ?_); (case side1 => exact GS.rC HR0.out); (case side2 => exact HC0.out); rintro e w15 ⟨rfl, hb⟩; refine ⟨_, rfl, ?_⟩; have n0_ := Aside0.mk (lqT (GS.lB HB.out) hb); clear HB; have HB := n0_; clear n0_; (try clear hb); (try clear hb2); (try clear hk); (try clear hi)))
  go_ret2
  exact ⟨by first | rfl | (simp [errW_none, errW_some] <;> rfl) | (simp [*, errW_none, errW_some] <;> rfl), GS.lB HB.out⟩

/-! ### spileref33_Same: function 20 -/
def spileref33_Same.l0 : Nat → List Int → List Int → Int → Option (Bool)
 | 0, _, _, _ => none
 | k + 1, x0, x1, x5 => if x5 < (x0.length : Int) then (if 0 ≤ x5 then (if x5 < (x1.length : Int) then (if (rd x0 x5) = (rd x1 x5) then (spileref33_Same.l0 k x0 x1 (wrap64 (x5 + 1))) else (some false)) else (none)) else (none)) else (some true)
def spileref33_Same.f (k : Nat) (l0 : List Int) (l1 : List Int) : Option (Bool) := if (l0.length : Int) = (l1.length : Int) then (spileref33_Same.l0 k l0 l1 0) else (some false)
theorem spileref33_Same.mono_l : ∀ k, (∀ y0 y1 y2, LeO (spileref33_Same.l0 k y0 y1 y2) (spileref33_Same.l0 (k + 1) y0 y1 y2))
 | 0 => fun _ _ _ r h => by simp [spileref33_Same.l0] at h
 | k + 1 => by
  have ih0 := spileref33_Same.mono_l k
  ·intro y0 y1 y2
   unfold spileref33_Same.l0
   repeat' first
   | (with_reducible exact ih0 _ _ _)
   | (with_reducible exact LeO.refl _)
   | (with_reducible exact LeO.none _)
   | (with_reducible refine LeO.ite ?_ ?_)
   | (with_reducible refine LeO.bind ?_ (fun _ => ?_))
   | exact ih0 _ _ _
   | exact LeO.none _
   | refine LeO.ite ?_ ?_
   | refine LeO.bind ?_ (fun _ => ?_)
theorem spileref33_Same.mono : ∀ a0 a1 k, LeO (spileref33_Same.f k a0 a1) (spileref33_Same.f (k + 1) a0 a1) := by
 intro a0 a1 k
 have ih0 := spileref33_Same.mono_l k
 unfold spileref33_Same.f
 repeat' first
   | (with_reducible exact ih0 _ _ _)
   | (with_reducible exact LeO.refl _)
   | (with_reducible exact LeO.none _)
   | (with_reducible refine LeO.ite ?_ ?_)
   | (with_reducible refine LeO.bind ?_ (fun _ => ?_))
   | exact ih0 _ _ _
   | exact LeO.none _
   | refine LeO.ite ?_ ?_
   | refine LeO.bind ?_ (fun _ => ?_)
set_option maxHeartbeats 8000000 in
set_option maxRecDepth 100000 in
theorem spileref33_Same.calls (k : Nat) (A0 : Option Addr) (c0 : Nat) (l0 : List Int) (A1 : Option Addr) (c1 : Nat) (l1 : List Int) (r : Bool) (w : World) (hr0 : Kd.C (Kd.int .i64) w A0 l0.length l0) (hc0 : l0.length ≤ c0) (hr1 : Kd.C (Kd.int .i64) w A1 l1.length l1) (hc1 : l1.length ≤ c1) (h : spileref33_Same.f k l0 l1 = some r) :
  Calls Try.prog 20 #[.slice A0 l0.length c0, .slice A1 l1.length c1] w fun e w' => e = .returned (.bool r) ∧ Drawn0 w w' := by
 have HR0 := Aside0.mk hr0
 have HC0 := Aside0.mk hc0
 clear hr0 hc0
 have HR1 := Aside0.mk hr1
 have HC1 := Aside0.mk hc1
 clear hr1 hc1
 have H : (if (l0.length : Int) = (l1.length : Int) then (spileref33_Same.l0 k l0 l1 0) else (some false)) = some r := h
 clear h
 by_cases c3 : (l0.length : Int) = (l1.length : Int)
 ·rw [if_pos c3] at H
  have c3b0 : ((l0.length : Int) == (l1.length : Int)) = true := beq_iff_eq.mpr c3
  try simp only [beq_self_eq_true, Bool.not_true, Bool.false_or, Bool.true_and] at c3b0
  have c3b1 : ((l0.length : Int) != (l1.length : Int)) = false := bne_eq_false_iff_eq.mpr c3
  have c3b2 : (l0.length == l1.length) = true := by first | simpa using c3 | (simp at c3 ⊢; omega)
  clear c3
  have H' := Aside0.mk H
  clear H
  go_enter Try.func20, Try.ntmps20
  go_wp2
  repeat (go_quiet (fail); try go_wp2)
  go_loopg [5] k (fun kq v5 w' => ∃ (x5_1 : Int), v5 = .int .i64 x5_1 ∧ Aside0 (spileref33_Same.l0 kq l0 l1 x5_1 = some r) ∧ Aside0 (kq ≤ k) ∧ Drawn0 w w')
  case atStart => exact ⟨(0), (by first | rfl | (simp; done) | (simp [*]; done)), H', ⟨Nat.le_refl _⟩, by repeat (first | exact Drawn0.refl _ | apply Drawn0.step)⟩
  case round =>
   clear H'
   try clear c1
   try clear c2
   try clear p2
   try clear c3
   try clear c3b0
   try clear c3b1
   try clear c3b2
   obtain ⟨x5_1, rfl, HA, HK1, ⟨m1, rfl⟩⟩ := hrel
   cases gk with
   | zero => exact absurd HA.out (by simp [spileref33_Same.l0])
   | succ k1 =>
    have H := HA.out
    clear HA
    simp only [spileref33_Same.l0] at H
    by_cases c4 : x5_1 < (l0.length : Int)
    ·rw [if_pos c4] at H
     have c4b0 : decide (x5_1 < (l0.length : Int)) = true := decide_eq_true c4
     clear c4
     by_cases c5 : 0 ≤ x5_1
     ·rw [if_pos c5] at H
      have c5b0 : decide (0 ≤ x5_1) = true := decide_eq_true c5
      clear c5
      by_cases c6 : x5_1 < (l1.length : Int)
      ·rw [if_pos c6] at H
       have c6b0 : decide (x5_1 < (l1.length : Int)) = true := decide_eq_true c6
       clear c6
       by_cases c7 : (rd l0 x5_1) = (rd l1 x5_1)
       ·rw [if_pos c7] at H
        have c7b0 : ((rd l0 x5_1) == (rd l1 x5_1)) = true := beq_iff_eq.mpr c7
        try simp only [beq_self_eq_true, Bool.not_true, Bool.false_or, Bool.true_and] at c7b0
        have c7b1 : ((rd l0 x5_1) != (rd l1 x5_1)) = false := bne_eq_false_iff_eq.mpr c7
        clear c7
        have H' := Aside0.mk H
        clear H
        have p328 : 0 ≤ (x5_1 : Int) := of_decide_eq_true (by first | (with_reducible assumption) | assumption)
        have q328 : x5_1 < (l0.length : Int) := of_decide_eq_true (by first | (with_reducible assumption) | assumption)
        obtain ⟨ad328, e328, hx328_0⟩ := Kd.at_int HR0.out x5_1 p328 q328
        cases e328
        replace p328 := eq_true p328
        replace q328 := eq_true q328
        have p329 : 0 ≤ (x5_1 : Int) := of_decide_eq_true (by first | (with_reducible assumption) | assumption)
        have q329 : x5_1 < (l1.length : Int) := of_decide_eq_true (by first | (with_reducible assumption) | assumption)
        obtain ⟨ad329, e329, hx329_0⟩ := Kd.at_int HR1.out x5_1 p329 q329
        cases e329
        replace p329 := eq_true p329
        replace q329 := eq_true q329
        go_wp2
        repeat (go_quiet (fail); try go_wp2)
        go_roundg k1
        case measure => have := HK1.out; omega
        case rel => exact ⟨(wrap64 (x5_1 + 1)), (by first | rfl | (simp; done) | (simp [*]; done)), H', ⟨by have := HK1.out; omega⟩, by repeat (first | exact Drawn0.refl _ | apply Drawn0.step)⟩
       ·rw [if_neg c7] at H
        have c7b0 : ((rd l0 x5_1) == (rd l1 x5_1)) = false := beq_eq_false_iff_ne.mpr c7
        try simp only [beq_self_eq_true, Bool.not_true, Bool.false_or, Bool.true_and] at c7b0
        have c7b1 : ((rd l0 x5_1) != (rd l1 x5_1)) = true := bne_iff_ne.mpr c7
        obtain rfl := Option.some.inj H
        have p328 : 0 ≤ (x5_1 : Int) := of_decide_eq_true (by first | (with_reducible assumption) | assumption)
        have q328 : x5_1 < (l0.length : Int) := of_decide_eq_true (by first | (with_reducible assumption) | assumption)
        obtain ⟨ad328, e328, hx328_0⟩ := Kd.at_int HR0.out x5_1 p328 q328
        cases e328
        replace p328 := eq_true p328
        replace q328 := eq_true q328
        have p329 : 0 ≤ (x5_1 : Int) := of_decide_eq_true (by first | (with_reducible assumption) | assumption)
        have q329 : x5_1 < (l1.length : Int) := of_decide_eq_true (by first | (with_reducible assumption) | assumption)
        obtain ⟨ad329, e329, hx329_0⟩ := Kd.at_int HR1.out x5_1 p329 q329
        cases e329
        replace p329 := eq_true p329
        replace q329 := eq_true q329
        go_wp2
        repeat (go_quiet (fail); try go_wp2)
        go_ret
        exact ⟨by first | rfl | (simp; done) | (simp [*]; done), by repeat (first | exact Drawn0.refl _ | apply Drawn0.step)⟩
      ·rw [if_neg c6] at H
       exact absurd H (by simp)
     ·rw [if_neg c5] at H
      exact absurd H (by simp)
    ·rw [if_neg c4] at H
     have c4b0 : decide (x5_1 < (l0.length : Int)) = false := decide_eq_false c4
     clear c4
     obtain rfl := Option.some.inj H
     go_wp2
     repeat (go_quiet (fail); try go_wp2)
     go_ret
     exact ⟨by first | rfl | (simp; done) | (simp [*]; done), by repeat (first | exact Drawn0.refl _ | apply Drawn0.step)⟩
 ·rw [if_neg c3] at H
  have c3b0 : ((l0.length : Int) == (l1.length : Int)) = false := beq_eq_false_iff_ne.mpr c3
  try simp only [beq_self_eq_true, Bool.not_true, Bool.false_or, Bool.true_and] at c3b0
  have c3b1 : ((l0.length : Int) != (l1.length : Int)) = true := bne_iff_ne.mpr c3
  have c3b2 : (l0.length == l1.length) = false := by first | simpa using c3 | (simp at c3 ⊢; omega)
  obtain rfl := Option.some.inj H
  go_enter Try.func20, Try.ntmps20
  go_wp2
  repeat (go_quiet (fail); try go_wp2)
  go_ret
  exact ⟨by first | rfl | (simp; done) | (simp [*]; done), by repeat (first | exact Drawn0.refl _ | apply Drawn0.step)⟩

end Go.Proofs.Ytfjenooajbdcmaa.K
