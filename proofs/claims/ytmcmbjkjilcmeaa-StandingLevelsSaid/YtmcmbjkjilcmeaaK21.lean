-- PRINTED by print.py (a twelfth state) out of the translation. Not trusted: Lean checks it.
import Derived.Test.YtmcmbjkjilcmeaaK0
import Derived.Test.YtmcmbjkjilcmeaaGPu
import Derived.Test.YtmcmbjkjilcmeaaGShort
import Derived.Test.YtmcmbjkjilcmeaaK10
import Derived.Test.YtmcmbjkjilcmeaaK13
import Derived.Test.YtmcmbjkjilcmeaaK14
import Derived.Test.YtmcmbjkjilcmeaaK15
import Derived.Test.YtmcmbjkjilcmeaaK17
import Derived.Test.YtmcmbjkjilcmeaaK20
import Derived.Test.YtmcmbjkjilcmeaaGClone
import Derived.Test.YtmcmbjkjilcmeaaGCloneP
namespace Go.Proofs.Ytmcmbjkjilcmeaa.K
open Go.RowKit Go.Proofs.YtmcmbjkjilcmeaaW.PrintWords Go.Proofs.YtmcmbjkjilcmeaaW.PrintLast Go.Proofs.YtmcmbjkjilcmeaaW.PrintMore
attribute [local go_sem] max2_int min2_int max_two min_two max_three min_three max_four min_four   -- for this text's walks alone
set_option linter.unusedVariables false
set_option linter.unusedSimpArgs false

/-! ### spilelaw12_StandingLevels: function 3 -/
def spilelaw12_StandingLevels.f (k : Nat) (a0_0 : ByteArray) (a0_1 : Int) (l0_2 : List (S33)) (a0_3 : Int) (a1 : Int) (a2 : Int) (l3 : List Int) : Option (Bool) := (spilelaw12_awake.f k).bind fun t412 => (if t412 = true then ((spilelaw12_few.f k a0_0 a0_1 l0_2 a0_3 l3).bind fun t413 => (if t413 = true then ((clone13.f l0_2).bind fun t414 => ((standing_Levels.f k t414 a1 a2).bind fun bt417 => ((spileref12_Levels.f k l0_2 a1 a2).bind fun bt421 => ((slices_Equal_int_int.f k bt417.1 bt421.1).bind fun t425 => (if t425 = true then (if bt417.2 = bt421.2 then ((spilelaw12_own.f k a0_0 a0_1 l0_2 a0_3).bind fun bt426 => ((clone18.f l3).bind fun t432 => ((standing_Check.f k bt426.1 bt426.2.1 bt426.2.2.1 bt426.2.2.2 t432).bind fun t435 => ((spileref12_Check.f k a0_0 a0_1 l0_2 a0_3 l3).bind fun t436 => (some (t435 == t436)))))) else (none)) else (none)))))) else (some true))) else (none))
theorem spilelaw12_StandingLevels.mono : ∀ a0 a1 a2 a3 a4 a5 a6 k, LeO (spilelaw12_StandingLevels.f k a0 a1 a2 a3 a4 a5 a6) (spilelaw12_StandingLevels.f (k + 1) a0 a1 a2 a3 a4 a5 a6) := by
 intro a0 a1 a2 a3 a4 a5 a6 k
 unfold spilelaw12_StandingLevels.f
 repeat' first
   | (with_reducible exact slices_Equal_int_int.mono _ _ _)
   | (with_reducible exact spilelaw12_awake.mono _)
   | (with_reducible exact spilelaw12_few.mono _ _ _ _ _ _)
   | (with_reducible exact spilelaw12_own.mono _ _ _ _ _)
   | (with_reducible exact spileref12_Check.mono _ _ _ _ _ _)
   | (with_reducible exact spileref12_Levels.mono _ _ _ _)
   | (with_reducible exact standing_Check.mono _ _ _ _ _ _)
   | (with_reducible exact standing_Levels.mono _ _ _ _)
   | (with_reducible exact LeO.refl _)
   | (with_reducible exact LeO.none _)
   | (with_reducible refine LeO.ite ?_ ?_)
   | (with_reducible refine LeO.bind ?_ (fun _ => ?_))
   | exact slices_Equal_int_int.mono _ _ _
   | exact spilelaw12_awake.mono _
   | exact spilelaw12_few.mono _ _ _ _ _ _
   | exact spilelaw12_own.mono _ _ _ _ _
   | exact spileref12_Check.mono _ _ _ _ _ _
   | exact spileref12_Levels.mono _ _ _ _
   | exact standing_Check.mono _ _ _ _ _ _
   | exact standing_Levels.mono _ _ _ _
   | exact LeO.none _
   | refine LeO.ite ?_ ?_
   | refine LeO.bind ?_ (fun _ => ?_)
def spilelaw12_StandingLevels.T7 : Bool × List (List Nat × List Nat) := (true, [([], []), ([], []), ([0, 1], [0, 1]), ([2, 2], [2]), ([3], [3]), ([3], [3]), ([4, 5, 3], [3, 4, 5]), ([3, 6], [3, 6]), ([7, 3], [7]), ([8], [8]), ([9, 8, 8], [8, 9]), ([8], [8]), ([11, 10, 8], [8, 11]), ([10, 12, 12, 8], [8, 10, 12]), ([8], [8]), ([8], [8]), ([14, 15, 13, 8], [8, 14, 15]), ([13, 16, 8], [8, 13, 16]), ([8, 17], [8, 17]), ([18, 16, 0, 1, 2, 3, 4, 5, 6, 7, 8, 9, 10, 11, 12, 13, 14, 15, 16, 17, 18], [18])])
def spilelaw12_StandingLevels.B7 : List Nat := [0, 0, 3, 7, 15, 15, 63, 127, 255, 511, 1023, 511, 4095, 8191, 511, 511, 65535, 131071, 262143, 524287]
theorem spilelaw12_StandingLevels.tab7 : rtab .any (opsOf Try.f3 7) = spilelaw12_StandingLevels.T7 := by kernel_rfl
theorem spilelaw12_StandingLevels.bits7 : waitsOk spilelaw12_StandingLevels.T7.2 spilelaw12_StandingLevels.B7 = true := by kernel_rfl
set_option maxHeartbeats 8000000 in
set_option maxRecDepth 100000 in
theorem spilelaw12_StandingLevels.calls (k : Nat) (a0_0 : ByteArray) (a0_1 : Int) (A0_2 : Option Addr) (c0_2 : Nat) (l0_2 : List (S33)) (a0_3 : Int) (a1 : Int) (a2 : Int) (A3 : Option Addr) (c3 : Nat) (l3 : List Int) (r : Bool) (w : World) (hr0_2 : Kd.C k33 w A0_2 l0_2.length l0_2) (hc0_2 : l0_2.length ≤ c0_2) (hr3 : Kd.C (Kd.int .i64) w A3 l3.length l3) (hc3 : l3.length ≤ c3) (h : spilelaw12_StandingLevels.f k a0_0 a0_1 l0_2 a0_3 a1 a2 l3 = some r) :
  Calls Try.prog 3 #[.agg #[.string a0_0, .int .i64 a0_1, .slice A0_2 l0_2.length c0_2, .int .i64 a0_3], .int .i64 a1, .int .i64 a2, .slice A3 l3.length c3] w fun e w' => e = .returned (.bool r) ∧ Below w.heap.size w w' := by
 have hu24 := Try.underlying24
 have HR0_2 := Aside0.mk hr0_2
 have HC0_2 := Aside0.mk hc0_2
 clear hr0_2 hc0_2
 have HR3 := Aside0.mk hr3
 have HC3 := Aside0.mk hc3
 clear hr3 hc3
 have HB := Aside0.mk (Below.refl w.heap.size w)
 have H : ((spilelaw12_awake.f k).bind fun t412 => (if t412 = true then ((spilelaw12_few.f k a0_0 a0_1 l0_2 a0_3 l3).bind fun t413 => (if t413 = true then ((clone13.f l0_2).bind fun t414 => ((standing_Levels.f k t414 a1 a2).bind fun bt417 => ((spileref12_Levels.f k l0_2 a1 a2).bind fun bt421 => ((slices_Equal_int_int.f k bt417.1 bt421.1).bind fun t425 => (if t425 = true then (if bt417.2 = bt421.2 then ((spilelaw12_own.f k a0_0 a0_1 l0_2 a0_3).bind fun bt426 => ((clone18.f l3).bind fun t432 => ((standing_Check.f k bt426.1 bt426.2.1 bt426.2.2.1 bt426.2.2.2 t432).bind fun t435 => ((spileref12_Check.f k a0_0 a0_1 l0_2 a0_3 l3).bind fun t436 => (some (t435 == t436)))))) else (none)) else (none)))))) else (some true))) else (none))) = some r := h
 clear h
 replace H := Option.bind_eq_some_iff.mp H
 obtain ⟨t412, A50, H⟩ := H
 replace H : (if t412 = true then ((spilelaw12_few.f k a0_0 a0_1 l0_2 a0_3 l3).bind fun t413 => (if t413 = true then ((clone13.f l0_2).bind fun t414 => ((standing_Levels.f k t414 a1 a2).bind fun bt417 => ((spileref12_Levels.f k l0_2 a1 a2).bind fun bt421 => ((slices_Equal_int_int.f k bt417.1 bt421.1).bind fun t425 => (if t425 = true then (if bt417.2 = bt421.2 then ((spilelaw12_own.f k a0_0 a0_1 l0_2 a0_3).bind fun bt426 => ((clone18.f l3).bind fun t432 => ((standing_Check.f k bt426.1 bt426.2.1 bt426.2.2.1 bt426.2.2.2 t432).bind fun t435 => ((spileref12_Check.f k a0_0 a0_1 l0_2 a0_3 l3).bind fun t436 => (some (t435 == t436)))))) else (none)) else (none)))))) else (some true))) else (none)) = some r := H
 have A5 := Aside0.mk A50
 clear A50
 by_cases c6 : t412 = true
 ·subst c6
  have H1 : ((spilelaw12_few.f k a0_0 a0_1 l0_2 a0_3 l3).bind fun t413 => (if t413 = true then ((clone13.f l0_2).bind fun t414 => ((standing_Levels.f k t414 a1 a2).bind fun bt417 => ((spileref12_Levels.f k l0_2 a1 a2).bind fun bt421 => ((slices_Equal_int_int.f k bt417.1 bt421.1).bind fun t425 => (if t425 = true then (if bt417.2 = bt421.2 then ((spilelaw12_own.f k a0_0 a0_1 l0_2 a0_3).bind fun bt426 => ((clone18.f l3).bind fun t432 => ((standing_Check.f k bt426.1 bt426.2.1 bt426.2.2.1 bt426.2.2.2 t432).bind fun t435 => ((spileref12_Check.f k a0_0 a0_1 l0_2 a0_3 l3).bind fun t436 => (some (t435 == t436)))))) else (none)) else (none)))))) else (some true))) = some r := by rw [if_pos rfl] at H; exact H
  clear H
  have H := H1
  clear H1
  replace H := Option.bind_eq_some_iff.mp H
  obtain ⟨t413, A70, H⟩ := H
  replace H : (if t413 = true then ((clone13.f l0_2).bind fun t414 => ((standing_Levels.f k t414 a1 a2).bind fun bt417 => ((spileref12_Levels.f k l0_2 a1 a2).bind fun bt421 => ((slices_Equal_int_int.f k bt417.1 bt421.1).bind fun t425 => (if t425 = true then (if bt417.2 = bt421.2 then ((spilelaw12_own.f k a0_0 a0_1 l0_2 a0_3).bind fun bt426 => ((clone18.f l3).bind fun t432 => ((standing_Check.f k bt426.1 bt426.2.1 bt426.2.2.1 bt426.2.2.2 t432).bind fun t435 => ((spileref12_Check.f k a0_0 a0_1 l0_2 a0_3 l3).bind fun t436 => (some (t435 == t436)))))) else (none)) else (none)))))) else (some true)) = some r := H
  have A7 := Aside0.mk A70
  clear A70
  by_cases c8 : t413 = true
  ·subst c8
   have H1 : ((clone13.f l0_2).bind fun t414 => ((standing_Levels.f k t414 a1 a2).bind fun bt417 => ((spileref12_Levels.f k l0_2 a1 a2).bind fun bt421 => ((slices_Equal_int_int.f k bt417.1 bt421.1).bind fun t425 => (if t425 = true then (if bt417.2 = bt421.2 then ((spilelaw12_own.f k a0_0 a0_1 l0_2 a0_3).bind fun bt426 => ((clone18.f l3).bind fun t432 => ((standing_Check.f k bt426.1 bt426.2.1 bt426.2.2.1 bt426.2.2.2 t432).bind fun t435 => ((spileref12_Check.f k a0_0 a0_1 l0_2 a0_3 l3).bind fun t436 => (some (t435 == t436)))))) else (none)) else (none)))))) = some r := by rw [if_pos rfl] at H; exact H
   clear H
   have H := H1
   clear H1
   replace H := Option.bind_eq_some_iff.mp H
   obtain ⟨t414, A90, H⟩ := H
   replace H : ((standing_Levels.f k t414 a1 a2).bind fun bt417 => ((spileref12_Levels.f k l0_2 a1 a2).bind fun bt421 => ((slices_Equal_int_int.f k bt417.1 bt421.1).bind fun t425 => (if t425 = true then (if bt417.2 = bt421.2 then ((spilelaw12_own.f k a0_0 a0_1 l0_2 a0_3).bind fun bt426 => ((clone18.f l3).bind fun t432 => ((standing_Check.f k bt426.1 bt426.2.1 bt426.2.2.1 bt426.2.2.2 t432).bind fun t435 => ((spileref12_Check.f k a0_0 a0_1 l0_2 a0_3 l3).bind fun t436 => (some (t435 == t436)))))) else (none)) else (none))))) = some r := H
   have A9 := Aside0.mk A90
   clear A90
   replace H := Option.bind_eq_some_iff.mp H
   obtain ⟨⟨t417, t418⟩, A100, H⟩ := H
   replace H : ((spileref12_Levels.f k l0_2 a1 a2).bind fun bt421 => ((slices_Equal_int_int.f k t417 bt421.1).bind fun t425 => (if t425 = true then (if t418 = bt421.2 then ((spilelaw12_own.f k a0_0 a0_1 l0_2 a0_3).bind fun bt426 => ((clone18.f l3).bind fun t432 => ((standing_Check.f k bt426.1 bt426.2.1 bt426.2.2.1 bt426.2.2.2 t432).bind fun t435 => ((spileref12_Check.f k a0_0 a0_1 l0_2 a0_3 l3).bind fun t436 => (some (t435 == t436)))))) else (none)) else (none)))) = some r := H
   have A10 := Aside0.mk A100
   clear A100
   replace H := Option.bind_eq_some_iff.mp H
   obtain ⟨⟨t421, t422⟩, A110, H⟩ := H
   replace H : ((slices_Equal_int_int.f k t417 t421).bind fun t425 => (if t425 = true then (if t418 = t422 then ((spilelaw12_own.f k a0_0 a0_1 l0_2 a0_3).bind fun bt426 => ((clone18.f l3).bind fun t432 => ((standing_Check.f k bt426.1 bt426.2.1 bt426.2.2.1 bt426.2.2.2 t432).bind fun t435 => ((spileref12_Check.f k a0_0 a0_1 l0_2 a0_3 l3).bind fun t436 => (some (t435 == t436)))))) else (none)) else (none))) = some r := H
   have A11 := Aside0.mk A110
   clear A110
   replace H := Option.bind_eq_some_iff.mp H
   obtain ⟨t425, A120, H⟩ := H
   replace H : (if t425 = true then (if t418 = t422 then ((spilelaw12_own.f k a0_0 a0_1 l0_2 a0_3).bind fun bt426 => ((clone18.f l3).bind fun t432 => ((standing_Check.f k bt426.1 bt426.2.1 bt426.2.2.1 bt426.2.2.2 t432).bind fun t435 => ((spileref12_Check.f k a0_0 a0_1 l0_2 a0_3 l3).bind fun t436 => (some (t435 == t436)))))) else (none)) else (none)) = some r := H
   have A12 := Aside0.mk A120
   clear A120
   by_cases c13 : t425 = true
   ·subst c13
    have H1 : (if t418 = t422 then ((spilelaw12_own.f k a0_0 a0_1 l0_2 a0_3).bind fun bt426 => ((clone18.f l3).bind fun t432 => ((standing_Check.f k bt426.1 bt426.2.1 bt426.2.2.1 bt426.2.2.2 t432).bind fun t435 => ((spileref12_Check.f k a0_0 a0_1 l0_2 a0_3 l3).bind fun t436 => (some (t435 == t436)))))) else (none)) = some r := by rw [if_pos rfl] at H; exact H
    clear H
    have H := H1
    clear H1
    by_cases c14 : t418 = t422
    ·rw [if_pos c14] at H
     have c14b0 : (t418 == t422) = true := beq_iff_eq.mpr c14
     try simp only [beq_self_eq_true, Bool.not_true, Bool.false_or, Bool.true_and] at c14b0
     have c14b1 : (t418 != t422) = false := bne_eq_false_iff_eq.mpr c14
     clear c14
     replace H := Option.bind_eq_some_iff.mp H
     obtain ⟨⟨t426, t427, t428, t431⟩, A150, H⟩ := H
     replace H : ((clone18.f l3).bind fun t432 => ((standing_Check.f k t426 t427 t428 t431 t432).bind fun t435 => ((spileref12_Check.f k a0_0 a0_1 l0_2 a0_3 l3).bind fun t436 => (some (t435 == t436))))) = some r := H
     have A15 := Aside0.mk A150
     clear A150
     replace H := Option.bind_eq_some_iff.mp H
     obtain ⟨t432, A160, H⟩ := H
     replace H : ((standing_Check.f k t426 t427 t428 t431 t432).bind fun t435 => ((spileref12_Check.f k a0_0 a0_1 l0_2 a0_3 l3).bind fun t436 => (some (t435 == t436)))) = some r := H
     have A16 := Aside0.mk A160
     clear A160
     replace H := Option.bind_eq_some_iff.mp H
     obtain ⟨t435, A170, H⟩ := H
     replace H : ((spileref12_Check.f k a0_0 a0_1 l0_2 a0_3 l3).bind fun t436 => (some (t435 == t436))) = some r := H
     have A17 := Aside0.mk A170
     clear A170
     replace H := Option.bind_eq_some_iff.mp H
     obtain ⟨t436, A180, H⟩ := H
     replace H : (some (t435 == t436)) = some r := H
     have A18 := Aside0.mk A180
     clear A180
     obtain rfl := Option.some.inj H
     go_enter Try.func3, Try.ntmps3
     try go_wp2_with (first | ((with_reducible refine gqD (N := 4) rfl ?_); refine GS.bx (N := 4) (cs := #[.string a0_0, .int .i64 a0_1, .slice A0_2 l0_2.length c0_2, .int .i64 a0_3]) (t := 24) ?_; intro gb411 hg w19 hbox hb; have n0_ := Aside0.mk (lqT (GS.lB HB.out) hb); have n1_ := Aside0.mk (hbox); have n2_ := Aside0.mk ((by rw [hg]; exact (lqZ (GS.lB HB.out)) : w.heap.size ≤ gb411)); have n3_ := Aside0.mk ((by rw [hg]; exact (lqZ (GS.lB HB.out)) : w.heap.size ≤ gb411)); clear HB; have HB := n0_; have BK411 := n1_; have GW411 := n2_; have GE411 := n3_; clear n0_ n1_ n2_ n3_; clear hb hbox hg) | ((with_reducible refine gqC (f := 10) rfl ?_); refine GS.gL (some 13) Try.func10 #[] ?_; (with_reducible refine (spilelaw12_awake.calls k  true _ A5.out).mono ?_); rintro e w20 ⟨rfl, hb⟩; refine ⟨_, rfl, ?_⟩; have n0_ := Aside0.mk (bqB (GS.bqX BK411.out) hb); have n1_ := Aside0.mk (lqT (GS.lB HB.out) hb); clear BK411; clear HB; have BK411 := n0_; have HB := n1_; clear n0_ n1_; (try clear hb); (try clear hb2); (try clear hk); (try clear hi); obtain ⟨hcz21_0, hcz21_1, hcz21_2, hcz21_3, hfz21_0, hfz21_1, hfz21_2, hfz21_3⟩ := GS.c4 BK411.out) | ((with_reducible refine gqC (f := 11) rfl ?_); refine GS.gL (some 17) Try.func11 #[.agg #[.string a0_0, .int .i64 a0_1, .slice A0_2 l0_2.length c0_2, .int .i64 a0_3], .slice A3 l3.length c3] ?_; (with_reducible refine (spilelaw12_few.calls k a0_0 a0_1 (fun k_ => k_ < w.heap.size) _ _ l0_2 a0_3 _ _ l3 true _ ?side1 ?side2 ?side3 A7.out).mono ?_); (case side1 => exact Kd.V_mk HC0_2.out (Kd.F_below (Kd.C_F k33_heap HR0_2.out) (GS.lB HB.out))); (case side2 => exact GS.rC (Kd.C_below HR3.out HB.out)); (case side3 => exact HC3.out); rintro e w22 ⟨rfl, hb⟩; refine ⟨_, rfl, ?_⟩; have n0_ := Aside0.mk (bqB (GS.bqX BK411.out) hb); have n1_ := Aside0.mk (lqT (GS.lB HB.out) hb); clear BK411; clear HB; have BK411 := n0_; have HB := n1_; clear n0_ n1_; (try clear hb); (try clear hb2); (try clear hk); (try clear hi); obtain ⟨hcz23_0, hcz23_1, hcz23_2, hcz23_3, hfz23_0, hfz23_1, hfz23_2, hfz23_3⟩ := GS.c4 BK411.out) | ((with_reducible refine gqC (f := 13) rfl ?_); refine GS.gL (some 22) Try.func13 #[.slice A0_2 l0_2.length c0_2] ?_; (with_reducible refine (clone13.calls _ _ l0_2 t414 _ ?side1 ?side2 A9.out).mono ?_); (case side1 => exact GS.rC (Kd.C_below HR0_2.out HB.out)); (case side2 => exact HC0_2.out); rintro e w24 ⟨v415, rfl, ho0, hb⟩; refine ⟨_, rfl, ?_⟩; have n0_ := Aside0.mk (Kd.R_lower ho0 (lqZ (GS.lB HB.out))); have n1_ := Aside0.mk (bqB (GS.bqX BK411.out) hb); have n2_ := Aside0.mk (lqT (GS.lB HB.out) hb); clear BK411; clear HB; have HO416 := n0_; have BK411 := n1_; have HB := n2_; clear n0_ n1_ n2_; (try clear hb); (try clear hb2); (try clear hk); (try clear hi); (try clear ho0); obtain ⟨Ao25, co25, eo25⟩ := Kd.R_slice HO416.out; subst eo25) | ((with_reducible refine gqC (f := 12) rfl ?_); refine GS.gL (some 25) Try.func12 #[.slice Ao25 t414.length co25, .int .i64 a1, .int .i64 a2] ?_; (with_reducible refine (standing_Levels.calls k _ _ t414 a1 a2 t417 t418 _ ?side1 ?side2 A10.out).mono ?_); (case side1 => repeat (first | exact (Kd.R_reads' HO416.out).2.2 | (with_reducible refine Kd.C_alloc ?_ _) | (with_reducible refine Kd.C_drewN ?_ _) | (with_reducible refine Kd.C_drew ?_))); (case side2 => exact (Kd.R_reads' HO416.out).2.1); rintro e w26 ⟨v419, rfl, ho0, hb⟩; refine ⟨_, rfl, ?_⟩; have n0_ := Aside0.mk (Kd.R_below (GS.rR HO416.out) hb); have n1_ := Aside0.mk (Kd.R_lower ho0 (lqZ (GS.lB HB.out))); have n2_ := Aside0.mk (bqB (GS.bqX BK411.out) hb); have n3_ := Aside0.mk (lqT (GS.lB HB.out) hb); clear HO416; clear BK411; clear HB; have HO416 := n0_; have HO420 := n1_; have BK411 := n2_; have HB := n3_; clear n0_ n1_ n2_ n3_; (try clear hb); (try clear hb2); (try clear hk); (try clear hi); (try clear ho0); obtain ⟨hcz27_0, hcz27_1, hcz27_2, hcz27_3, hfz27_0, hfz27_1, hfz27_2, hfz27_3⟩ := GS.c4 BK411.out) | ((with_reducible refine gqC (f := 14) rfl ?_); refine GS.gL (some 33) Try.func14 #[.slice A0_2 l0_2.length c0_2, .int .i64 a1, .int .i64 a2] ?_; (with_reducible refine (spileref12_Levels.calls k _ _ l0_2 a1 a2 t421 t422 _ ?side1 ?side2 A11.out).mono ?_); (case side1 => exact GS.rC (Kd.C_below HR0_2.out HB.out)); (case side2 => exact HC0_2.out); rintro e w28 ⟨v423, rfl, ho0, hb⟩; refine ⟨_, rfl, ?_⟩; have n0_ := Aside0.mk (Kd.R_below (GS.rR HO416.out) hb); have n1_ := Aside0.mk (Kd.R_elder' (GS.rR HO420.out) (Kd.R_base ho0) hb); have n2_ := Aside0.mk (Kd.R_lower (Kd.R_new' ho0 (Kd.R_lt (GS.rR HO420.out))) (lqZ (GS.lB HB.out))); have n3_ := Aside0.mk (bqB (GS.bqX BK411.out) hb); have n4_ := Aside0.mk (lqT (GS.lB HB.out) hb); clear HO416; clear HO420; clear BK411; clear HB; have HO416 := n0_; have HO420 := n1_; have HO424 := n2_; have BK411 := n3_; have HB := n4_; clear n0_ n1_ n2_ n3_ n4_; (try clear hb); (try clear hb2); (try clear hk); (try clear hi); (try clear ho0)))
     have n0_ := Aside0.mk (Kd.R_drew HO416.out)
     have n1_ := Aside0.mk (Kd.R_drew HO420.out)
     have n2_ := Aside0.mk (Kd.R_drew HO424.out)
     have n3_ := Aside0.mk (bqD BK411.out)
     have n4_ := Aside0.mk (lqD HB.out)
     clear HO416
     clear HO420
     clear HO424
     clear BK411
     clear HB
     have HO416 := n0_
     have HO420 := n1_
     have HO424 := n2_
     have BK411 := n3_
     have HB := n4_
     clear n0_ n1_ n2_ n3_ n4_
     obtain ⟨Ao30, co30, eo30⟩ := Kd.R_slice HO420.out
     (first | subst eo30 | (injection eo30 with f1_ f2_ f3_; have f4_ := f1_.symm; have f5_ := f3_.symm; clear f1_ f2_ f3_; subst f4_; subst f5_))
     obtain ⟨Ao31, co31, eo31⟩ := Kd.R_slice HO424.out
     (first | subst eo31 | (injection eo31 with f1_ f2_ f3_; have f4_ := f1_.symm; have f5_ := f3_.symm; clear f1_ f2_ f3_; subst f4_; subst f5_))
     refine start_ (n := 20) (S := fun w' => w'.cell? ⟨gb411, 0, none⟩ = some (.string a0_0) ∧ w'.cell? ⟨gb411, 1, none⟩ = some (.int .i64 a0_1) ∧ w'.cell? ⟨gb411, 2, none⟩ = some (.slice A0_2 l0_2.length c0_2) ∧ w'.cell? ⟨gb411, 3, none⟩ = some (.int .i64 a0_3)) (ds := []) #[false, false, false, false, false, false, false, false, false, false, false, false, false, false, false, false, false, false, false, false] (by kernel_rfl) rfl rfl ⟨(bqC BK411.out 0).trans rfl, (bqC BK411.out 1).trans rfl, (bqC BK411.out 2).trans rfl, (bqC BK411.out 3).trans rfl⟩ (fun hHeld => ?_); refine with_tabW spilelaw12_StandingLevels.tab7 spilelaw12_StandingLevels.bits7 (fun HT_ HW_ => ?_)
     generalize w28.drew = w29 at HO416 HO420 HO424 BK411 HB hHeld ⊢
     refine GS.pu 0 (some 36) HT_.out ?_
     refine GS.pu 1 (some 37) HT_.out ?_
     refine one_ (i := 2) (N := some 38) #[true, true, true, false, false, false, false, false, false, false, false, false, false, false, false, false, false, false, false, false] rfl rfl (one_of HT_.out (by kernel_rfl)) (by decide) (fun K hK => ?_)
     refine goes_ Try.func15 (by kernel_rfl) rfl #[.slice Ao30 t417.length co30, .slice Ao31 t421.length co31] (by rfl) rfl rfl (by (try simp only [List.map_toArray, List.map_cons, List.map_nil]); first | done | rfl | (simp only [List.length_drop, List.length_take]; rfl)) ?_
     with_reducible refine (slices_Equal_int_int.calls k _ _ t417 _ _ t421 true _ ?side1 ?side2 ?side3 ?side4 A12.out).mono ?_
     (case side1 => repeat (first | exact (Kd.R_reads' HO420.out).2.2 | (with_reducible refine Kd.C_alloc ?_ _) | (with_reducible refine Kd.C_drewN ?_ _) | (with_reducible refine Kd.C_drew ?_)))
     (case side2 => exact (Kd.R_reads' HO420.out).2.1)
     (case side3 => repeat (first | exact (Kd.R_reads' HO424.out).2.2 | (with_reducible refine Kd.C_alloc ?_ _) | (with_reducible refine Kd.C_drewN ?_ _) | (with_reducible refine Kd.C_drew ?_)))
     (case side4 => exact (Kd.R_reads' HO424.out).2.1)
     rintro e w' ⟨rfl, ⟨nd, rfl⟩⟩
     refine ⟨_, rfl, ?_⟩
     refine hK.out _ _ ⟨(bqC BK411.out 0).trans rfl, (bqC BK411.out 1).trans rfl, (bqC BK411.out 2).trans rfl, (bqC BK411.out 3).trans rfl⟩ (fun hHeld => ?_)
     clear hK K
     refine norm_ (a' := ?_) ?_ ?_
     rotate_left
     ·show Act.put _ (some 38) _ = _
      simp only [Act.put, List.setIfInBounds_toArray, List.set_cons_zero, List.set_cons_succ, i64_w, i32_w]
      rfl
     refine GS.pu 3 (some 39) HT_.out ?_
     refine GS.pu 4 (some 40) HT_.out ?_
     refine GS.pu 5 (some 41) HT_.out ?_
     refine GS.pu 6 (some 42) HT_.out ?_
     refine GS.pu 7 (some 43) HT_.out ?_
     refine GS.pu 8 (some 44) HT_.out ?_
     refine GS.pu 11 (some 47) HT_.out ?_
     refine GS.pu 15 (some 51) HT_.out ?_
     refine GS.tk 9 (some 45) HT_.out HW_.out hHeld ?_
     refine GS.tk 14 (some 50) HT_.out HW_.out hHeld ?_
     refine one_ (i := 10) (N := some 46) #[true, true, true, true, true, true, true, true, true, true, true, true, false, false, true, true, false, false, false, false] rfl rfl (one_of HT_.out (by kernel_rfl)) (by decide) (fun K hK => ?_)
     refine goes_ Try.func17 (by kernel_rfl) rfl #[.agg #[.string a0_0, .int .i64 a0_1, .slice A0_2 l0_2.length c0_2, .int .i64 a0_3]] (by rfl) rfl rfl (by (try simp only [List.map_toArray, List.map_cons, List.map_nil]); first | done | rfl | (simp only [List.length_drop, List.length_take]; rfl)) ?_
     with_reducible refine (spilelaw12_own.calls k a0_0 a0_1 (fun k_ => k_ < w.heap.size) _ _ l0_2 a0_3 t426 t427 t428 t431 _ ?side1 A15.out).mono ?_
     (case side1 => exact Kd.V_mk HC0_2.out (Kd.F_below (Kd.C_F k33_heap HR0_2.out) (GS.lB HB.out)))
     rintro e w32 ⟨v429, rfl, ho0, hb⟩
     refine ⟨_, rfl, ?_⟩
     have n0_ := Aside0.mk (Kd.R_below (GS.rR HO416.out) hb)
     have n1_ := Aside0.mk (Kd.R_below (GS.rR HO420.out) hb)
     have n2_ := Aside0.mk (Kd.R_below (GS.rR HO424.out) hb)
     have n3_ := Aside0.mk (Kd.V_lower (Kd.V_mono (ok' := fun k_ => some k_ ≠ (.slice Ao25 t414.length co25 : Value).ownBlock ∧ some k_ ≠ (.slice Ao30 t417.length co30 : Value).ownBlock ∧ some k_ ≠ (.slice Ao31 t421.length co31 : Value).ownBlock ∧ k_ ≠ gb411) ho0 (fun k_ hk_ => ⟨Or.elim hk_ (fun hs_ => fun e_ => Nat.not_le.2 hs_ (Kd.R_base HO416.out k_ e_.symm)) (fun hn_ => (Kd.fresh' (Kd.R_lt (GS.rR HO416.out)) k_ hn_)), Or.elim hk_ (fun hs_ => fun e_ => Nat.not_le.2 hs_ (Kd.R_base HO420.out k_ e_.symm)) (fun hn_ => (Kd.fresh' (Kd.R_lt (GS.rR HO420.out)) k_ hn_)), Or.elim hk_ (fun hs_ => fun e_ => Nat.not_le.2 hs_ (Kd.R_base HO424.out k_ e_.symm)) (fun hn_ => (Kd.fresh' (Kd.R_lt (GS.rR HO424.out)) k_ hn_)), Or.elim hk_ (fun hs_ => fun e_ => Nat.not_le.2 hs_ (by rw [e_]; exact GW411.out)) (fun hn_ => (Kd.freshB (GS.bqX BK411.out) k_ hn_))⟩)) (lqZ (GS.lB HB.out)))
     have n4_ := Aside0.mk (bqB (GS.bqX BK411.out) hb)
     have n5_ := Aside0.mk (lqT (GS.lB HB.out) hb)
     clear HO416
     clear HO420
     clear HO424
     clear BK411
     clear HB
     have HO416 := n0_
     have HO420 := n1_
     have HO424 := n2_
     have HO430 := n3_
     have BK411 := n4_
     have HB := n5_
     clear n0_ n1_ n2_ n3_ n4_ n5_
     (try clear hb)
     (try clear hb2)
     (try clear hk)
     (try clear hi)
     (try clear ho0)
     refine hK.out _ _ ⟨(bqC BK411.out 0).trans rfl, (bqC BK411.out 1).trans rfl, (bqC BK411.out 2).trans rfl, (bqC BK411.out 3).trans rfl⟩ (fun hHeld => ?_)
     clear hK K
     refine norm_ (a' := ?_) ?_ ?_
     rotate_left
     ·show Act.put _ (some 46) _ = _
      simp only [Act.put, List.setIfInBounds_toArray, List.set_cons_zero, List.set_cons_succ, i64_w, i32_w]
      rfl
     refine one_ (i := 12) (N := some 48) #[true, true, true, true, true, true, true, true, true, true, true, true, true, false, true, true, false, false, false, false] rfl rfl (one_of HT_.out (by kernel_rfl)) (by decide) (fun K hK => ?_)
     refine goes_ Try.func18 (by kernel_rfl) rfl #[.slice A3 l3.length c3] (by rfl) rfl rfl (by (try simp only [List.map_toArray, List.map_cons, List.map_nil]); first | done | rfl | (simp only [List.length_drop, List.length_take]; rfl)) ?_
     with_reducible refine (clone18.calls _ _ l3 t432 _ ?side1 ?side2 A16.out).mono ?_
     (case side1 => exact GS.rC (Kd.C_below HR3.out HB.out))
     (case side2 => exact HC3.out)
     rintro e w33 ⟨v433, rfl, ho0, hb⟩
     refine ⟨_, rfl, ?_⟩
     have n0_ := Aside0.mk (Kd.R_below (GS.rR HO416.out) hb)
     have n1_ := Aside0.mk (Kd.R_elder' (GS.rR HO420.out) (Kd.R_base ho0) hb)
     have n2_ := Aside0.mk (Kd.R_elder' (GS.rR HO424.out) (Kd.R_base ho0) hb)
     have n3_ := Aside0.mk (Kd.V_elder' (by (with_reducible repeat (first | apply Kd.V_alloc | apply Kd.V_drewN | apply Kd.V_drew)); exact HO430.out) (Kd.R_base ho0) hb)
     have n4_ := Aside0.mk (Kd.R_lower (Kd.R_new' (Kd.R_new' ho0 (Kd.R_lt (GS.rR HO420.out))) (Kd.R_lt (GS.rR HO424.out))) (lqZ (GS.lB HB.out)))
     have n5_ := Aside0.mk (bqB (GS.bqX BK411.out) hb)
     have n6_ := Aside0.mk (lqT (GS.lB HB.out) hb)
     clear HO416
     clear HO420
     clear HO424
     clear HO430
     clear BK411
     clear HB
     have HO416 := n0_
     have HO420 := n1_
     have HO424 := n2_
     have HO430 := n3_
     have HO434 := n4_
     have BK411 := n5_
     have HB := n6_
     clear n0_ n1_ n2_ n3_ n4_ n5_ n6_
     (try clear hb)
     (try clear hb2)
     (try clear hk)
     (try clear hi)
     (try clear ho0)
     obtain ⟨Ao34, co34, eo34⟩ := Kd.V_slice HO430.out
     (first | subst eo34 | (injection eo34 with f1_ f2_ f3_; have f4_ := f1_.symm; have f5_ := f3_.symm; clear f1_ f2_ f3_; subst f4_; subst f5_))
     obtain ⟨Ao35, co35, eo35⟩ := Kd.R_slice HO434.out
     (first | subst eo35 | (injection eo35 with f1_ f2_ f3_; have f4_ := f1_.symm; have f5_ := f3_.symm; clear f1_ f2_ f3_; subst f4_; subst f5_))
     refine hK.out _ _ ⟨(bqC BK411.out 0).trans rfl, (bqC BK411.out 1).trans rfl, (bqC BK411.out 2).trans rfl, (bqC BK411.out 3).trans rfl⟩ (fun hHeld => ?_)
     clear hK K
     refine norm_ (a' := ?_) ?_ ?_
     rotate_left
     ·show Act.put _ (some 48) _ = _
      simp only [Act.put, List.setIfInBounds_toArray, List.set_cons_zero, List.set_cons_succ, i64_w, i32_w]
      rfl
     refine one_ (i := 13) (N := some 49) #[true, true, true, true, true, true, true, true, true, true, true, true, true, true, true, true, false, false, false, false] rfl rfl (one_of HT_.out (by kernel_rfl)) (by decide) (fun K hK => ?_)
     refine goes_ Try.func16 (by kernel_rfl) rfl #[.agg #[.string t426, .int .i64 t427, .slice Ao34 t428.length co34, .int .i64 t431], .slice Ao35 t432.length co35] (by rfl) rfl rfl (by (try simp only [List.map_toArray, List.map_cons, List.map_nil]); first | done | rfl | (simp only [List.length_drop, List.length_take]; rfl)) ?_
     with_reducible refine (standing_Check.calls k t426 t427 _ _ t428 t431 _ _ t432 t435 _ ?side1 ?side2 ?side3 ?side4 A17.out).mono ?_
     (case side1 => repeat (first | exact (Kd.V_reads' HO430.out).2.2 | (with_reducible refine Kd.C_alloc ?_ _) | (with_reducible refine Kd.C_drewN ?_ _) | (with_reducible refine Kd.C_drew ?_)))
     (case side2 => exact (Kd.V_reads' HO430.out).2.1)
     (case side3 => repeat (first | exact (Kd.R_reads' HO434.out).2.2 | (with_reducible refine Kd.C_alloc ?_ _) | (with_reducible refine Kd.C_drewN ?_ _) | (with_reducible refine Kd.C_drew ?_)))
     (case side4 => exact (Kd.R_reads' HO434.out).2.1)
     rintro e w36 ⟨rfl, hb⟩
     refine ⟨_, rfl, ?_⟩
     have n0_ := Aside0.mk (Kd.R_below (GS.rR HO416.out) hb)
     have n1_ := Aside0.mk (Kd.R_below (GS.rR HO420.out) hb)
     have n2_ := Aside0.mk (Kd.R_below (GS.rR HO424.out) hb)
     have n3_ := Aside0.mk (Kd.V_below (by (with_reducible repeat (first | apply Kd.V_alloc | apply Kd.V_drewN | apply Kd.V_drew)); exact HO430.out) hb)
     have n4_ := Aside0.mk (Kd.R_below (GS.rR HO434.out) hb)
     have n5_ := Aside0.mk (bqB (GS.bqX BK411.out) hb)
     have n6_ := Aside0.mk (lqT (GS.lB HB.out) hb)
     clear HO416
     clear HO420
     clear HO424
     clear HO430
     clear HO434
     clear BK411
     clear HB
     have HO416 := n0_
     have HO420 := n1_
     have HO424 := n2_
     have HO430 := n3_
     have HO434 := n4_
     have BK411 := n5_
     have HB := n6_
     clear n0_ n1_ n2_ n3_ n4_ n5_ n6_
     (try clear hb)
     (try clear hb2)
     (try clear hk)
     (try clear hi)
     refine hK.out _ _ ⟨(bqC BK411.out 0).trans rfl, (bqC BK411.out 1).trans rfl, (bqC BK411.out 2).trans rfl, (bqC BK411.out 3).trans rfl⟩ (fun hHeld => ?_)
     clear hK K
     refine norm_ (a' := ?_) ?_ ?_
     rotate_left
     ·show Act.put _ (some 49) _ = _
      simp only [Act.put, List.setIfInBounds_toArray, List.set_cons_zero, List.set_cons_succ, i64_w, i32_w]
      rfl
     refine one_ (i := 16) (N := some 52) #[true, true, true, true, true, true, true, true, true, true, true, true, true, true, true, true, true, false, false, false] rfl rfl (one_of HT_.out (by kernel_rfl)) (by decide) (fun K hK => ?_)
     refine goes_ Try.func19 (by kernel_rfl) rfl #[.agg #[.string a0_0, .int .i64 a0_1, .slice A0_2 l0_2.length c0_2, .int .i64 a0_3], .slice A3 l3.length c3] (by rfl) rfl rfl (by (try simp only [List.map_toArray, List.map_cons, List.map_nil]); first | done | rfl | (simp only [List.length_drop, List.length_take]; rfl)) ?_
     with_reducible refine (spileref12_Check.calls k a0_0 a0_1 _ _ l0_2 a0_3 _ _ l3 t436 _ ?side1 ?side2 ?side3 ?side4 A18.out).mono ?_
     (case side1 => exact GS.rC (Kd.C_below HR0_2.out HB.out))
     (case side2 => exact HC0_2.out)
     (case side3 => exact GS.rC (Kd.C_below HR3.out HB.out))
     (case side4 => exact HC3.out)
     rintro e w37 ⟨rfl, hb⟩
     refine ⟨_, rfl, ?_⟩
     have n0_ := Aside0.mk (Kd.R_below (GS.rR HO416.out) hb)
     have n1_ := Aside0.mk (Kd.R_below (GS.rR HO420.out) hb)
     have n2_ := Aside0.mk (Kd.R_below (GS.rR HO424.out) hb)
     have n3_ := Aside0.mk (Kd.V_below (by (with_reducible repeat (first | apply Kd.V_alloc | apply Kd.V_drewN | apply Kd.V_drew)); exact HO430.out) hb)
     have n4_ := Aside0.mk (Kd.R_below (GS.rR HO434.out) hb)
     have n5_ := Aside0.mk (bqB (GS.bqX BK411.out) hb)
     have n6_ := Aside0.mk (lqT (GS.lB HB.out) hb)
     clear HO416
     clear HO420
     clear HO424
     clear HO430
     clear HO434
     clear BK411
     clear HB
     have HO416 := n0_
     have HO420 := n1_
     have HO424 := n2_
     have HO430 := n3_
     have HO434 := n4_
     have BK411 := n5_
     have HB := n6_
     clear n0_ n1_ n2_ n3_ n4_ n5_ n6_
     (try clear hb)
     (try clear hb2)
     (try clear hk)
     (try clear hi)
     refine hK.out _ _ ⟨(bqC BK411.out 0).trans rfl, (bqC BK411.out 1).trans rfl, (bqC BK411.out 2).trans rfl, (bqC BK411.out 3).trans rfl⟩ (fun hHeld => ?_)
     clear hK K
     refine norm_ (a' := ?_) ?_ ?_
     rotate_left
     ·show Act.put _ (some 52) _ = _
      simp only [Act.put, List.setIfInBounds_toArray, List.set_cons_zero, List.set_cons_succ, i64_w, i32_w]
      rfl
     refine GS.pu 17 (some 53) HT_.out ?_
     refine GS.pu 18 (some 54) HT_.out ?_
     refine GS.pu 19 (some 8) HT_.out ?_
     refine done_ (done_of HT_.out (by kernel_rfl)) ?_
     try go_wp2
     go_ret
     exact ⟨by first | rfl | (simp [errW_none, errW_some] <;> rfl) | (simp [*, errW_none, errW_some] <;> rfl), GS.lB HB.out⟩
    ·rw [if_neg c14] at H
     exact absurd H (by simp)
   ·replace c13 := Bool.eq_false_iff.mpr c13
    subst c13
    have H1 : (none) = some r := by rw [if_neg (show ¬ (false = true) by decide)] at H; exact H
    clear H
    have H := H1
    clear H1
    exact absurd H (by simp)
  ·replace c8 := Bool.eq_false_iff.mpr c8
   subst c8
   have H1 : (some true) = some r := by rw [if_neg (show ¬ (false = true) by decide)] at H; exact H
   clear H
   have H := H1
   clear H1
   obtain rfl := Option.some.inj H
   go_enter Try.func3, Try.ntmps3
   go_wp2_with (first | ((with_reducible refine gqD (N := 4) rfl ?_); refine GS.bx (N := 4) (cs := #[.string a0_0, .int .i64 a0_1, .slice A0_2 l0_2.length c0_2, .int .i64 a0_3]) (t := 24) ?_; intro gb411 hg w38 hbox hb; have n0_ := Aside0.mk (lqT (GS.lB HB.out) hb); have n1_ := Aside0.mk (hbox); have n2_ := Aside0.mk ((by rw [hg]; exact (lqZ (GS.lB HB.out)) : w.heap.size ≤ gb411)); have n3_ := Aside0.mk ((by rw [hg]; exact (lqZ (GS.lB HB.out)) : w.heap.size ≤ gb411)); clear HB; have HB := n0_; have BK411 := n1_; have GW411 := n2_; have GE411 := n3_; clear n0_ n1_ n2_ n3_; clear hb hbox hg) | ((with_reducible refine gqC (f := 10) rfl ?_); refine GS.gL (some 13) Try.func10 #[] ?_; (with_reducible refine (spilelaw12_awake.calls k  true _ A5.out).mono ?_); rintro e w39 ⟨rfl, hb⟩; refine ⟨_, rfl, ?_⟩; have n0_ := Aside0.mk (bqB (GS.bqX BK411.out) hb); have n1_ := Aside0.mk (lqT (GS.lB HB.out) hb); clear BK411; clear HB; have BK411 := n0_; have HB := n1_; clear n0_ n1_; (try clear hb); (try clear hb2); (try clear hk); (try clear hi); obtain ⟨hcz40_0, hcz40_1, hcz40_2, hcz40_3, hfz40_0, hfz40_1, hfz40_2, hfz40_3⟩ := GS.c4 BK411.out) | ((with_reducible refine gqC (f := 11) rfl ?_); refine GS.gL (some 17) Try.func11 #[.agg #[.string a0_0, .int .i64 a0_1, .slice A0_2 l0_2.length c0_2, .int .i64 a0_3], .slice A3 l3.length c3] ?_; (with_reducible refine (spilelaw12_few.calls k a0_0 a0_1 (fun k_ => k_ < w.heap.size) _ _ l0_2 a0_3 _ _ l3 false _ ?side1 ?side2 ?side3 A7.out).mono ?_); (case side1 => exact Kd.V_mk HC0_2.out (Kd.F_below (Kd.C_F k33_heap HR0_2.out) (GS.lB HB.out))); (case side2 => exact GS.rC (Kd.C_below HR3.out HB.out)); (case side3 => exact HC3.out); rintro e w41 ⟨rfl, hb⟩; refine ⟨_, rfl, ?_⟩; have n0_ := Aside0.mk (bqB (GS.bqX BK411.out) hb); have n1_ := Aside0.mk (lqT (GS.lB HB.out) hb); clear BK411; clear HB; have BK411 := n0_; have HB := n1_; clear n0_ n1_; (try clear hb); (try clear hb2); (try clear hk); (try clear hi)))
   go_ret
   exact ⟨by first | rfl | (simp [errW_none, errW_some] <;> rfl) | (simp [*, errW_none, errW_some] <;> rfl), GS.lB HB.out⟩
 ·replace c6 := Bool.eq_false_iff.mpr c6
  subst c6
  have H1 : (none) = some r := by rw [if_neg (show ¬ (false = true) by decide)] at H; exact H
  clear H
  have H := H1
  clear H1
  exact absurd H (by simp)

end Go.Proofs.Ytmcmbjkjilcmeaa.K
