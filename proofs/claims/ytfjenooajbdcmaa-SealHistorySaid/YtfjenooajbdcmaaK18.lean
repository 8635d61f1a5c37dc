-- PRINTED by print.py (a twelfth state) out of the translation. Not trusted: Lean checks it.
import Derived.Test.YtfjenooajbdcmaaK0
import Derived.Test.YtfjenooajbdcmaaGPu
import Derived.Test.YtfjenooajbdcmaaGShort
import Derived.Test.YtfjenooajbdcmaaGSym
import Derived.Test.YtfjenooajbdcmaaK9
import Derived.Test.YtfjenooajbdcmaaK12
import Derived.Test.YtfjenooajbdcmaaK17
import Derived.Test.YtfjenooajbdcmaaGCheck
import Derived.Test.YtfjenooajbdcmaaGHistory
namespace Go.Proofs.Ytfjenooajbdcmaa.K
open Go.RowKit Go.Proofs.YtfjenooajbdcmaaW.PrintWords Go.Proofs.YtfjenooajbdcmaaW.PrintLast Go.Proofs.YtfjenooajbdcmaaW.PrintMore
attribute [local go_sem] max2_int min2_int max_two min_two max_three min_three max_four min_four   -- for this text's walks alone
set_option linter.unusedVariables false
set_option linter.unusedSimpArgs false

/-! ### spilelaw39_SealChecks: function 8 -/
def spilelaw39_SealChecks.f (k : Nat) (l0 : List (S34)) (a1_0 : Int) (a1_1 : Int) (a1_2 : Int) (a1_3 : Int) (a2 : Int) : Option (Bool) := (spilelaw39_awake.f k).bind fun t459 => (if t459 = true then ((spileref39_Few.f l0).bind fun t460 => (if t460 = true then ((clone34.f l0).bind fun t461 => ((seal_Check.f t461).bind fun bt464 => ((spileref39_Check.f k l0).bind fun bt466 => ((clone34.f l0).bind fun t468 => ((seal_Add.f t468 a1_0 a1_1 a1_2 a1_3).bind fun bt471 => ((spileref39_Add.f k l0 a1_0 a1_1 a1_2 a1_3).bind fun bt475 => ((clone34.f l0).bind fun t479 => ((seal_History.f t479 a2).bind fun bt482 => ((spileref39_History.f k l0 a2).bind fun bt486 => (if bt464.1 = bt466.1 then (if bt464.2 = bt466.2 then ((spileref39_Same.f k bt471.1 bt475.1).bind fun t490 => (if t490 = true then (if bt471.2 = bt475.2 then ((spileref39_Same.f k bt482.1 bt486.1).bind fun t491 => (if t491 = true then (some (bt482.2 == bt486.2)) else (none))) else (none)) else (none))) else (none)) else (none))))))))))) else (some true))) else (none))
theorem spilelaw39_SealChecks.mono : ∀ a0 a1 a2 a3 a4 a5 k, LeO (spilelaw39_SealChecks.f k a0 a1 a2 a3 a4 a5) (spilelaw39_SealChecks.f (k + 1) a0 a1 a2 a3 a4 a5) := by
 intro a0 a1 a2 a3 a4 a5 k
 unfold spilelaw39_SealChecks.f
 repeat' first
   | (with_reducible exact spilelaw39_awake.mono _)
   | (with_reducible exact spileref39_Add.mono _ _ _ _ _ _)
   | (with_reducible exact spileref39_Check.mono _ _)
   | (with_reducible exact spileref39_History.mono _ _ _)
   | (with_reducible exact spileref39_Same.mono _ _ _)
   | (with_reducible exact LeO.refl _)
   | (with_reducible exact LeO.none _)
   | (with_reducible refine LeO.ite ?_ ?_)
   | (with_reducible refine LeO.bind ?_ (fun _ => ?_))
   | exact spilelaw39_awake.mono _
   | exact spileref39_Add.mono _ _ _ _ _ _
   | exact spileref39_Check.mono _ _
   | exact spileref39_History.mono _ _ _
   | exact spileref39_Same.mono _ _ _
   | exact LeO.none _
   | refine LeO.ite ?_ ?_
   | refine LeO.bind ?_ (fun _ => ?_)
def spilelaw39_SealChecks.T7 : Bool × List (List Nat × List Nat) := (true, [([], []), ([0], [0]), ([], []), ([1, 2, 1], [1, 2]), ([3], [3]), ([4], [4]), ([4], [4]), ([5, 3, 0, 1, 2, 3, 4, 5], [5]), ([6, 7, 0, 1, 2, 3, 4, 5, 6, 7], [6])])
def spilelaw39_SealChecks.B7 : List Nat := [0, 1, 0, 7, 15, 31, 31, 63, 255]
theorem spilelaw39_SealChecks.tab7 : rtab .any (opsOf Try.f8 7) = spilelaw39_SealChecks.T7 := by kernel_rfl
theorem spilelaw39_SealChecks.bits7 : waitsOk spilelaw39_SealChecks.T7.2 spilelaw39_SealChecks.B7 = true := by kernel_rfl
set_option maxHeartbeats 8000000 in
set_option maxRecDepth 100000 in
theorem spilelaw39_SealChecks.calls (k : Nat) (A0 : Option Addr) (c0 : Nat) (l0 : List (S34)) (a1_0 : Int) (a1_1 : Int) (a1_2 : Int) (a1_3 : Int) (a2 : Int) (r : Bool) (w : World) (hr0 : Kd.C k34 w A0 l0.length l0) (hc0 : l0.length ≤ c0) (h : spilelaw39_SealChecks.f k l0 a1_0 a1_1 a1_2 a1_3 a2 = some r) :
  Calls Try.prog 8 #[.slice A0 l0.length c0, .agg #[.int .i64 a1_0, .int .i64 a1_1, .int .i64 a1_2, .int .i64 a1_3], .int .i64 a2] w fun e w' => e = .returned (.bool r) ∧ Below w.heap.size w w' := by
 have hu34 := Try.underlying34
 have HR0 := Aside0.mk hr0
 have HC0 := Aside0.mk hc0
 clear hr0 hc0
 have HB := Aside0.mk (Below.refl w.heap.size w)
 have H : ((spilelaw39_awake.f k).bind fun t459 => (if t459 = true then ((spileref39_Few.f l0).bind fun t460 => (if t460 = true then ((clone34.f l0).bind fun t461 => ((seal_Check.f t461).bind fun bt464 => ((spileref39_Check.f k l0).bind fun bt466 => ((clone34.f l0).bind fun t468 => ((seal_Add.f t468 a1_0 a1_1 a1_2 a1_3).bind fun bt471 => ((spileref39_Add.f k l0 a1_0 a1_1 a1_2 a1_3).bind fun bt475 => ((clone34.f l0).bind fun t479 => ((seal_History.f t479 a2).bind fun bt482 => ((spileref39_History.f k l0 a2).bind fun bt486 => (if bt464.1 = bt466.1 then (if bt464.2 = bt466.2 then ((spileref39_Same.f k bt471.1 bt475.1).bind fun t490 => (if t490 = true then (if bt471.2 = bt475.2 then ((spileref39_Same.f k bt482.1 bt486.1).bind fun t491 => (if t491 = true then (some (bt482.2 == bt486.2)) else (none))) else (none)) else (none))) else (none)) else (none))))))))))) else (some true))) else (none))) = some r := h
 clear h
 replace H := Option.bind_eq_some_iff.mp H
 obtain ⟨t459, A40, H⟩ := H
 replace H : (if t459 = true then ((spileref39_Few.f l0).bind fun t460 => (if t460 = true then ((clone34.f l0).bind fun t461 => ((seal_Check.f t461).bind fun bt464 => ((spileref39_Check.f k l0).bind fun bt466 => ((clone34.f l0).bind fun t468 => ((seal_Add.f t468 a1_0 a1_1 a1_2 a1_3).bind fun bt471 => ((spileref39_Add.f k l0 a1_0 a1_1 a1_2 a1_3).bind fun bt475 => ((clone34.f l0).bind fun t479 => ((seal_History.f t479 a2).bind fun bt482 => ((spileref39_History.f k l0 a2).bind fun bt486 => (if bt464.1 = bt466.1 then (if bt464.2 = bt466.2 then ((spileref39_Same.f k bt471.1 bt475.1).bind fun t490 => (if t490 = true then (if bt471.2 = bt475.2 then ((spileref39_Same.f k bt482.1 bt486.1).bind fun t491 => (if t491 = true then (some (bt482.2 == bt486.2)) else (none))) else (none)) else (none))) else (none)) else (none))))))))))) else (some true))) else (none)) = some r := H
 have A4 := Aside0.mk A40
 clear A40
 by_cases c5 : t459 = true
 ·subst c5
  have H1 : ((spileref39_Few.f l0).bind fun t460 => (if t460 = true then ((clone34.f l0).bind fun t461 => ((seal_Check.f t461).bind fun bt464 => ((spileref39_Check.f k l0).bind fun bt466 => ((clone34.f l0).bind fun t468 => ((seal_Add.f t468 a1_0 a1_1 a1_2 a1_3).bind fun bt471 => ((spileref39_Add.f k l0 a1_0 a1_1 a1_2 a1_3).bind fun bt475 => ((clone34.f l0).bind fun t479 => ((seal_History.f t479 a2).bind fun bt482 => ((spileref39_History.f k l0 a2).bind fun bt486 => (if bt464.1 = bt466.1 then (if bt464.2 = bt466.2 then ((spileref39_Same.f k bt471.1 bt475.1).bind fun t490 => (if t490 = true then (if bt471.2 = bt475.2 then ((spileref39_Same.f k bt482.1 bt486.1).bind fun t491 => (if t491 = true then (some (bt482.2 == bt486.2)) else (none))) else (none)) else (none))) else (none)) else (none))))))))))) else (some true))) = some r := by rw [if_pos rfl] at H; exact H
  clear H
  have H := H1
  clear H1
  replace H := Option.bind_eq_some_iff.mp H
  obtain ⟨t460, A60, H⟩ := H
  replace H : (if t460 = true then ((clone34.f l0).bind fun t461 => ((seal_Check.f t461).bind fun bt464 => ((spileref39_Check.f k l0).bind fun bt466 => ((clone34.f l0).bind fun t468 => ((seal_Add.f t468 a1_0 a1_1 a1_2 a1_3).bind fun bt471 => ((spileref39_Add.f k l0 a1_0 a1_1 a1_2 a1_3).bind fun bt475 => ((clone34.f l0).bind fun t479 => ((seal_History.f t479 a2).bind fun bt482 => ((spileref39_History.f k l0 a2).bind fun bt486 => (if bt464.1 = bt466.1 then (if bt464.2 = bt466.2 then ((spileref39_Same.f k bt471.1 bt475.1).bind fun t490 => (if t490 = true then (if bt471.2 = bt475.2 then ((spileref39_Same.f k bt482.1 bt486.1).bind fun t491 => (if t491 = true then (some (bt482.2 == bt486.2)) else (none))) else (none)) else (none))) else (none)) else (none))))))))))) else (some true)) = some r := H
  have A6 := Aside0.mk A60
  clear A60
  by_cases c7 : t460 = true
  ·subst c7
   have H1 : ((clone34.f l0).bind fun t461 => ((seal_Check.f t461).bind fun bt464 => ((spileref39_Check.f k l0).bind fun bt466 => ((clone34.f l0).bind fun t468 => ((seal_Add.f t468 a1_0 a1_1 a1_2 a1_3).bind fun bt471 => ((spileref39_Add.f k l0 a1_0 a1_1 a1_2 a1_3).bind fun bt475 => ((clone34.f l0).bind fun t479 => ((seal_History.f t479 a2).bind fun bt482 => ((spileref39_History.f k l0 a2).bind fun bt486 => (if bt464.1 = bt466.1 then (if bt464.2 = bt466.2 then ((spileref39_Same.f k bt471.1 bt475.1).bind fun t490 => (if t490 = true then (if bt471.2 = bt475.2 then ((spileref39_Same.f k bt482.1 bt486.1).bind fun t491 => (if t491 = true then (some (bt482.2 == bt486.2)) else (none))) else (none)) else (none))) else (none)) else (none))))))))))) = some r := by rw [if_pos rfl] at H; exact H
   clear H
   have H := H1
   clear H1
   replace H := Option.bind_eq_some_iff.mp H
   obtain ⟨t461, A80, H⟩ := H
   replace H : ((seal_Check.f t461).bind fun bt464 => ((spileref39_Check.f k l0).bind fun bt466 => ((clone34.f l0).bind fun t468 => ((seal_Add.f t468 a1_0 a1_1 a1_2 a1_3).bind fun bt471 => ((spileref39_Add.f k l0 a1_0 a1_1 a1_2 a1_3).bind fun bt475 => ((clone34.f l0).bind fun t479 => ((seal_History.f t479 a2).bind fun bt482 => ((spileref39_History.f k l0 a2).bind fun bt486 => (if bt464.1 = bt466.1 then (if bt464.2 = bt466.2 then ((spileref39_Same.f k bt471.1 bt475.1).bind fun t490 => (if t490 = true then (if bt471.2 = bt475.2 then ((spileref39_Same.f k bt482.1 bt486.1).bind fun t491 => (if t491 = true then (some (bt482.2 == bt486.2)) else (none))) else (none)) else (none))) else (none)) else (none)))))))))) = some r := H
   have A8 := Aside0.mk A80
   clear A80
   replace H := Option.bind_eq_some_iff.mp H
   obtain ⟨⟨t464, t465⟩, A90, H⟩ := H
   replace H : ((spileref39_Check.f k l0).bind fun bt466 => ((clone34.f l0).bind fun t468 => ((seal_Add.f t468 a1_0 a1_1 a1_2 a1_3).bind fun bt471 => ((spileref39_Add.f k l0 a1_0 a1_1 a1_2 a1_3).bind fun bt475 => ((clone34.f l0).bind fun t479 => ((seal_History.f t479 a2).bind fun bt482 => ((spileref39_History.f k l0 a2).bind fun bt486 => (if t464 = bt466.1 then (if t465 = bt466.2 then ((spileref39_Same.f k bt471.1 bt475.1).bind fun t490 => (if t490 = true then (if bt471.2 = bt475.2 then ((spileref39_Same.f k bt482.1 bt486.1).bind fun t491 => (if t491 = true then (some (bt482.2 == bt486.2)) else (none))) else (none)) else (none))) else (none)) else (none))))))))) = some r := H
   have A9 := Aside0.mk A90
   clear A90
   replace H := Option.bind_eq_some_iff.mp H
   obtain ⟨⟨t466, t467⟩, A100, H⟩ := H
   replace H : ((clone34.f l0).bind fun t468 => ((seal_Add.f t468 a1_0 a1_1 a1_2 a1_3).bind fun bt471 => ((spileref39_Add.f k l0 a1_0 a1_1 a1_2 a1_3).bind fun bt475 => ((clone34.f l0).bind fun t479 => ((seal_History.f t479 a2).bind fun bt482 => ((spileref39_History.f k l0 a2).bind fun bt486 => (if t464 = t466 then (if t465 = t467 then ((spileref39_Same.f k bt471.1 bt475.1).bind fun t490 => (if t490 = true then (if bt471.2 = bt475.2 then ((spileref39_Same.f k bt482.1 bt486.1).bind fun t491 => (if t491 = true then (some (bt482.2 == bt486.2)) else (none))) else (none)) else (none))) else (none)) else (none)))))))) = some r := H
   have A10 := Aside0.mk A100
   clear A100
   replace H := Option.bind_eq_some_iff.mp H
   obtain ⟨t468, A110, H⟩ := H
   replace H : ((seal_Add.f t468 a1_0 a1_1 a1_2 a1_3).bind fun bt471 => ((spileref39_Add.f k l0 a1_0 a1_1 a1_2 a1_3).bind fun bt475 => ((clone34.f l0).bind fun t479 => ((seal_History.f t479 a2).bind fun bt482 => ((spileref39_History.f k l0 a2).bind fun bt486 => (if t464 = t466 then (if t465 = t467 then ((spileref39_Same.f k bt471.1 bt475.1).bind fun t490 => (if t490 = true then (if bt471.2 = bt475.2 then ((spileref39_Same.f k bt482.1 bt486.1).bind fun t491 => (if t491 = true then (some (bt482.2 == bt486.2)) else (none))) else (none)) else (none))) else (none)) else (none))))))) = some r := H
   have A11 := Aside0.mk A110
   clear A110
   replace H := Option.bind_eq_some_iff.mp H
   obtain ⟨⟨t471, t474⟩, A120, H⟩ := H
   replace H : ((spileref39_Add.f k l0 a1_0 a1_1 a1_2 a1_3).bind fun bt475 => ((clone34.f l0).bind fun t479 => ((seal_History.f t479 a2).bind fun bt482 => ((spileref39_History.f k l0 a2).bind fun bt486 => (if t464 = t466 then (if t465 = t467 then ((spileref39_Same.f k t471 bt475.1).bind fun t490 => (if t490 = true then (if t474 = bt475.2 then ((spileref39_Same.f k bt482.1 bt486.1).bind fun t491 => (if t491 = true then (some (bt482.2 == bt486.2)) else (none))) else (none)) else (none))) else (none)) else (none)))))) = some r := H
   have A12 := Aside0.mk A120
   clear A120
   replace H := Option.bind_eq_some_iff.mp H
   obtain ⟨⟨t475, t478⟩, A130, H⟩ := H
   replace H : ((clone34.f l0).bind fun t479 => ((seal_History.f t479 a2).bind fun bt482 => ((spileref39_History.f k l0 a2).bind fun bt486 => (if t464 = t466 then (if t465 = t467 then ((spileref39_Same.f k t471 t475).bind fun t490 => (if t490 = true then (if t474 = t478 then ((spileref39_Same.f k bt482.1 bt486.1).bind fun t491 => (if t491 = true then (some (bt482.2 == bt486.2)) else (none))) else (none)) else (none))) else (none)) else (none))))) = some r := H
   have A13 := Aside0.mk A130
   clear A130
   replace H := Option.bind_eq_some_iff.mp H
   obtain ⟨t479, A140, H⟩ := H
   replace H : ((seal_History.f t479 a2).bind fun bt482 => ((spileref39_History.f k l0 a2).bind fun bt486 => (if t464 = t466 then (if t465 = t467 then ((spileref39_Same.f k t471 t475).bind fun t490 => (if t490 = true then (if t474 = t478 then ((spileref39_Same.f k bt482.1 bt486.1).bind fun t491 => (if t491 = true then (some (bt482.2 == bt486.2)) else (none))) else (none)) else (none))) else (none)) else (none)))) = some r := H
   have A14 := Aside0.mk A140
   clear A140
   replace H := Option.bind_eq_some_iff.mp H
   obtain ⟨⟨t482, t483⟩, A150, H⟩ := H
   replace H : ((spileref39_History.f k l0 a2).bind fun bt486 => (if t464 = t466 then (if t465 = t467 then ((spileref39_Same.f k t471 t475).bind fun t490 => (if t490 = true then (if t474 = t478 then ((spileref39_Same.f k t482 bt486.1).bind fun t491 => (if t491 = true then (some (t483 == bt486.2)) else (none))) else (none)) else (none))) else (none)) else (none))) = some r := H
   have A15 := Aside0.mk A150
   clear A150
   replace H := Option.bind_eq_some_iff.mp H
   obtain ⟨⟨t486, t487⟩, A160, H⟩ := H
   replace H : (if t464 = t466 then (if t465 = t467 then ((spileref39_Same.f k t471 t475).bind fun t490 => (if t490 = true then (if t474 = t478 then ((spileref39_Same.f k t482 t486).bind fun t491 => (if t491 = true then (some (t483 == t487)) else (none))) else (none)) else (none))) else (none)) else (none)) = some r := H
   have A16 := Aside0.mk A160
   clear A160
   by_cases c17 : t464 = t466
   ·rw [if_pos c17] at H
    have c17b0 : (t464 == t466) = true := beq_iff_eq.mpr c17
    try simp only [beq_self_eq_true, Bool.not_true, Bool.false_or, Bool.true_and] at c17b0
    have c17b1 : (t464 != t466) = false := bne_eq_false_iff_eq.mpr c17
    clear c17
    by_cases c18 : t465 = t467
    ·rw [if_pos c18] at H
     have c18b0 : (t465 == t467) = true := beq_iff_eq.mpr c18
     try simp only [beq_self_eq_true, Bool.not_true, Bool.false_or, Bool.true_and] at c18b0
     have c18b1 : (t465 != t467) = false := bne_eq_false_iff_eq.mpr c18
     clear c18
     replace H := Option.bind_eq_some_iff.mp H
     obtain ⟨t490, A190, H⟩ := H
     replace H : (if t490 = true then (if t474 = t478 then ((spileref39_Same.f k t482 t486).bind fun t491 => (if t491 = true then (some (t483 == t487)) else (none))) else (none)) else (none)) = some r := H
     have A19 := Aside0.mk A190
     clear A190
     by_cases c20 : t490 = true
     ·subst c20
      have H1 : (if t474 = t478 then ((spileref39_Same.f k t482 t486).bind fun t491 => (if t491 = true then (some (t483 == t487)) else (none))) else (none)) = some r := by rw [if_pos rfl] at H; exact H
      clear H
      have H := H1
      clear H1
      by_cases c21 : t474 = t478
      ·rw [if_pos c21] at H
       have c21b0 : (t474 == t478) = true := beq_iff_eq.mpr c21
       try simp only [beq_self_eq_true, Bool.not_true, Bool.false_or, Bool.true_and] at c21b0
       have c21b1 : (t474 != t478) = false := bne_eq_false_iff_eq.mpr c21
       clear c21
       replace H := Option.bind_eq_some_iff.mp H
       obtain ⟨t491, A220, H⟩ := H
       replace H : (if t491 = true then (some (t483 == t487)) else (none)) = some r := H
       have A22 := Aside0.mk A220
       clear A220
       by_cases c23 : t491 = true
       ·subst c23
        have H1 : (some (t483 == t487)) = some r := by rw [if_pos rfl] at H; exact H
        clear H
        have H := H1
        clear H1
        obtain rfl := Option.some.inj H
        go_enter Try.func8, Try.ntmps8
        try go_wp2_with (first | ((with_reducible refine gqD (N := 4) rfl ?_); refine GS.bx (N := 4) (cs := #[.int .i64 a1_0, .int .i64 a1_1, .int .i64 a1_2, .int .i64 a1_3]) (t := 34) ?_; intro gb458 hg w24 hbox hb; have n0_ := Aside0.mk (lqT (GS.lB HB.out) hb); have n1_ := Aside0.mk (hbox); have n2_ := Aside0.mk ((by rw [hg]; exact (lqZ (GS.lB HB.out)) : w.heap.size ≤ gb458)); have n3_ := Aside0.mk ((by rw [hg]; exact (lqZ (GS.lB HB.out)) : w.heap.size ≤ gb458)); clear HB; have HB := n0_; have BK458 := n1_; have GW458 := n2_; have GE458 := n3_; clear n0_ n1_ n2_ n3_; clear hb hbox hg) | ((with_reducible refine gqC (f := 10) rfl ?_); refine GS.gL (some 19) Try.func10 #[] ?_; (with_reducible refine (spilelaw39_awake.calls k  true _ A4.out).mono ?_); rintro e w25 ⟨rfl, hb⟩; refine ⟨_, rfl, ?_⟩; have n0_ := Aside0.mk (bqB (GS.bqX BK458.out) hb); have n1_ := Aside0.mk (lqT (GS.lB HB.out) hb); clear BK458; clear HB; have BK458 := n0_; have HB := n1_; clear n0_ n1_; (try clear hb); (try clear hb2); (try clear hk); (try clear hi)) | ((with_reducible refine gqC (f := 11) rfl ?_); refine GS.gL (some 22) Try.func11 #[.slice A0 l0.length c0] ?_; (with_reducible refine (spileref39_Few.calls _ _ l0 true _ ?side1 ?side2 A6.out).mono ?_); (case side1 => exact GS.rC (Kd.C_below HR0.out HB.out)); (case side2 => exact HC0.out); rintro e w' ⟨rfl, ⟨nd, rfl⟩⟩; refine ⟨_, rfl, ?_⟩) | ((with_reducible refine gqC (f := 14) rfl ?_); refine GS.gL (some 26) Try.func14 #[.slice A0 l0.length c0] ?_; (with_reducible refine (clone34.calls _ _ l0 t461 _ ?side1 ?side2 A8.out).mono ?_); (case side1 => repeat (first | exact (Kd.C_below HR0.out (GS.lB HB.out)) | (with_reducible refine Kd.C_alloc ?_ _) | (with_reducible refine Kd.C_drewN ?_ _) | (with_reducible refine Kd.C_drew ?_))); (case side2 => exact HC0.out); rintro e w26 ⟨v462, rfl, ho0, hb⟩; refine ⟨_, rfl, ?_⟩; have n0_ := Aside0.mk (Kd.R_lower (Kd.R_newB ho0 (GS.bqX BK458.out)) (lqZ (GS.lB HB.out))); have n1_ := Aside0.mk (bqB (GS.bqX BK458.out) hb); have n2_ := Aside0.mk (lqT (GS.lB HB.out) hb); clear BK458; clear HB; have HO463 := n0_; have BK458 := n1_; have HB := n2_; clear n0_ n1_ n2_; (try clear hb); (try clear hb2); (try clear hk); (try clear hi); (try clear ho0); obtain ⟨Ao27, co27, eo27⟩ := Kd.R_slice HO463.out; subst eo27) | ((with_reducible refine gqC (f := 28) rfl ?_); refine GS.gL (some 27) Try.func28 #[.slice Ao27 t461.length co27] ?_; (with_reducible refine (seal_Check.calls _ _ t461 t464 t465 _ ?side1 ?side2 A9.out).mono ?_); (case side1 => repeat (first | exact (Kd.R_reads' HO463.out).2.2 | (with_reducible refine Kd.C_alloc ?_ _) | (with_reducible refine Kd.C_drewN ?_ _) | (with_reducible refine Kd.C_drew ?_))); (case side2 => exact (Kd.R_reads' HO463.out).2.1); rintro e w28 ⟨rfl, hb⟩; refine ⟨_, rfl, ?_⟩; have n0_ := Aside0.mk (Kd.R_below (GS.rR HO463.out) hb); have n1_ := Aside0.mk (bqB (GS.bqX BK458.out) hb); have n2_ := Aside0.mk (lqT (GS.lB HB.out) hb); clear HO463; clear BK458; clear HB; have HO463 := n0_; have BK458 := n1_; have HB := n2_; clear n0_ n1_ n2_; (try clear hb); (try clear hb2); (try clear hk); (try clear hi)) | ((with_reducible refine gqC (f := 29) rfl ?_); refine GS.gL (some 32) Try.func29 #[.slice A0 l0.length c0] ?_; (with_reducible refine (spileref39_Check.calls k _ _ l0 t466 t467 _ ?side1 ?side2 A10.out).mono ?_); (case side1 => exact GS.rC (Kd.C_below HR0.out HB.out)); (case side2 => exact HC0.out); rintro e w29 ⟨rfl, hb⟩; refine ⟨_, rfl, ?_⟩; have n0_ := Aside0.mk (Kd.R_below (GS.rR HO463.out) hb); have n1_ := Aside0.mk (bqB (GS.bqX BK458.out) hb); have n2_ := Aside0.mk (lqT (GS.lB HB.out) hb); clear HO463; clear BK458; clear HB; have HO463 := n0_; have BK458 := n1_; have HB := n2_; clear n0_ n1_ n2_; (try clear hb); (try clear hb2); (try clear hk); (try clear hi)))
        have n0_ := Aside0.mk (Kd.R_drew HO463.out)
        have n1_ := Aside0.mk (bqD BK458.out)
        have n2_ := Aside0.mk (lqD HB.out)
        clear HO463
        clear BK458
        clear HB
        have HO463 := n0_
        have BK458 := n1_
        have HB := n2_
        clear n0_ n1_ n2_
        refine start_ (n := 9) (S := fun w' => w'.cell? ⟨gb458, 0, none⟩ = some (.int .i64 a1_0) ∧ w'.cell? ⟨gb458, 1, none⟩ = some (.int .i64 a1_1) ∧ w'.cell? ⟨gb458, 2, none⟩ = some (.int .i64 a1_2) ∧ w'.cell? ⟨gb458, 3, none⟩ = some (.int .i64 a1_3)) (ds := []) #[false, false, false, false, false, false, false, false, false] (by kernel_rfl) rfl rfl ⟨(bqC BK458.out 0).trans rfl, (bqC BK458.out 1).trans rfl, (bqC BK458.out 2).trans rfl, (bqC BK458.out 3).trans rfl⟩ (fun hHeld => ?_); refine with_tabW spilelaw39_SealChecks.tab7 spilelaw39_SealChecks.bits7 (fun HT_ HW_ => ?_)
        generalize w29.drew = w30 at HO463 BK458 HB hHeld ⊢
        refine GS.pu 0 (some 36) HT_.out ?_
        refine GS.tk 2 (some 38) HT_.out HW_.out hHeld ?_
        refine one_ (i := 1) (N := some 37) #[true, true, true, false, false, false, false, false, false] rfl rfl (one_of HT_.out (by kernel_rfl)) (by decide) (fun K hK => ?_)
        refine goes_ Try.func14 (by kernel_rfl) rfl #[.slice A0 l0.length c0] (by rfl) rfl rfl (by (try simp only [List.map_toArray, List.map_cons, List.map_nil]); first | done | rfl | (simp only [List.length_drop, List.length_take]; rfl)) ?_
        with_reducible refine (clone34.calls _ _ l0 t468 _ ?side1 ?side2 A11.out).mono ?_
        (case side1 => exact GS.rC (Kd.C_below HR0.out HB.out))
        (case side2 => exact HC0.out)
        rintro e w31 ⟨v469, rfl, ho0, hb⟩
        refine ⟨_, rfl, ?_⟩
        have n0_ := Aside0.mk (Kd.R_elder' (GS.rR HO463.out) (Kd.R_base ho0) hb)
        have n1_ := Aside0.mk (Kd.R_lower (Kd.R_newB (Kd.R_new' ho0 (Kd.R_lt (GS.rR HO463.out))) (GS.bqX BK458.out)) (lqZ (GS.lB HB.out)))
        have n2_ := Aside0.mk (bqB (GS.bqX BK458.out) hb)
        have n3_ := Aside0.mk (lqT (GS.lB HB.out) hb)
        clear HO463
        clear BK458
        clear HB
        have HO463 := n0_
        have HO470 := n1_
        have BK458 := n2_
        have HB := n3_
        clear n0_ n1_ n2_ n3_
        (try clear hb)
        (try clear hb2)
        (try clear hk)
        (try clear hi)
        (try clear ho0)
        obtain ⟨Ao32, co32, eo32⟩ := Kd.R_slice HO470.out
        (first | subst eo32 | (injection eo32 with f1_ f2_ f3_; have f4_ := f1_.symm; have f5_ := f3_.symm; clear f1_ f2_ f3_; subst f4_; subst f5_))
        refine hK.out _ _ ⟨(bqC BK458.out 0).trans rfl, (bqC BK458.out 1).trans rfl, (bqC BK458.out 2).trans rfl, (bqC BK458.out 3).trans rfl⟩ (fun hHeld => ?_)
        clear hK K
        refine norm_ (a' := ?_) ?_ ?_
        rotate_left
        ·show Act.put _ (some 37) _ = _
         simp only [Act.put, List.setIfInBounds_toArray, List.set_cons_zero, List.set_cons_succ, i64_w, i32_w]
         rfl
        refine one_ (i := 3) (N := some 39) #[true, true, true, true, false, false, false, false, false] rfl rfl (one_of HT_.out (by kernel_rfl)) (by decide) (fun K hK => ?_)
        refine goes_ Try.func30 (by kernel_rfl) rfl #[.slice Ao32 t468.length co32, .agg #[.int .i64 a1_0, .int .i64 a1_1, .int .i64 a1_2, .int .i64 a1_3]] (by rfl) rfl rfl (by (try simp only [List.map_toArray, List.map_cons, List.map_nil]); first | done | rfl | (simp only [List.length_drop, List.length_take]; rfl)) ?_
        with_reducible refine (seal_Add.calls _ _ t468 a1_0 a1_1 a1_2 a1_3 t471 t474 _ ?side1 ?side2 A12.out).mono ?_
        (case side1 => repeat (first | exact (Kd.R_reads' HO470.out).2.2 | (with_reducible refine Kd.C_alloc ?_ _) | (with_reducible refine Kd.C_drewN ?_ _) | (with_reducible refine Kd.C_drew ?_)))
        (case side2 => exact (Kd.R_reads' HO470.out).2.1)
        rintro e w33 ⟨v472, rfl, ho0, hb⟩
        refine ⟨_, rfl, ?_⟩
        have n0_ := Aside0.mk (Kd.R_elder' (GS.rR HO463.out) (Kd.R_base ho0) hb)
        have n1_ := Aside0.mk (Kd.R_elder' (GS.rR HO470.out) (Kd.R_base ho0) hb)
        have n2_ := Aside0.mk (Kd.R_lower (Kd.R_newB (Kd.R_new' (Kd.R_new' ho0 (Kd.R_lt (GS.rR HO463.out))) (Kd.R_lt (GS.rR HO470.out))) (GS.bqX BK458.out)) (lqZ (GS.lB HB.out)))
        have n3_ := Aside0.mk (bqB (GS.bqX BK458.out) hb)
        have n4_ := Aside0.mk (lqT (GS.lB HB.out) hb)
        clear HO463
        clear HO470
        clear BK458
        clear HB
        have HO463 := n0_
        have HO470 := n1_
        have HO473 := n2_
        have BK458 := n3_
        have HB := n4_
        clear n0_ n1_ n2_ n3_ n4_
        (try clear hb)
        (try clear hb2)
        (try clear hk)
        (try clear hi)
        (try clear ho0)
        refine hK.out _ _ ⟨(bqC BK458.out 0).trans rfl, (bqC BK458.out 1).trans rfl, (bqC BK458.out 2).trans rfl, (bqC BK458.out 3).trans rfl⟩ (fun hHeld => ?_)
        clear hK K
        refine norm_ (a' := ?_) ?_ ?_
        rotate_left
        ·show Act.put _ (some 39) _ = _
         simp only [Act.put, List.setIfInBounds_toArray, List.set_cons_zero, List.set_cons_succ, i64_w, i32_w]
         rfl
        refine GS.pu 4 (some 35) HT_.out ?_
        refine GS.pu 5 (some 40) HT_.out ?_
        refine GS.pu 6 (some 41) HT_.out ?_
        refine GS.pu 7 (some 11) HT_.out ?_
        refine GS.pu 8 (some 12) HT_.out ?_
        refine done_ (done_of HT_.out (by kernel_rfl)) ?_
        obtain ⟨hcz34_0, hcz34_1, hcz34_2, hcz34_3, hfz34_0, hfz34_1, hfz34_2, hfz34_3⟩ := GS.c4 BK458.out
        try go_wp2_with (first | ((with_reducible refine gqC (f := 31) rfl ?_); refine GS.gL (some 45) Try.func31 #[.slice A0 l0.length c0, .agg #[.int .i64 a1_0, .int .i64 a1_1, .int .i64 a1_2, .int .i64 a1_3]] ?_; (with_reducible refine (spileref39_Add.calls k _ _ l0 a1_0 a1_1 a1_2 a1_3 t475 t478 _ ?side1 ?side2 A13.out).mono ?_); (case side1 => exact GS.rC (Kd.C_below HR0.out HB.out)); (case side2 => exact HC0.out); rintro e w35 ⟨v476, rfl, ho0, hb⟩; refine ⟨_, rfl, ?_⟩; have n0_ := Aside0.mk (Kd.R_elder' (GS.rR HO463.out) (Kd.R_base ho0) hb); have n1_ := Aside0.mk (Kd.R_elder' (GS.rR HO470.out) (Kd.R_base ho0) hb); have n2_ := Aside0.mk (Kd.R_elder' (GS.rR HO473.out) (Kd.R_base ho0) hb); have n3_ := Aside0.mk (Kd.R_lower (Kd.R_newB (Kd.R_new' (Kd.R_new' (Kd.R_new' ho0 (Kd.R_lt (GS.rR HO463.out))) (Kd.R_lt (GS.rR HO470.out))) (Kd.R_lt (GS.rR HO473.out))) (GS.bqX BK458.out)) (lqZ (GS.lB HB.out))); have n4_ := Aside0.mk (bqB (GS.bqX BK458.out) hb); have n5_ := Aside0.mk (lqT (GS.lB HB.out) hb); clear HO463; clear HO470; clear HO473; clear BK458; clear HB; have HO463 := n0_; have HO470 := n1_; have HO473 := n2_; have HO477 := n3_; have BK458 := n4_; have HB := n5_; clear n0_ n1_ n2_ n3_ n4_ n5_; (try clear hb); (try clear hb2); (try clear hk); (try clear hi); (try clear ho0)) | ((with_reducible refine gqC (f := 14) rfl ?_); refine GS.gL (some 50) Try.func14 #[.slice A0 l0.length c0] ?_; (with_reducible refine (clone34.calls _ _ l0 t479 _ ?side1 ?side2 A14.out).mono ?_); (case side1 => exact GS.rC (Kd.C_below HR0.out HB.out)); (case side2 => exact HC0.out); rintro e w36 ⟨v480, rfl, ho0, hb⟩; refine ⟨_, rfl, ?_⟩; have n0_ := Aside0.mk (Kd.R_elder' (GS.rR HO463.out) (Kd.R_base ho0) hb); have n1_ := Aside0.mk (Kd.R_elder' (GS.rR HO470.out) (Kd.R_base ho0) hb); have n2_ := Aside0.mk (Kd.R_elder' (GS.rR HO473.out) (Kd.R_base ho0) hb); have n3_ := Aside0.mk (Kd.R_elder' (GS.rR HO477.out) (Kd.R_base ho0) hb); have n4_ := Aside0.mk (Kd.R_lower (Kd.R_newB (Kd.R_new' (Kd.R_new' (Kd.R_new' (Kd.R_new' ho0 (Kd.R_lt (GS.rR HO463.out))) (Kd.R_lt (GS.rR HO470.out))) (Kd.R_lt (GS.rR HO473.out))) (Kd.R_lt (GS.rR HO477.out))) (GS.bqX BK458.out)) (lqZ (GS.lB HB.out))); have n5_ := Aside0.mk (bqB (GS.bqX BK458.out) hb); have n6_ := Aside0.mk (lqT (GS.lB HB.out) hb); clear HO463; clear HO470; clear HO473; clear HO477; clear BK458; clear HB; have HO463 := n0_; have HO470 := n1_; have HO473 := n2_; have HO477 := n3_; have HO481 := n4_; have BK458 := n5_; have HB := n6_; clear n0_ n1_ n2_ n3_ n4_ n5_ n6_; (try clear hb); (try clear hb2); (try clear hk); (try clear hi); (try clear ho0); obtain ⟨Ao37, co37, eo37⟩ := Kd.R_slice HO481.out; subst eo37) | ((with_reducible refine gqC (f := 32) rfl ?_); refine GS.gL (some 52) Try.func32 #[.slice Ao37 t479.length co37, .int .i64 a2] ?_; (with_reducible refine (seal_History.calls _ _ t479 a2 t482 t483 _ ?side1 ?side2 A15.out).mono ?_); (case side1 => repeat (first | exact (Kd.R_reads' HO481.out).2.2 | (with_reducible refine Kd.C_alloc ?_ _) | (with_reducible refine Kd.C_drewN ?_ _) | (with_reducible refine Kd.C_drew ?_))); (case side2 => exact (Kd.R_reads' HO481.out).2.1); rintro e w38 ⟨v484, rfl, ho0, hb⟩; refine ⟨_, rfl, ?_⟩; have n0_ := Aside0.mk (Kd.R_elder' (GS.rR HO463.out) (Kd.R_base ho0) hb); have n1_ := Aside0.mk (Kd.R_elder' (GS.rR HO470.out) (Kd.R_base ho0) hb); have n2_ := Aside0.mk (Kd.R_elder' (GS.rR HO473.out) (Kd.R_base ho0) hb); have n3_ := Aside0.mk (Kd.R_elder' (GS.rR HO477.out) (Kd.R_base ho0) hb); have n4_ := Aside0.mk (Kd.R_elder' (GS.rR HO481.out) (Kd.R_base ho0) hb); have n5_ := Aside0.mk (Kd.R_lower (Kd.R_newB (Kd.R_new' (Kd.R_new' (Kd.R_new' (Kd.R_new' (Kd.R_new' ho0 (Kd.R_lt (GS.rR HO463.out))) (Kd.R_lt (GS.rR HO470.out))) (Kd.R_lt (GS.rR HO473.out))) (Kd.R_lt (GS.rR HO477.out))) (Kd.R_lt (GS.rR HO481.out))) (GS.bqX BK458.out)) (lqZ (GS.lB HB.out))); have n6_ := Aside0.mk (bqB (GS.bqX BK458.out) hb); have n7_ := Aside0.mk (lqT (GS.lB HB.out) hb); clear HO463; clear HO470; clear HO473; clear HO477; clear HO481; clear BK458; clear HB; have HO463 := n0_; have HO470 := n1_; have HO473 := n2_; have HO477 := n3_; have HO481 := n4_; have HO485 := n5_; have BK458 := n6_; have HB := n7_; clear n0_ n1_ n2_ n3_ n4_ n5_ n6_ n7_; (try clear hb); (try clear hb2); (try clear hk); (try clear hi); (try clear ho0)) | ((with_reducible refine gqC (f := 33) rfl ?_); refine GS.gL (some 58) Try.func33 #[.slice A0 l0.length c0, .int .i64 a2] ?_; (with_reducible refine (spileref39_History.calls k _ _ l0 a2 t486 t487 _ ?side1 ?side2 A16.out).mono ?_); (case side1 => exact GS.rC (Kd.C_below HR0.out HB.out)); (case side2 => exact HC0.out); rintro e w39 ⟨v488, rfl, ho0, hb⟩; refine ⟨_, rfl, ?_⟩; have n0_ := Aside0.mk (Kd.R_elder' (GS.rR HO463.out) (Kd.R_base ho0) hb); have n1_ := Aside0.mk (Kd.R_elder' (GS.rR HO470.out) (Kd.R_base ho0) hb); have n2_ := Aside0.mk (Kd.R_elder' (GS.rR HO473.out) (Kd.R_base ho0) hb); have n3_ := Aside0.mk (Kd.R_elder' (GS.rR HO477.out) (Kd.R_base ho0) hb); have n4_ := Aside0.mk (Kd.R_elder' (GS.rR HO481.out) (Kd.R_base ho0) hb); have n5_ := Aside0.mk (Kd.R_elder' (GS.rR HO485.out) (Kd.R_base ho0) hb); have n6_ := Aside0.mk (Kd.R_lower (Kd.R_newB (Kd.R_new' (Kd.R_new' (Kd.R_new' (Kd.R_new' (Kd.R_new' (Kd.R_new' ho0 (Kd.R_lt (GS.rR HO463.out))) (Kd.R_lt (GS.rR HO470.out))) (Kd.R_lt (GS.rR HO473.out))) (Kd.R_lt (GS.rR HO477.out))) (Kd.R_lt (GS.rR HO481.out))) (Kd.R_lt (GS.rR HO485.out))) (GS.bqX BK458.out)) (lqZ (GS.lB HB.out))); have n7_ := Aside0.mk (bqB (GS.bqX BK458.out) hb); have n8_ := Aside0.mk (lqT (GS.lB HB.out) hb); clear HO463; clear HO470; clear HO473; clear HO477; clear HO481; clear HO485; clear BK458; clear HB; have HO463 := n0_; have HO470 := n1_; have HO473 := n2_; have HO477 := n3_; have HO481 := n4_; have HO485 := n5_; have HO489 := n6_; have BK458 := n7_; have HB := n8_; clear n0_ n1_ n2_ n3_ n4_ n5_ n6_ n7_ n8_; (try clear hb); (try clear hb2); (try clear hk); (try clear hi); (try clear ho0); obtain ⟨Ao40, co40, eo40⟩ := Kd.R_slice HO473.out; subst eo40; obtain ⟨Ao41, co41, eo41⟩ := Kd.R_slice HO477.out; subst eo41) | (go_at_call 34; (with_reducible refine (spileref39_Same.calls k _ _ t471 _ _ t475 true _ ?side1 ?side2 ?side3 ?side4 A19.out).mono ?_); (case side1 => repeat (first | exact (Kd.R_reads' HO473.out).2.2 | (with_reducible refine Kd.C_alloc ?_ _) | (with_reducible refine Kd.C_drewN ?_ _) | (with_reducible refine Kd.C_drew ?_))); (case side2 => exact (Kd.R_reads' HO473.out).2.1); (case side3 => repeat (first | exact (Kd.R_reads' HO477.out).2.2 | (with_reducible refine Kd.C_alloc ?_ _) | (with_reducible refine Kd.C_drewN ?_ _) | (with_reducible refine Kd.C_drew ?_))); (case side4 => exact (Kd.R_reads' HO477.out).2.1); rintro e w' ⟨rfl, ⟨nd, rfl⟩⟩; obtain ⟨Ao42, co42, eo42⟩ := Kd.R_slice HO485.out; subst eo42; obtain ⟨Ao43, co43, eo43⟩ := Kd.R_slice HO489.out; subst eo43) | (go_at_call 34; (with_reducible refine (spileref39_Same.calls k _ _ t482 _ _ t486 true _ ?side1 ?side2 ?side3 ?side4 A22.out).mono ?_); (case side1 => repeat (first | exact (Kd.R_reads' HO485.out).2.2 | (with_reducible refine Kd.C_alloc ?_ _) | (with_reducible refine Kd.C_drewN ?_ _) | (with_reducible refine Kd.C_drew ?_))); (case side2 => exact (Kd.R_reads' HO485.out).2.1); (case side3 => repeat (first | exact (Kd.R_reads' HO489.out).2.2 | (with_reducible refine Kd.C_alloc ?_ _) | (with_reducible refine Kd.C_drewN ?_ _) | (with_reducible refine Kd.C_drew ?_))); (case side4 => exact (Kd.R_reads' HO489.out).2.1); rintro e w' ⟨rfl, ⟨nd, rfl⟩⟩))
        go_ret
        exact ⟨by first | rfl | (simp [errW_none, errW_some] <;> rfl) | (simp [*, errW_none, errW_some] <;> rfl), GS.lB HB.out⟩
       ·replace c23 := Bool.eq_false_iff.mpr c23
        subst c23
        have H1 : (none) = some r := by rw [if_neg (show ¬ (false = true) by decide)] at H; exact H
        clear H
        have H := H1
        clear H1
        exact absurd H (by simp)
      ·rw [if_neg c21] at H
       exact absurd H (by simp)
     ·replace c20 := Bool.eq_false_iff.mpr c20
      subst c20
      have H1 : (none) = some r := by rw [if_neg (show ¬ (false = true) by decide)] at H; exact H
      clear H
      have H := H1
      clear H1
      exact absurd H (by simp)
    ·rw [if_neg c18] at H
     exact absurd H (by simp)
   ·rw [if_neg c17] at H
    exact absurd H (by simp)
  ·replace c7 := Bool.eq_false_iff.mpr c7
   subst c7
   have H1 : (some true) = some r := by rw [if_neg (show ¬ (false = true) by decide)] at H; exact H
   clear H
   have H := H1
   clear H1
   obtain rfl := Option.some.inj H
   go_enter Try.func8, Try.ntmps8
   go_wp2_with (first | ((with_reducible refine gqD (N := 4) rfl ?_); refine GS.bx (N := 4) (cs := #[.int .i64 a1_0, .int .i64 a1_1, .int .i64 a1_2, .int .i64 a1_3]) (t := 34) ?_; intro gb458 hg w44 hbox hb; have n0_ := Aside0.mk (lqT (GS.lB HB.out) hb); have n1_ := Aside0.mk (hbox); have n2_ := Aside0.mk ((by rw [hg]; exact (lqZ (GS.lB HB.out)) : w.heap.size ≤ gb458)); have n3_ := Aside0.mk ((by rw [hg]; exact (lqZ (GS.lB HB.out)) : w.heap.size ≤ gb458)); clear HB; have HB := n0_; have BK458 := n1_; have GW458 := n2_; have GE458 := n3_; clear n0_ n1_ n2_ n3_; clear hb hbox hg) | ((with_reducible refine gqC (f := 10) rfl ?_); refine GS.gL (some 19) Try.func10 #[] ?_; (with_reducible refine (spilelaw39_awake.calls k  true _ A4.out).mono ?_); rintro e w45 ⟨rfl, hb⟩; refine ⟨_, rfl, ?_⟩; have n0_ := Aside0.mk (bqB (GS.bqX BK458.out) hb); have n1_ := Aside0.mk (lqT (GS.lB HB.out) hb); clear BK458; clear HB; have BK458 := n0_; have HB := n1_; clear n0_ n1_; (try clear hb); (try clear hb2); (try clear hk); (try clear hi)) | ((with_reducible refine gqC (f := 11) rfl ?_); refine GS.gL (some 22) Try.func11 #[.slice A0 l0.length c0] ?_; (with_reducible refine (spileref39_Few.calls _ _ l0 false _ ?side1 ?side2 A6.out).mono ?_); (case side1 => exact GS.rC (Kd.C_below HR0.out HB.out)); (case side2 => exact HC0.out); rintro e w' ⟨rfl, ⟨nd, rfl⟩⟩; refine ⟨_, rfl, ?_⟩))
   go_ret
   exact ⟨by first | rfl | (simp [errW_none, errW_some] <;> rfl) | (simp [*, errW_none, errW_some] <;> rfl), GS.lB HB.out⟩
 ·replace c5 := Bool.eq_false_iff.mpr c5
  subst c5
  have H1 : (none) = some r := by rw [if_neg (show ¬ (false = true) by decide)] at H; exact H
  clear H
  have H := H1
  clear H1
  exact absurd H (by simp)

/-! ### spilelaw39_SealHistory: function 9 -/
mutual
def spilelaw39_SealHistory.l0 : Nat → Int → List (S34) → List (S34) → Int → Int → Option (Bool)
 | 0, _, _, _, _, _ => none
 | k + 1, x1, x5, x28, x29, x30 => if x30 < x29 then (if 0 ≤ x30 then (if x30 < (x28.length : Int) then (if ((rd_T34 x28 x30).f2) = x1 then (if 0 < (x5.length : Int) then (if ((rd_T34 x28 x30).f1) = ((rd_T34 x5 0).f1) then (if ((((rd_T34 x28 x30).f3) == 1) != (x30 == 0)) = true then (none) else (if x30 < (wrap64 ((x5.length : Int) - 1)) then (spilelaw39_SealHistory.j1 k x1 x5 x28 x29 x30 (decide (((rd_T34 x28 x30).f3) > 2))) else (spilelaw39_SealHistory.j1 k x1 x5 x28 x29 x30 false))) else (none)) else (none)) else (none)) else (none)) else (none)) else ((seal_Check.f x5).bind fun bt500 => (if (x5.length : Int) > 0 then (some (bt500.2 == 0)) else (none)))
def spilelaw39_SealHistory.j1 : Nat → Int → List (S34) → List (S34) → Int → Int → Bool → Option (Bool)
 | 0, _, _, _, _, _, _ => none
 | k + 1, x1, x5, x28, x29, x30, x67 => if x67 = true then (none) else (spilelaw39_SealHistory.l0 k x1 x5 x28 x29 (wrap64 (x30 + 1)))
end
def spilelaw39_SealHistory.f (k : Nat) (l0 : List (S34)) (a1 : Int) : Option (Bool) := (spilelaw39_awake.f k).bind fun t492 => (if t492 = true then (if (l0.length : Int) > 20 then (some true) else ((clone34.f l0).bind fun t493 => ((seal_History.f t493 a1).bind fun bt496 => (if bt496.2 = 0 then (spilelaw39_SealHistory.l0 k a1 bt496.1 bt496.1 (bt496.1.length : Int) 0) else (some ((bt496.1.length : Int) == 0)))))) else (none))
theorem spilelaw39_SealHistory.mono_l : ∀ k, (∀ y0 y1 y2 y3 y4, LeO (spilelaw39_SealHistory.l0 k y0 y1 y2 y3 y4) (spilelaw39_SealHistory.l0 (k + 1) y0 y1 y2 y3 y4)) ∧ (∀ y0 y1 y2 y3 y4 y5, LeO (spilelaw39_SealHistory.j1 k y0 y1 y2 y3 y4 y5) (spilelaw39_SealHistory.j1 (k + 1) y0 y1 y2 y3 y4 y5))
 | 0 => ⟨fun _ _ _ _ _ r h => by simp [spilelaw39_SealHistory.l0] at h, fun _ _ _ _ _ _ r h => by simp [spilelaw39_SealHistory.j1] at h⟩
 | k + 1 => by
  obtain ⟨ih0, ih1⟩ := spilelaw39_SealHistory.mono_l k
  refine ⟨?_, ?_⟩
  ·intro y0 y1 y2 y3 y4
   unfold spilelaw39_SealHistory.l0
   repeat' first
   | (with_reducible exact ih0 _ _ _ _ _)
   | (with_reducible exact ih1 _ _ _ _ _ _)
   | (with_reducible exact spilelaw39_awake.mono _)
   | (with_reducible exact LeO.refl _)
   | (with_reducible exact LeO.none _)
   | (with_reducible refine LeO.ite ?_ ?_)
   | (with_reducible refine LeO.bind ?_ (fun _ => ?_))
   | exact ih0 _ _ _ _ _
   | exact ih1 _ _ _ _ _ _
   | exact spilelaw39_awake.mono _
   | exact LeO.none _
   | refine LeO.ite ?_ ?_
   | refine LeO.bind ?_ (fun _ => ?_)
  ·intro y0 y1 y2 y3 y4 y5
   unfold spilelaw39_SealHistory.j1
   repeat' first
   | (with_reducible exact ih0 _ _ _ _ _)
   | (with_reducible exact ih1 _ _ _ _ _ _)
   | (with_reducible exact spilelaw39_awake.mono _)
   | (with_reducible exact LeO.refl _)
   | (with_reducible exact LeO.none _)
   | (with_reducible refine LeO.ite ?_ ?_)
   | (with_reducible refine LeO.bind ?_ (fun _ => ?_))
   | exact ih0 _ _ _ _ _
   | exact ih1 _ _ _ _ _ _
   | exact spilelaw39_awake.mono _
   | exact LeO.none _
   | refine LeO.ite ?_ ?_
   | refine LeO.bind ?_ (fun _ => ?_)
theorem spilelaw39_SealHistory.mono : ∀ a0 a1 k, LeO (spilelaw39_SealHistory.f k a0 a1) (spilelaw39_SealHistory.f (k + 1) a0 a1) := by
 intro a0 a1 k
 obtain ⟨ih0, ih1⟩ := spilelaw39_SealHistory.mono_l k
 unfold spilelaw39_SealHistory.f
 repeat' first
   | (with_reducible exact ih0 _ _ _ _ _)
   | (with_reducible exact ih1 _ _ _ _ _ _)
   | (with_reducible exact spilelaw39_awake.mono _)
   | (with_reducible exact LeO.refl _)
   | (with_reducible exact LeO.none _)
   | (with_reducible refine LeO.ite ?_ ?_)
   | (with_reducible refine LeO.bind ?_ (fun _ => ?_))
   | exact ih0 _ _ _ _ _
   | exact ih1 _ _ _ _ _ _
   | exact spilelaw39_awake.mono _
   | exact LeO.none _
   | refine LeO.ite ?_ ?_
   | refine LeO.bind ?_ (fun _ => ?_)
set_option maxHeartbeats 8000000 in
set_option maxRecDepth 100000 in
theorem spilelaw39_SealHistory.calls (k : Nat) (A0 : Option Addr) (c0 : Nat) (l0 : List (S34)) (a1 : Int) (r : Bool) (w : World) (hr0 : Kd.C k34 w A0 l0.length l0) (hc0 : l0.length ≤ c0) (h : spilelaw39_SealHistory.f k l0 a1 = some r) :
  Calls Try.prog 9 #[.slice A0 l0.length c0, .int .i64 a1] w fun e w' => e = .returned (.bool r) ∧ Below w.heap.size w w' := by
 have hu34 := Try.underlying34
 have HR0 := Aside0.mk hr0
 have HC0 := Aside0.mk hc0
 clear hr0 hc0
 have HB := Aside0.mk (Below.refl w.heap.size w)
 have H : ((spilelaw39_awake.f k).bind fun t492 => (if t492 = true then (if (l0.length : Int) > 20 then (some true) else ((clone34.f l0).bind fun t493 => ((seal_History.f t493 a1).bind fun bt496 => (if bt496.2 = 0 then (spilelaw39_SealHistory.l0 k a1 bt496.1 bt496.1 (bt496.1.length : Int) 0) else (some ((bt496.1.length : Int) == 0)))))) else (none))) = some r := h
 clear h
 replace H := Option.bind_eq_some_iff.mp H
 obtain ⟨t492, A30, H⟩ := H
 replace H : (if t492 = true then (if (l0.length : Int) > 20 then (some true) else ((clone34.f l0).bind fun t493 => ((seal_History.f t493 a1).bind fun bt496 => (if bt496.2 = 0 then (spilelaw39_SealHistory.l0 k a1 bt496.1 bt496.1 (bt496.1.length : Int) 0) else (some ((bt496.1.length : Int) == 0)))))) else (none)) = some r := H
 have A3 := Aside0.mk A30
 clear A30
 by_cases c4 : t492 = true
 ·subst c4
  have H1 : (if (l0.length : Int) > 20 then (some true) else ((clone34.f l0).bind fun t493 => ((seal_History.f t493 a1).bind fun bt496 => (if bt496.2 = 0 then (spilelaw39_SealHistory.l0 k a1 bt496.1 bt496.1 (bt496.1.length : Int) 0) else (some ((bt496.1.length : Int) == 0)))))) = some r := by rw [if_pos rfl] at H; exact H
  clear H
  have H := H1
  clear H1
  by_cases c5 : (l0.length : Int) > 20
  ·rw [if_pos c5] at H
   have c5b0 : decide (20 < (l0.length : Int)) = true := decide_eq_true c5
   have c5b1 : decide (20 < l0.length) = true := decide_eq_true (by omega)
   clear c5
   obtain rfl := Option.some.inj H
   go_enter Try.func9, Try.ntmps9
   go_wp2_with (first | (go_at_call 10; (with_reducible refine (spilelaw39_awake.calls k  true _ A3.out).mono ?_); rintro e w6 ⟨rfl, hb⟩; have n0_ := Aside0.mk (lqT (GS.lB HB.out) hb); clear HB; have HB := n0_; clear n0_; (try clear hb); (try clear hb2); (try clear hk); (try clear hi)))
   repeat (go_quiet (first | (go_at_call 10; (with_reducible refine (spilelaw39_awake.calls k  true _ A3.out).mono ?_); rintro e w6 ⟨rfl, hb⟩; have n0_ := Aside0.mk (lqT (GS.lB HB.out) hb); clear HB; have HB := n0_; clear n0_; (try clear hb); (try clear hb2); (try clear hk); (try clear hi))); try go_wp2_with (first | (go_at_call 10; (with_reducible refine (spilelaw39_awake.calls k  true _ A3.out).mono ?_); rintro e w6 ⟨rfl, hb⟩; have n0_ := Aside0.mk (lqT (GS.lB HB.out) hb); clear HB; have HB := n0_; clear n0_; (try clear hb); (try clear hb2); (try clear hk); (try clear hi))))
   go_ret
   exact ⟨by first | rfl | (simp [errW_none, errW_some] <;> rfl) | (simp [*, errW_none, errW_some] <;> rfl), GS.lB HB.out⟩
  ·rw [if_neg c5] at H
   have c5b0 : decide (20 < (l0.length : Int)) = false := decide_eq_false c5
   have c5b1 : decide (20 < l0.length) = false := decide_eq_false (by omega)
   clear c5
   replace H := Option.bind_eq_some_iff.mp H
   obtain ⟨t493, A70, H⟩ := H
   replace H : ((seal_History.f t493 a1).bind fun bt496 => (if bt496.2 = 0 then (spilelaw39_SealHistory.l0 k a1 bt496.1 bt496.1 (bt496.1.length : Int) 0) else (some ((bt496.1.length : Int) == 0)))) = some r := H
   have A7 := Aside0.mk A70
   clear A70
   replace H := Option.bind_eq_some_iff.mp H
   obtain ⟨⟨t496, t497⟩, A80, H⟩ := H
   replace H : (if t497 = 0 then (spilelaw39_SealHistory.l0 k a1 t496 t496 (t496.length : Int) 0) else (some ((t496.length : Int) == 0))) = some r := H
   have A8 := Aside0.mk A80
   clear A80
   by_cases c9 : t497 = 0
   ·rw [if_pos c9] at H
    have c9b0 : (t497 == 0) = true := beq_iff_eq.mpr c9
    try simp only [beq_self_eq_true, Bool.not_true, Bool.false_or, Bool.true_and] at c9b0
    have c9b1 : (t497 != 0) = false := bne_eq_false_iff_eq.mpr c9
    clear c9
    have H' := Aside0.mk H
    clear H
    go_enter Try.func9, Try.ntmps9
    go_wp2_with (first | (go_at_call 10; (with_reducible refine (spilelaw39_awake.calls k  true _ A3.out).mono ?_); rintro e w10 ⟨rfl, hb⟩; have n0_ := Aside0.mk (lqT (GS.lB HB.out) hb); clear HB; have HB := n0_; clear n0_; (try clear hb); (try clear hb2); (try clear hk); (try clear hi)) | (go_at_call 14; (with_reducible refine (clone34.calls _ _ l0 t493 _ ?side1 ?side2 A7.out).mono ?_); (case side1 => exact GS.rC (Kd.C_below HR0.out HB.out)); (case side2 => exact HC0.out); rintro e w11 ⟨v494, rfl, ho0, hb⟩; have n0_ := Aside0.mk (Kd.R_lower ho0 (lqZ (GS.lB HB.out))); have n1_ := Aside0.mk (lqT (GS.lB HB.out) hb); clear HB; have HO495 := n0_; have HB := n1_; clear n0_ n1_; (try clear hb); (try clear hb2); (try clear hk); (try clear hi); (try clear ho0); obtain ⟨Ao12, co12, eo12⟩ := Kd.R_slice HO495.out; subst eo12) | (go_at_call 32; (with_reducible refine (seal_History.calls _ _ t493 a1 t496 t497 _ ?side1 ?side2 A8.out).mono ?_); (case side1 => repeat (first | exact (Kd.R_reads' HO495.out).2.2 | (with_reducible refine Kd.C_alloc ?_ _) | (with_reducible refine Kd.C_drewN ?_ _) | (with_reducible refine Kd.C_drew ?_))); (case side2 => exact (Kd.R_reads' HO495.out).2.1); rintro e w13 ⟨v498, rfl, ho0, hb⟩; have n0_ := Aside0.mk (Kd.R_elder' (GS.rR HO495.out) (Kd.R_base ho0) hb); have n1_ := Aside0.mk (Kd.R_lower (Kd.R_new' ho0 (Kd.R_lt (GS.rR HO495.out))) (lqZ (GS.lB HB.out))); have n2_ := Aside0.mk (lqT (GS.lB HB.out) hb); clear HO495; clear HB; have HO495 := n0_; have HO499 := n1_; have HB := n2_; clear n0_ n1_ n2_; (try clear hb); (try clear hb2); (try clear hk); (try clear hi); (try clear ho0); obtain ⟨Ao14, co14, eo14⟩ := Kd.R_slice HO499.out; subst eo14))
    repeat (go_quiet (first | (go_at_call 10; (with_reducible refine (spilelaw39_awake.calls k  true _ A3.out).mono ?_); rintro e w10 ⟨rfl, hb⟩; have n0_ := Aside0.mk (lqT (GS.lB HB.out) hb); clear HB; have HB := n0_; clear n0_; (try clear hb); (try clear hb2); (try clear hk); (try clear hi)) | (go_at_call 14; (with_reducible refine (clone34.calls _ _ l0 t493 _ ?side1 ?side2 A7.out).mono ?_); (case side1 => exact GS.rC (Kd.C_below HR0.out HB.out)); (case side2 => exact HC0.out); rintro e w11 ⟨v494, rfl, ho0, hb⟩; have n0_ := Aside0.mk (Kd.R_lower ho0 (lqZ (GS.lB HB.out))); have n1_ := Aside0.mk (lqT (GS.lB HB.out) hb); clear HB; have HO495 := n0_; have HB := n1_; clear n0_ n1_; (try clear hb); (try clear hb2); (try clear hk); (try clear hi); (try clear ho0); obtain ⟨Ao12, co12, eo12⟩ := Kd.R_slice HO495.out; subst eo12) | (go_at_call 32; (with_reducible refine (seal_History.calls _ _ t493 a1 t496 t497 _ ?side1 ?side2 A8.out).mono ?_); (case side1 => repeat (first | exact (Kd.R_reads' HO495.out).2.2 | (with_reducible refine Kd.C_alloc ?_ _) | (with_reducible refine Kd.C_drewN ?_ _) | (with_reducible refine Kd.C_drew ?_))); (case side2 => exact (Kd.R_reads' HO495.out).2.1); rintro e w13 ⟨v498, rfl, ho0, hb⟩; have n0_ := Aside0.mk (Kd.R_elder' (GS.rR HO495.out) (Kd.R_base ho0) hb); have n1_ := Aside0.mk (Kd.R_lower (Kd.R_new' ho0 (Kd.R_lt (GS.rR HO495.out))) (lqZ (GS.lB HB.out))); have n2_ := Aside0.mk (lqT (GS.lB HB.out) hb); clear HO495; clear HB; have HO495 := n0_; have HO499 := n1_; have HB := n2_; clear n0_ n1_ n2_; (try clear hb); (try clear hb2); (try clear hk); (try clear hi); (try clear ho0); obtain ⟨Ao14, co14, eo14⟩ := Kd.R_slice HO499.out; subst eo14)); try go_wp2_with (first | (go_at_call 10; (with_reducible refine (spilelaw39_awake.calls k  true _ A3.out).mono ?_); rintro e w10 ⟨rfl, hb⟩; have n0_ := Aside0.mk (lqT (GS.lB HB.out) hb); clear HB; have HB := n0_; clear n0_; (try clear hb); (try clear hb2); (try clear hk); (try clear hi)) | (go_at_call 14; (with_reducible refine (clone34.calls _ _ l0 t493 _ ?side1 ?side2 A7.out).mono ?_); (case side1 => exact GS.rC (Kd.C_below HR0.out HB.out)); (case side2 => exact HC0.out); rintro e w11 ⟨v494, rfl, ho0, hb⟩; have n0_ := Aside0.mk (Kd.R_lower ho0 (lqZ (GS.lB HB.out))); have n1_ := Aside0.mk (lqT (GS.lB HB.out) hb); clear HB; have HO495 := n0_; have HB := n1_; clear n0_ n1_; (try clear hb); (try clear hb2); (try clear hk); (try clear hi); (try clear ho0); obtain ⟨Ao12, co12, eo12⟩ := Kd.R_slice HO495.out; subst eo12) | (go_at_call 32; (with_reducible refine (seal_History.calls _ _ t493 a1 t496 t497 _ ?side1 ?side2 A8.out).mono ?_); (case side1 => repeat (first | exact (Kd.R_reads' HO495.out).2.2 | (with_reducible refine Kd.C_alloc ?_ _) | (with_reducible refine Kd.C_drewN ?_ _) | (with_reducible refine Kd.C_drew ?_))); (case side2 => exact (Kd.R_reads' HO495.out).2.1); rintro e w13 ⟨v498, rfl, ho0, hb⟩; have n0_ := Aside0.mk (Kd.R_elder' (GS.rR HO495.out) (Kd.R_base ho0) hb); have n1_ := Aside0.mk (Kd.R_lower (Kd.R_new' ho0 (Kd.R_lt (GS.rR HO495.out))) (lqZ (GS.lB HB.out))); have n2_ := Aside0.mk (lqT (GS.lB HB.out) hb); clear HO495; clear HB; have HO495 := n0_; have HO499 := n1_; have HB := n2_; clear n0_ n1_ n2_; (try clear hb); (try clear hb2); (try clear hk); (try clear hi); (try clear ho0); obtain ⟨Ao14, co14, eo14⟩ := Kd.R_slice HO499.out; subst eo14)))
    go_loopg [30] k (fun kq v30 w' => ∃ (x30_1 : Int), v30 = .int .i64 x30_1 ∧ Aside0 (spilelaw39_SealHistory.l0 kq a1 t496 t496 (t496.length : Int) x30_1 = some r) ∧ Aside0 (kq ≤ k) ∧ Aside0 (Kd.R k34 34 w' w.heap.size (fun _ => True) (.slice Ao14 t496.length co14) t496) ∧ Aside0 (Kd.R k34 34 w' w.heap.size (fun _ => True) (.slice Ao14 t496.length co14) t496) ∧ Aside0 (Below w.heap.size w w'))
    case atStart => exact ⟨(0), (by first | rfl | (simp; done) | (simp [*]; done)), H', ⟨Nat.le_refl _⟩, ⟨by (with_reducible repeat (first | apply Kd.R_alloc | apply Kd.R_drewN | apply Kd.R_drew)); exact Kd.R_mono HO499.out (fun _ hk => trivial)⟩, ⟨by (with_reducible repeat (first | apply Kd.R_alloc | apply Kd.R_drewN | apply Kd.R_drew)); exact Kd.R_mono HO499.out (fun _ hk => trivial)⟩, ⟨GS.lB HB.out⟩⟩
    case round =>
     clear H'
     try clear p2
     try clear c4
     try clear c5
     try clear c5b0
     try clear c5b1
     try clear c9
     try clear c9b0
     try clear c9b1
     obtain ⟨x30_1, rfl, HA, HK1, HO_5, HO_28, HB⟩ := hrel
     cases gk with
     | zero => exact absurd HA.out (by simp [spilelaw39_SealHistory.l0])
     | succ k1 =>
      have H := HA.out
      clear HA
      simp only [spilelaw39_SealHistory.l0] at H
      by_cases c15 : x30_1 < (t496.length : Int)
      ·rw [if_pos c15] at H
       have c15b0 : decide (x30_1 < (t496.length : Int)) = true := decide_eq_true c15
       clear c15
       by_cases c16 : 0 ≤ x30_1
       ·rw [if_pos c16] at H
        have c16b0 : decide (0 ≤ x30_1) = true := decide_eq_true c16
        clear c16
        by_cases c17 : x30_1 < (t496.length : Int)
        ·rw [if_pos c17] at H
         have c17b0 : decide (x30_1 < (t496.length : Int)) = true := decide_eq_true c17
         clear c17
         have HC18 := Aside0.mk H
         clear H
         have p502 : 0 ≤ (x30_1 : Int) := of_decide_eq_true (by first | (with_reducible assumption) | assumption)
         have q502 : x30_1 < (t496.length : Int) := of_decide_eq_true (by first | (with_reducible assumption) | assumption)
         obtain ⟨ad502, e502, hx502_0, hx502_1, hx502_2, hx502_3⟩ := at_T34 (Kd.R_reads' HO_28.out).2.2 x30_1 p502 q502
         cases e502
         replace p502 := eq_true p502
         replace q502 := eq_true q502
         go_upto_region 11 with (first | ((with_reducible refine gqD (N := 8) rfl ?_); (try (refine gate_guard (by rfl) ?_; dsimp only)); refine GS.bx (N := 8) (cs := #[.int .i64 0, .int .i64 0, .int .i64 0, .int .i64 0]) (t := 34) ?_; intro gb503 hg w19 hbox hb; have n0_ := Aside0.mk (Kd.R_below (Kd.R_elderB (GS.rR HO_5.out) gb503 (Nat.le_of_eq hg.symm)) hb); have n1_ := Aside0.mk (Kd.R_below (Kd.R_elderB (GS.rR HO_28.out) gb503 (Nat.le_of_eq hg.symm)) hb); have n2_ := Aside0.mk (lqT (GS.lB HB.out) hb); have n3_ := Aside0.mk (hbox); have n4_ := Aside0.mk ((by rw [hg]; exact (lqZ (GS.lB HB.out)) : w.heap.size ≤ gb503)); have n5_ := Aside0.mk ((by rw [hg]; exact (lqZ (GS.lB HB.out)) : w.heap.size ≤ gb503)); clear HO_5; clear HO_28; clear HB; have HO_5 := n0_; have HO_28 := n1_; have HB := n2_; have BK503 := n3_; have GW503 := n4_; have GE503 := n5_; clear n0_ n1_ n2_ n3_ n4_ n5_; clear hb hbox hg; obtain ⟨hcz20_0, hcz20_1, hcz20_2, hcz20_3, hfz20_0, hfz20_1, hfz20_2, hfz20_3⟩ := GS.c4 BK503.out))
         repeat (go_quiet (first | ((with_reducible refine gqD (N := 8) rfl ?_); (try (refine gate_guard (by rfl) ?_; dsimp only)); refine GS.bx (N := 8) (cs := #[.int .i64 0, .int .i64 0, .int .i64 0, .int .i64 0]) (t := 34) ?_; intro gb503 hg w19 hbox hb; have n0_ := Aside0.mk (Kd.R_below (Kd.R_elderB (GS.rR HO_5.out) gb503 (Nat.le_of_eq hg.symm)) hb); have n1_ := Aside0.mk (Kd.R_below (Kd.R_elderB (GS.rR HO_28.out) gb503 (Nat.le_of_eq hg.symm)) hb); have n2_ := Aside0.mk (lqT (GS.lB HB.out) hb); have n3_ := Aside0.mk (hbox); have n4_ := Aside0.mk ((by rw [hg]; exact (lqZ (GS.lB HB.out)) : w.heap.size ≤ gb503)); have n5_ := Aside0.mk ((by rw [hg]; exact (lqZ (GS.lB HB.out)) : w.heap.size ≤ gb503)); clear HO_5; clear HO_28; clear HB; have HO_5 := n0_; have HO_28 := n1_; have HB := n2_; have BK503 := n3_; have GW503 := n4_; have GE503 := n5_; clear n0_ n1_ n2_ n3_ n4_ n5_; clear hb hbox hg; obtain ⟨hcz20_0, hcz20_1, hcz20_2, hcz20_3, hfz20_0, hfz20_1, hfz20_2, hfz20_3⟩ := GS.c4 BK503.out)); go_upto_region 11 with (first | ((with_reducible refine gqD (N := 8) rfl ?_); (try (refine gate_guard (by rfl) ?_; dsimp only)); refine GS.bx (N := 8) (cs := #[.int .i64 0, .int .i64 0, .int .i64 0, .int .i64 0]) (t := 34) ?_; intro gb503 hg w19 hbox hb; have n0_ := Aside0.mk (Kd.R_below (Kd.R_elderB (GS.rR HO_5.out) gb503 (Nat.le_of_eq hg.symm)) hb); have n1_ := Aside0.mk (Kd.R_below (Kd.R_elderB (GS.rR HO_28.out) gb503 (Nat.le_of_eq hg.symm)) hb); have n2_ := Aside0.mk (lqT (GS.lB HB.out) hb); have n3_ := Aside0.mk (hbox); have n4_ := Aside0.mk ((by rw [hg]; exact (lqZ (GS.lB HB.out)) : w.heap.size ≤ gb503)); have n5_ := Aside0.mk ((by rw [hg]; exact (lqZ (GS.lB HB.out)) : w.heap.size ≤ gb503)); clear HO_5; clear HO_28; clear HB; have HO_5 := n0_; have HO_28 := n1_; have HB := n2_; have BK503 := n3_; have GW503 := n4_; have GE503 := n5_; clear n0_ n1_ n2_ n3_ n4_ n5_; clear hb hbox hg; obtain ⟨hcz20_0, hcz20_1, hcz20_2, hcz20_3, hfz20_0, hfz20_1, hfz20_2, hfz20_3⟩ := GS.c4 BK503.out)))
         (try simp only [Act.put, List.setIfInBounds_toArray, List.set_cons_zero, List.set_cons_succ])
         go_cut [67] (fun v67 wc => ∃ (kq : Nat) (x67_17 : Bool), v67 = .bool x67_17 ∧ Aside0 (spilelaw39_SealHistory.j1 kq a1 t496 t496 (t496.length : Int) x30_1 x67_17 = some r) ∧ Aside0 (kq ≤ k1) ∧ Aside0 (Kd.R k34 34 wc w.heap.size (fun k_ => k_ ≠ gb503) (.slice (some ad502) t496.length co14) t496) ∧ Aside0 (Kd.R k34 34 wc w.heap.size (fun k_ => k_ ≠ gb503) (.slice (some ad502) t496.length co14) t496) ∧ Aside0 (wc.heap[gb503]? = some (.cells #[.int .i64 ((rd_T34 t496 x30_1).f0), .int .i64 ((rd_T34 t496 x30_1).f1), .int .i64 ((rd_T34 t496 x30_1).f2), .int .i64 ((rd_T34 t496 x30_1).f3)] 34 (0, 0))) ∧ Aside0 (Below w.heap.size w wc))
         case first =>
          have H := HC18.out
          clear HC18
          by_cases c21 : ((rd_T34 t496 x30_1).f2) = a1
          ·rw [if_pos c21] at H
           have c21b0 : (((rd_T34 t496 x30_1).f2) == a1) = true := beq_iff_eq.mpr c21
           try simp only [beq_self_eq_true, Bool.not_true, Bool.false_or, Bool.true_and] at c21b0
           have c21b1 : (((rd_T34 t496 x30_1).f2) != a1) = false := bne_eq_false_iff_eq.mpr c21
           clear c21
           (first | rw [c21b0] | (simp only [i64_w, i32_w]; rw [c21b0]) | skip)
           by_cases c22 : 0 < (t496.length : Int)
           ·rw [if_pos c22] at H
            have c22b0 : decide (0 < (t496.length : Int)) = true := decide_eq_true c22
            have c22b1 : decide (0 < t496.length) = true := decide_eq_true (by omega)
            clear c22
            by_cases c23 : ((rd_T34 t496 x30_1).f1) = ((rd_T34 t496 0).f1)
            ·rw [if_pos c23] at H
             have c23b0 : (((rd_T34 t496 x30_1).f1) == ((rd_T34 t496 0).f1)) = true := beq_iff_eq.mpr c23
             try simp only [beq_self_eq_true, Bool.not_true, Bool.false_or, Bool.true_and] at c23b0
             have c23b1 : (((rd_T34 t496 x30_1).f1) != ((rd_T34 t496 0).f1)) = false := bne_eq_false_iff_eq.mpr c23
             clear c23
             by_cases c24 : ((((rd_T34 t496 x30_1).f3) == 1) != (x30_1 == 0)) = true
             ·rw [if_pos c24] at H
              exact absurd H (by simp)
             ·rw [if_neg c24] at H
              have c24b0 : ((((rd_T34 t496 x30_1).f3) == 1) != (x30_1 == 0)) = false := by simpa using c24
              try simp only [beq_self_eq_true, Bool.not_true, Bool.false_or, Bool.true_and] at c24b0
              (try (have c24b1 : decide ((((rd_T34 t496 x30_1).f3) == 1) = (x30_1 == 0)) = true := by simpa using c24))
              (try (have c24b2 : ((((rd_T34 t496 x30_1).f3) == 1) == (x30_1 == 0)) = true := by simpa using c24))
              clear c24
              by_cases c25 : x30_1 < (wrap64 ((t496.length : Int) - 1))
              ·rw [if_pos c25] at H
               have c25b0 : decide (x30_1 < (wrap64 ((t496.length : Int) - 1))) = true := decide_eq_true c25
               clear c25
               have H' := Aside0.mk H
               clear H
               obtain ⟨hcz26_0, hcz26_1, hcz26_2, hcz26_3, hfz26_0, hfz26_1, hfz26_2, hfz26_3⟩ := GS.c4 BK503.out
               have p504 : 0 ≤ (0 : Int) := (by omega)
               have q504 : 0 < (t496.length : Int) := of_decide_eq_true (by first | (with_reducible assumption) | assumption)
               obtain ⟨ad504, e504, hx504_0, hx504_1, hx504_2, hx504_3⟩ := at_T34 (Kd.R_reads' HO_5.out).2.2 0 p504 q504
               obtain rfl : ad502 = ad504 := (by injection e504)
               have qi504 : (0 < t496.length) = True := eq_true (by omega)
               (try rw [show ((0 : Int)).toNat = 0 from rfl] at hx504_0)
               (try rw [show 0 * 4 = 0 from rfl] at hx504_0)
               (try rw [Addr.add_zero'] at hx504_0)
               (try rw [show ((0 : Int)).toNat = 0 from rfl] at hx504_1)
               (try rw [show 0 * 4 = 0 from rfl] at hx504_1)
               (try rw [Addr.add_zero'] at hx504_1)
               (try rw [show ((0 : Int)).toNat = 0 from rfl] at hx504_2)
               (try rw [show 0 * 4 = 0 from rfl] at hx504_2)
               (try rw [Addr.add_zero'] at hx504_2)
               (try rw [show ((0 : Int)).toNat = 0 from rfl] at hx504_3)
               (try rw [show 0 * 4 = 0 from rfl] at hx504_3)
               (try rw [Addr.add_zero'] at hx504_3)
               have hn504_0 : ad502.block ≠ gb503 := Kd.own_blk (Kd.R_away HO_5.out (fun _ hk => GS.cj hk))
               have hn504_1 : ad502.block ≠ gb503 := Kd.own_blk (Kd.R_away HO_5.out (fun _ hk => GS.cj hk))
               have hn504_2 : ad502.block ≠ gb503 := Kd.own_blk (Kd.R_away HO_5.out (fun _ hk => GS.cj hk))
               have hn504_3 : ad502.block ≠ gb503 := Kd.own_blk (Kd.R_away HO_5.out (fun _ hk => GS.cj hk))
               replace hx504_0 := (cell_far (p := ⟨gb503, 0, none⟩) (by first | (rw [add_block]; exact hn504_0) | (show (Addr.add _ _).block ≠ _; rw [add_block]; exact hn504_0) | exact hn504_0) (.int .i64 ((rd_T34 t496 x30_1).f0))).trans hx504_0
               replace hx504_1 := (cell_far (p := ⟨gb503, 0, none⟩) (by first | (rw [add_block]; exact hn504_0) | (show (Addr.add _ _).block ≠ _; rw [add_block]; exact hn504_0) | exact hn504_0) (.int .i64 ((rd_T34 t496 x30_1).f0))).trans hx504_1
               replace hx504_2 := (cell_far (p := ⟨gb503, 0, none⟩) (by first | (rw [add_block]; exact hn504_0) | (show (Addr.add _ _).block ≠ _; rw [add_block]; exact hn504_0) | exact hn504_0) (.int .i64 ((rd_T34 t496 x30_1).f0))).trans hx504_2
               replace hx504_3 := (cell_far (p := ⟨gb503, 0, none⟩) (by first | (rw [add_block]; exact hn504_0) | (show (Addr.add _ _).block ≠ _; rw [add_block]; exact hn504_0) | exact hn504_0) (.int .i64 ((rd_T34 t496 x30_1).f0))).trans hx504_3
               replace hx504_0 := (cell_far (p := ⟨gb503, 1, none⟩) (by first | (rw [add_block]; exact hn504_1) | (show (Addr.add _ _).block ≠ _; rw [add_block]; exact hn504_1) | exact hn504_1) (.int .i64 ((rd_T34 t496 x30_1).f1))).trans hx504_0
               replace hx504_1 := (cell_far (p := ⟨gb503, 1, none⟩) (by first | (rw [add_block]; exact hn504_1) | (show (Addr.add _ _).block ≠ _; rw [add_block]; exact hn504_1) | exact hn504_1) (.int .i64 ((rd_T34 t496 x30_1).f1))).trans hx504_1
               replace hx504_2 := (cell_far (p := ⟨gb503, 1, none⟩) (by first | (rw [add_block]; exact hn504_1) | (show (Addr.add _ _).block ≠ _; rw [add_block]; exact hn504_1) | exact hn504_1) (.int .i64 ((rd_T34 t496 x30_1).f1))).trans hx504_2
               replace hx504_3 := (cell_far (p := ⟨gb503, 1, none⟩) (by first | (rw [add_block]; exact hn504_1) | (show (Addr.add _ _).block ≠ _; rw [add_block]; exact hn504_1) | exact hn504_1) (.int .i64 ((rd_T34 t496 x30_1).f1))).trans hx504_3
               replace hx504_0 := (cell_far (p := ⟨gb503, 2, none⟩) (by first | (rw [add_block]; exact hn504_2) | (show (Addr.add _ _).block ≠ _; rw [add_block]; exact hn504_2) | exact hn504_2) (.int .i64 ((rd_T34 t496 x30_1).f2))).trans hx504_0
               replace hx504_1 := (cell_far (p := ⟨gb503, 2, none⟩) (by first | (rw [add_block]; exact hn504_2) | (show (Addr.add _ _).block ≠ _; rw [add_block]; exact hn504_2) | exact hn504_2) (.int .i64 ((rd_T34 t496 x30_1).f2))).trans hx504_1
               replace hx504_2 := (cell_far (p := ⟨gb503, 2, none⟩) (by first | (rw [add_block]; exact hn504_2) | (show (Addr.add _ _).block ≠ _; rw [add_block]; exact hn504_2) | exact hn504_2) (.int .i64 ((rd_T34 t496 x30_1).f2))).trans hx504_2
               replace hx504_3 := (cell_far (p := ⟨gb503, 2, none⟩) (by first | (rw [add_block]; exact hn504_2) | (show (Addr.add _ _).block ≠ _; rw [add_block]; exact hn504_2) | exact hn504_2) (.int .i64 ((rd_T34 t496 x30_1).f2))).trans hx504_3
               replace hx504_0 := (cell_far (p := ⟨gb503, 3, none⟩) (by first | (rw [add_block]; exact hn504_3) | (show (Addr.add _ _).block ≠ _; rw [add_block]; exact hn504_3) | exact hn504_3) (.int .i64 ((rd_T34 t496 x30_1).f3))).trans hx504_0
               replace hx504_1 := (cell_far (p := ⟨gb503, 3, none⟩) (by first | (rw [add_block]; exact hn504_3) | (show (Addr.add _ _).block ≠ _; rw [add_block]; exact hn504_3) | exact hn504_3) (.int .i64 ((rd_T34 t496 x30_1).f3))).trans hx504_1
               replace hx504_2 := (cell_far (p := ⟨gb503, 3, none⟩) (by first | (rw [add_block]; exact hn504_3) | (show (Addr.add _ _).block ≠ _; rw [add_block]; exact hn504_3) | exact hn504_3) (.int .i64 ((rd_T34 t496 x30_1).f3))).trans hx504_2
               replace hx504_3 := (cell_far (p := ⟨gb503, 3, none⟩) (by first | (rw [add_block]; exact hn504_3) | (show (Addr.add _ _).block ≠ _; rw [add_block]; exact hn504_3) | exact hn504_3) (.int .i64 ((rd_T34 t496 x30_1).f3))).trans hx504_3
               (try have hy504_0 := fun (n_ : Nat) => (show ((((((w19.drewN n_).setCell ⟨gb503, 0, none⟩ (.int .i64 ((rd_T34 t496 x30_1).f0))).setCell ⟨gb503, 1, none⟩ (.int .i64 ((rd_T34 t496 x30_1).f1))).setCell ⟨gb503, 2, none⟩ (.int .i64 ((rd_T34 t496 x30_1).f2))).setCell ⟨gb503, 3, none⟩ (.int .i64 ((rd_T34 t496 x30_1).f3)))).cell? _ = some _ from hx504_0))
               (try have hy504_1 := fun (n_ : Nat) => (show ((((((w19.drewN n_).setCell ⟨gb503, 0, none⟩ (.int .i64 ((rd_T34 t496 x30_1).f0))).setCell ⟨gb503, 1, none⟩ (.int .i64 ((rd_T34 t496 x30_1).f1))).setCell ⟨gb503, 2, none⟩ (.int .i64 ((rd_T34 t496 x30_1).f2))).setCell ⟨gb503, 3, none⟩ (.int .i64 ((rd_T34 t496 x30_1).f3)))).cell? _ = some _ from hx504_1))
               (try have hy504_2 := fun (n_ : Nat) => (show ((((((w19.drewN n_).setCell ⟨gb503, 0, none⟩ (.int .i64 ((rd_T34 t496 x30_1).f0))).setCell ⟨gb503, 1, none⟩ (.int .i64 ((rd_T34 t496 x30_1).f1))).setCell ⟨gb503, 2, none⟩ (.int .i64 ((rd_T34 t496 x30_1).f2))).setCell ⟨gb503, 3, none⟩ (.int .i64 ((rd_T34 t496 x30_1).f3)))).cell? _ = some _ from hx504_2))
               (try have hy504_3 := fun (n_ : Nat) => (show ((((((w19.drewN n_).setCell ⟨gb503, 0, none⟩ (.int .i64 ((rd_T34 t496 x30_1).f0))).setCell ⟨gb503, 1, none⟩ (.int .i64 ((rd_T34 t496 x30_1).f1))).setCell ⟨gb503, 2, none⟩ (.int .i64 ((rd_T34 t496 x30_1).f2))).setCell ⟨gb503, 3, none⟩ (.int .i64 ((rd_T34 t496 x30_1).f3)))).cell? _ = some _ from hx504_3))
               clear hn504_0
               clear hn504_1
               clear hn504_2
               clear hn504_3
               replace p504 := eq_true p504
               replace q504 := eq_true q504
               go_wp2
               repeat (go_quiet (fail); try go_wp2)
               go_meet
               case rel => exact ⟨_, (decide (((rd_T34 t496 x30_1).f3) > 2)), (by first | rfl | (simp; done) | (simp [*]; done)), H', ⟨by have := HK1.out; first | omega | exact Nat.le_refl _⟩, ⟨by (with_reducible repeat (first | apply Kd.R_alloc | apply Kd.R_drewN | apply Kd.R_drew)); exact Kd.R_mono (Kd.R_far (p := ⟨gb503, 3, none⟩) (Kd.R_far (p := ⟨gb503, 2, none⟩) (Kd.R_far (p := ⟨gb503, 1, none⟩) (Kd.R_far (p := ⟨gb503, 0, none⟩) (Kd.R_mono HO_5.out (fun k_ hk => (⟨hk, GS.cj hk⟩ : _ ∧ k_ ≠ gb503))) (fun _ hk => hk.2) (.int .i64 ((rd_T34 t496 x30_1).f0))) (fun _ hk => hk.2) (.int .i64 ((rd_T34 t496 x30_1).f1))) (fun _ hk => hk.2) (.int .i64 ((rd_T34 t496 x30_1).f2))) (fun _ hk => hk.2) (.int .i64 ((rd_T34 t496 x30_1).f3))) (fun _ hk => GS.cj hk)⟩, ⟨by (with_reducible repeat (first | apply Kd.R_alloc | apply Kd.R_drewN | apply Kd.R_drew)); exact Kd.R_mono (Kd.R_far (p := ⟨gb503, 3, none⟩) (Kd.R_far (p := ⟨gb503, 2, none⟩) (Kd.R_far (p := ⟨gb503, 1, none⟩) (Kd.R_far (p := ⟨gb503, 0, none⟩) (Kd.R_mono HO_28.out (fun k_ hk => (⟨hk, GS.cj hk⟩ : _ ∧ k_ ≠ gb503))) (fun _ hk => hk.2) (.int .i64 ((rd_T34 t496 x30_1).f0))) (fun _ hk => hk.2) (.int .i64 ((rd_T34 t496 x30_1).f1))) (fun _ hk => hk.2) (.int .i64 ((rd_T34 t496 x30_1).f2))) (fun _ hk => hk.2) (.int .i64 ((rd_T34 t496 x30_1).f3))) (fun _ hk => GS.cj hk)⟩, ⟨GS.bqZ BK503.out⟩, ⟨GS.lB HB.out⟩⟩
              ·rw [if_neg c25] at H
               have c25b0 : decide (x30_1 < (wrap64 ((t496.length : Int) - 1))) = false := decide_eq_false c25
               clear c25
               have H' := Aside0.mk H
               clear H
               obtain ⟨hcz27_0, hcz27_1, hcz27_2, hcz27_3, hfz27_0, hfz27_1, hfz27_2, hfz27_3⟩ := GS.c4 BK503.out
               have p504 : 0 ≤ (0 : Int) := (by omega)
               have q504 : 0 < (t496.length : Int) := of_decide_eq_true (by first | (with_reducible assumption) | assumption)
               obtain ⟨ad504, e504, hx504_0, hx504_1, hx504_2, hx504_3⟩ := at_T34 (Kd.R_reads' HO_5.out).2.2 0 p504 q504
               obtain rfl : ad502 = ad504 := (by injection e504)
               have qi504 : (0 < t496.length) = True := eq_true (by omega)
               (try rw [show ((0 : Int)).toNat = 0 from rfl] at hx504_0)
               (try rw [show 0 * 4 = 0 from rfl] at hx504_0)
               (try rw [Addr.add_zero'] at hx504_0)
               (try rw [show ((0 : Int)).toNat = 0 from rfl] at hx504_1)
               (try rw [show 0 * 4 = 0 from rfl] at hx504_1)
               (try rw [Addr.add_zero'] at hx504_1)
               (try rw [show ((0 : Int)).toNat = 0 from rfl] at hx504_2)
               (try rw [show 0 * 4 = 0 from rfl] at hx504_2)
               (try rw [Addr.add_zero'] at hx504_2)
               (try rw [show ((0 : Int)).toNat = 0 from rfl] at hx504_3)
               (try rw [show 0 * 4 = 0 from rfl] at hx504_3)
               (try rw [Addr.add_zero'] at hx504_3)
               have hn504_0 : ad502.block ≠ gb503 := Kd.own_blk (Kd.R_away HO_5.out (fun _ hk => GS.cj hk))
               have hn504_1 : ad502.block ≠ gb503 := Kd.own_blk (Kd.R_away HO_5.out (fun _ hk => GS.cj hk))
               have hn504_2 : ad502.block ≠ gb503 := Kd.own_blk (Kd.R_away HO_5.out (fun _ hk => GS.cj hk))
               have hn504_3 : ad502.block ≠ gb503 := Kd.own_blk (Kd.R_away HO_5.out (fun _ hk => GS.cj hk))
               replace hx504_0 := (cell_far (p := ⟨gb503, 0, none⟩) (by first | (rw [add_block]; exact hn504_0) | (show (Addr.add _ _).block ≠ _; rw [add_block]; exact hn504_0) | exact hn504_0) (.int .i64 ((rd_T34 t496 x30_1).f0))).trans hx504_0
               replace hx504_1 := (cell_far (p := ⟨gb503, 0, none⟩) (by first | (rw [add_block]; exact hn504_0) | (show (Addr.add _ _).block ≠ _; rw [add_block]; exact hn504_0) | exact hn504_0) (.int .i64 ((rd_T34 t496 x30_1).f0))).trans hx504_1
               replace hx504_2 := (cell_far (p := ⟨gb503, 0, none⟩) (by first | (rw [add_block]; exact hn504_0) | (show (Addr.add _ _).block ≠ _; rw [add_block]; exact hn504_0) | exact hn504_0) (.int .i64 ((rd_T34 t496 x30_1).f0))).trans hx504_2
               replace hx504_3 := (cell_far (p := ⟨gb503, 0, none⟩) (by first | (rw [add_block]; exact hn504_0) | (show (Addr.add _ _).block ≠ _; rw [add_block]; exact hn504_0) | exact hn504_0) (.int .i64 ((rd_T34 t496 x30_1).f0))).trans hx504_3
               replace hx504_0 := (cell_far (p := ⟨gb503, 1, none⟩) (by first | (rw [add_block]; exact hn504_1) | (show (Addr.add _ _).block ≠ _; rw [add_block]; exact hn504_1) | exact hn504_1) (.int .i64 ((rd_T34 t496 x30_1).f1))).trans hx504_0
               replace hx504_1 := (cell_far (p := ⟨gb503, 1, none⟩) (by first | (rw [add_block]; exact hn504_1) | (show (Addr.add _ _).block ≠ _; rw [add_block]; exact hn504_1) | exact hn504_1) (.int .i64 ((rd_T34 t496 x30_1).f1))).trans hx504_1
               replace hx504_2 := (cell_far (p := ⟨gb503, 1, none⟩) (by first | (rw [add_block]; exact hn504_1) | (show (Addr.add _ _).block ≠ _; rw [add_block]; exact hn504_1) | exact hn504_1) (.int .i64 ((rd_T34 t496 x30_1).f1))).trans hx504_2
               replace hx504_3 := (cell_far (p := ⟨gb503, 1, none⟩) (by first | (rw [add_block]; exact hn504_1) | (show (Addr.add _ _).block ≠ _; rw [add_block]; exact hn504_1) | exact hn504_1) (.int .i64 ((rd_T34 t496 x30_1).f1))).trans hx504_3
               replace hx504_0 := (cell_far (p := ⟨gb503, 2, none⟩) (by first | (rw [add_block]; exact hn504_2) | (show (Addr.add _ _).block ≠ _; rw [add_block]; exact hn504_2) | exact hn504_2) (.int .i64 ((rd_T34 t496 x30_1).f2))).trans hx504_0
               replace hx504_1 := (cell_far (p := ⟨gb503, 2, none⟩) (by first | (rw [add_block]; exact hn504_2) | (show (Addr.add _ _).block ≠ _; rw [add_block]; exact hn504_2) | exact hn504_2) (.int .i64 ((rd_T34 t496 x30_1).f2))).trans hx504_1
               replace hx504_2 := (cell_far (p := ⟨gb503, 2, none⟩) (by first | (rw [add_block]; exact hn504_2) | (show (Addr.add _ _).block ≠ _; rw [add_block]; exact hn504_2) | exact hn504_2) (.int .i64 ((rd_T34 t496 x30_1).f2))).trans hx504_2
               replace hx504_3 := (cell_far (p := ⟨gb503, 2, none⟩) (by first | (rw [add_block]; exact hn504_2) | (show (Addr.add _ _).block ≠ _; rw [add_block]; exact hn504_2) | exact hn504_2) (.int .i64 ((rd_T34 t496 x30_1).f2))).trans hx504_3
               replace hx504_0 := (cell_far (p := ⟨gb503, 3, none⟩) (by first | (rw [add_block]; exact hn504_3) | (show (Addr.add _ _).block ≠ _; rw [add_block]; exact hn504_3) | exact hn504_3) (.int .i64 ((rd_T34 t496 x30_1).f3))).trans hx504_0
               replace hx504_1 := (cell_far (p := ⟨gb503, 3, none⟩) (by first | (rw [add_block]; exact hn504_3) | (show (Addr.add _ _).block ≠ _; rw [add_block]; exact hn504_3) | exact hn504_3) (.int .i64 ((rd_T34 t496 x30_1).f3))).trans hx504_1
               replace hx504_2 := (cell_far (p := ⟨gb503, 3, none⟩) (by first | (rw [add_block]; exact hn504_3) | (show (Addr.add _ _).block ≠ _; rw [add_block]; exact hn504_3) | exact hn504_3) (.int .i64 ((rd_T34 t496 x30_1).f3))).trans hx504_2
               replace hx504_3 := (cell_far (p := ⟨gb503, 3, none⟩) (by first | (rw [add_block]; exact hn504_3) | (show (Addr.add _ _).block ≠ _; rw [add_block]; exact hn504_3) | exact hn504_3) (.int .i64 ((rd_T34 t496 x30_1).f3))).trans hx504_3
               (try have hy504_0 := fun (n_ : Nat) => (show ((((((w19.drewN n_).setCell ⟨gb503, 0, none⟩ (.int .i64 ((rd_T34 t496 x30_1).f0))).setCell ⟨gb503, 1, none⟩ (.int .i64 ((rd_T34 t496 x30_1).f1))).setCell ⟨gb503, 2, none⟩ (.int .i64 ((rd_T34 t496 x30_1).f2))).setCell ⟨gb503, 3, none⟩ (.int .i64 ((rd_T34 t496 x30_1).f3)))).cell? _ = some _ from hx504_0))
               (try have hy504_1 := fun (n_ : Nat) => (show ((((((w19.drewN n_).setCell ⟨gb503, 0, none⟩ (.int .i64 ((rd_T34 t496 x30_1).f0))).setCell ⟨gb503, 1, none⟩ (.int .i64 ((rd_T34 t496 x30_1).f1))).setCell ⟨gb503, 2, none⟩ (.int .i64 ((rd_T34 t496 x30_1).f2))).setCell ⟨gb503, 3, none⟩ (.int .i64 ((rd_T34 t496 x30_1).f3)))).cell? _ = some _ from hx504_1))
               (try have hy504_2 := fun (n_ : Nat) => (show ((((((w19.drewN n_).setCell ⟨gb503, 0, none⟩ (.int .i64 ((rd_T34 t496 x30_1).f0))).setCell ⟨gb503, 1, none⟩ (.int .i64 ((rd_T34 t496 x30_1).f1))).setCell ⟨gb503, 2, none⟩ (.int .i64 ((rd_T34 t496 x30_1).f2))).setCell ⟨gb503, 3, none⟩ (.int .i64 ((rd_T34 t496 x30_1).f3)))).cell? _ = some _ from hx504_2))
               (try have hy504_3 := fun (n_ : Nat) => (show ((((((w19.drewN n_).setCell ⟨gb503, 0, none⟩ (.int .i64 ((rd_T34 t496 x30_1).f0))).setCell ⟨gb503, 1, none⟩ (.int .i64 ((rd_T34 t496 x30_1).f1))).setCell ⟨gb503, 2, none⟩ (.int .i64 ((rd_T34 t496 x30_1).f2))).setCell ⟨gb503, 3, none⟩ (.int .i64 ((rd_T34 t496 x30_1).f3)))).cell? _ = some _ from hx504_3))
               clear hn504_0
               clear hn504_1
               clear hn504_2
               clear hn504_3
               replace p504 := eq_true p504
               replace q504 := eq_true q504
               go_wp2
               repeat (go_quiet (fail); try go_wp2)
               go_meet
               case rel => exact ⟨_, (false), (by first | rfl | (simp; done) | (simp [*]; done)), H', ⟨by have := HK1.out; first | omega | exact Nat.le_refl _⟩, ⟨by (with_reducible repeat (first | apply Kd.R_alloc | apply Kd.R_drewN | apply Kd.R_drew)); exact Kd.R_mono (Kd.R_far (p := ⟨gb503, 3, none⟩) (Kd.R_far (p := ⟨gb503, 2, none⟩) (Kd.R_far (p := ⟨gb503, 1, none⟩) (Kd.R_far (p := ⟨gb503, 0, none⟩) (Kd.R_mono HO_5.out (fun k_ hk => (⟨hk, GS.cj hk⟩ : _ ∧ k_ ≠ gb503))) (fun _ hk => hk.2) (.int .i64 ((rd_T34 t496 x30_1).f0))) (fun _ hk => hk.2) (.int .i64 ((rd_T34 t496 x30_1).f1))) (fun _ hk => hk.2) (.int .i64 ((rd_T34 t496 x30_1).f2))) (fun _ hk => hk.2) (.int .i64 ((rd_T34 t496 x30_1).f3))) (fun _ hk => GS.cj hk)⟩, ⟨by (with_reducible repeat (first | apply Kd.R_alloc | apply Kd.R_drewN | apply Kd.R_drew)); exact Kd.R_mono (Kd.R_far (p := ⟨gb503, 3, none⟩) (Kd.R_far (p := ⟨gb503, 2, none⟩) (Kd.R_far (p := ⟨gb503, 1, none⟩) (Kd.R_far (p := ⟨gb503, 0, none⟩) (Kd.R_mono HO_28.out (fun k_ hk => (⟨hk, GS.cj hk⟩ : _ ∧ k_ ≠ gb503))) (fun _ hk => hk.2) (.int .i64 ((rd_T34 t496 x30_1).f0))) (fun _ hk => hk.2) (.int .i64 ((rd_T34 t496 x30_1).f1))) (fun _ hk => hk.2) (.int .i64 ((rd_T34 t496 x30_1).f2))) (fun _ hk => hk.2) (.int .i64 ((rd_T34 t496 x30_1).f3))) (fun _ hk => GS.cj hk)⟩, ⟨GS.bqZ BK503.out⟩, ⟨GS.lB HB.out⟩⟩
            ·rw [if_neg c23] at H
             exact absurd H (by simp)
           ·rw [if_neg c22] at H
            exact absurd H (by simp)
          ·rw [if_neg c21] at H
           exact absurd H (by simp)
         case rest =>
          clear HC18
          try clear c1
          try clear c2
          try clear p2
          try clear c4
          try clear c5
          try clear c5b0
          try clear c5b1
          try clear p5
          try clear q5
          try clear hx5
          try clear qi5
          try clear p6
          try clear c9
          try clear c9b0
          try clear c9b1
          try clear c15
          try clear c15b0
          try clear c16
          try clear c16b0
          try clear c17
          try clear c17b0
          try clear c21
          try clear c21b0
          try clear c21b1
          try clear c22
          try clear c22b0
          try clear c22b1
          try clear c23
          try clear c23b0
          try clear c23b1
          try clear c24
          try clear c24b0
          try clear c24b1
          try clear c24b2
          try clear c25
          try clear c25b0
          try clear hcz20_0
          try clear hcz20_1
          try clear hcz20_2
          try clear hcz20_3
          try clear hcz26_0
          try clear hcz26_1
          try clear hcz26_2
          try clear hcz26_3
          try clear hcz27_0
          try clear hcz27_1
          try clear hcz27_2
          try clear hcz27_3
          try clear hfz20_0
          try clear hfz20_1
          try clear hfz20_2
          try clear hfz20_3
          try clear hfz26_0
          try clear hfz26_1
          try clear hfz26_2
          try clear hfz26_3
          try clear hfz27_0
          try clear hfz27_1
          try clear hfz27_2
          try clear hfz27_3
          try clear hx502_0
          try clear hx502_1
          try clear hx502_2
          try clear hx502_3
          try clear hx504_0
          try clear hx504_1
          try clear hx504_2
          try clear hx504_3
          try clear p2
          try clear p502
          try clear p504
          try clear q502
          try clear q504
          obtain ⟨kq, x67_17, rfl, HA, HJ17, HO_5, HO_28, BK503, HB⟩ := hcut
          cases kq with
          | zero => exact absurd HA.out (by simp [spilelaw39_SealHistory.j1])
          | succ kj17 =>
           have H := HA.out
           clear HA
           simp only [spilelaw39_SealHistory.j1] at H
           by_cases c28 : x67_17 = true
           ·subst c28
            have H1 : (none) = some r := by rw [if_pos rfl] at H; exact H
            clear H
            have H := H1
            clear H1
            exact absurd H (by simp)
           ·replace c28 := Bool.eq_false_iff.mpr c28
            subst c28
            have H1 : (spilelaw39_SealHistory.l0 kj17 a1 t496 t496 (t496.length : Int) (wrap64 (x30_1 + 1))) = some r := by rw [if_neg (show ¬ (false = true) by decide)] at H; exact H
            clear H
            have H := H1
            clear H1
            have H' := Aside0.mk H
            clear H
            go_wp2
            repeat (go_quiet (fail); try go_wp2)
            go_roundg kj17
            case measure => have := HK1.out; have := HJ17.out; omega
            case rel => exact ⟨(wrap64 (x30_1 + 1)), (by first | rfl | (simp; done) | (simp [*]; done)), H', ⟨by have := HK1.out; have := HJ17.out; omega⟩, ⟨by (with_reducible repeat (first | apply Kd.R_alloc | apply Kd.R_drewN | apply Kd.R_drew)); exact Kd.R_mono HO_5.out (fun _ hk => trivial)⟩, ⟨by (with_reducible repeat (first | apply Kd.R_alloc | apply Kd.R_drewN | apply Kd.R_drew)); exact Kd.R_mono HO_28.out (fun _ hk => trivial)⟩, ⟨GS.lB HB.out⟩⟩
        ·rw [if_neg c17] at H
         exact absurd H (by simp)
       ·rw [if_neg c16] at H
        exact absurd H (by simp)
      ·rw [if_neg c15] at H
       have c15b0 : decide (x30_1 < (t496.length : Int)) = false := decide_eq_false c15
       clear c15
       replace H := Option.bind_eq_some_iff.mp H
       obtain ⟨⟨t500, t501⟩, A290, H⟩ := H
       replace H : (if (t496.length : Int) > 0 then (some (t501 == 0)) else (none)) = some r := H
       have A29 := Aside0.mk A290
       clear A290
       by_cases c30 : (t496.length : Int) > 0
       ·rw [if_pos c30] at H
        have c30b0 : decide (0 < (t496.length : Int)) = true := decide_eq_true c30
        have c30b1 : decide (0 < t496.length) = true := decide_eq_true (by omega)
        clear c30
        obtain rfl := Option.some.inj H
        go_wp2_with (first | (go_at_call 28; (with_reducible refine (seal_Check.calls _ _ t496 t500 t501 _ ?side1 ?side2 A29.out).mono ?_); (case side1 => repeat (first | exact (Kd.R_reads' HO_5.out).2.2 | (with_reducible refine Kd.C_alloc ?_ _) | (with_reducible refine Kd.C_drewN ?_ _) | (with_reducible refine Kd.C_drew ?_))); (case side2 => exact (Kd.R_reads' HO_5.out).2.1); rintro e w31 ⟨rfl, hb⟩; have n0_ := Aside0.mk (Kd.R_below (GS.rR HO_5.out) hb); have n1_ := Aside0.mk (Kd.R_below (GS.rR HO_28.out) hb); have n2_ := Aside0.mk (lqT (GS.lB HB.out) hb); clear HO_5; clear HO_28; clear HB; have HO_5 := n0_; have HO_28 := n1_; have HB := n2_; clear n0_ n1_ n2_; (try clear hb); (try clear hb2); (try clear hk); (try clear hi)))
        repeat (go_quiet (first | (go_at_call 28; (with_reducible refine (seal_Check.calls _ _ t496 t500 t501 _ ?side1 ?side2 A29.out).mono ?_); (case side1 => repeat (first | exact (Kd.R_reads' HO_5.out).2.2 | (with_reducible refine Kd.C_alloc ?_ _) | (with_reducible refine Kd.C_drewN ?_ _) | (with_reducible refine Kd.C_drew ?_))); (case side2 => exact (Kd.R_reads' HO_5.out).2.1); rintro e w31 ⟨rfl, hb⟩; have n0_ := Aside0.mk (Kd.R_below (GS.rR HO_5.out) hb); have n1_ := Aside0.mk (Kd.R_below (GS.rR HO_28.out) hb); have n2_ := Aside0.mk (lqT (GS.lB HB.out) hb); clear HO_5; clear HO_28; clear HB; have HO_5 := n0_; have HO_28 := n1_; have HB := n2_; clear n0_ n1_ n2_; (try clear hb); (try clear hb2); (try clear hk); (try clear hi))); try go_wp2_with (first | (go_at_call 28; (with_reducible refine (seal_Check.calls _ _ t496 t500 t501 _ ?side1 ?side2 A29.out).mono ?_); (case side1 => repeat (first | exact (Kd.R_reads' HO_5.out).2.2 | (with_reducible refine Kd.C_alloc ?_ _) | (with_reducible refine Kd.C_drewN ?_ _) | (with_reducible refine Kd.C_drew ?_))); (case side2 => exact (Kd.R_reads' HO_5.out).2.1); rintro e w31 ⟨rfl, hb⟩; have n0_ := Aside0.mk (Kd.R_below (GS.rR HO_5.out) hb); have n1_ := Aside0.mk (Kd.R_below (GS.rR HO_28.out) hb); have n2_ := Aside0.mk (lqT (GS.lB HB.out) hb); clear HO_5; clear HO_28; clear HB; have HO_5 := n0_; have HO_28 := n1_; have HB := n2_; clear n0_ n1_ n2_; (try clear hb); (try clear hb2); (try clear hk); (try clear hi))))
        go_ret
        exact ⟨by first | rfl | (simp [errW_none, errW_some] <;> rfl) | (simp [*, errW_none, errW_some] <;> rfl), GS.lB HB.out⟩
       ·rw [if_neg c30] at H
        exact absurd H (by simp)
   ·rw [if_neg c9] at H
    have c9b0 : (t497 == 0) = false := beq_eq_false_iff_ne.mpr c9
    try simp only [beq_self_eq_true, Bool.not_true, Bool.false_or, Bool.true_and] at c9b0
    have c9b1 : (t497 != 0) = true := bne_iff_ne.mpr c9
    obtain rfl := Option.some.inj H
    go_enter Try.func9, Try.ntmps9
    go_wp2_with (first | (go_at_call 10; (with_reducible refine (spilelaw39_awake.calls k  true _ A3.out).mono ?_); rintro e w32 ⟨rfl, hb⟩; have n0_ := Aside0.mk (lqT (GS.lB HB.out) hb); clear HB; have HB := n0_; clear n0_; (try clear hb); (try clear hb2); (try clear hk); (try clear hi)) | (go_at_call 14; (with_reducible refine (clone34.calls _ _ l0 t493 _ ?side1 ?side2 A7.out).mono ?_); (case side1 => exact GS.rC (Kd.C_below HR0.out HB.out)); (case side2 => exact HC0.out); rintro e w33 ⟨v494, rfl, ho0, hb⟩; have n0_ := Aside0.mk (Kd.R_lower ho0 (lqZ (GS.lB HB.out))); have n1_ := Aside0.mk (lqT (GS.lB HB.out) hb); clear HB; have HO495 := n0_; have HB := n1_; clear n0_ n1_; (try clear hb); (try clear hb2); (try clear hk); (try clear hi); (try clear ho0); obtain ⟨Ao34, co34, eo34⟩ := Kd.R_slice HO495.out; subst eo34) | (go_at_call 32; (with_reducible refine (seal_History.calls _ _ t493 a1 t496 t497 _ ?side1 ?side2 A8.out).mono ?_); (case side1 => repeat (first | exact (Kd.R_reads' HO495.out).2.2 | (with_reducible refine Kd.C_alloc ?_ _) | (with_reducible refine Kd.C_drewN ?_ _) | (with_reducible refine Kd.C_drew ?_))); (case side2 => exact (Kd.R_reads' HO495.out).2.1); rintro e w35 ⟨v498, rfl, ho0, hb⟩; have n0_ := Aside0.mk (Kd.R_elder' (GS.rR HO495.out) (Kd.R_base ho0) hb); have n1_ := Aside0.mk (Kd.R_lower (Kd.R_new' ho0 (Kd.R_lt (GS.rR HO495.out))) (lqZ (GS.lB HB.out))); have n2_ := Aside0.mk (lqT (GS.lB HB.out) hb); clear HO495; clear HB; have HO495 := n0_; have HO499 := n1_; have HB := n2_; clear n0_ n1_ n2_; (try clear hb); (try clear hb2); (try clear hk); (try clear hi); (try clear ho0); obtain ⟨Ao36, co36, eo36⟩ := Kd.R_slice HO499.out; subst eo36))
    repeat (go_quiet (first | (go_at_call 10; (with_reducible refine (spilelaw39_awake.calls k  true _ A3.out).mono ?_); rintro e w32 ⟨rfl, hb⟩; have n0_ := Aside0.mk (lqT (GS.lB HB.out) hb); clear HB; have HB := n0_; clear n0_; (try clear hb); (try clear hb2); (try clear hk); (try clear hi)) | (go_at_call 14; (with_reducible refine (clone34.calls _ _ l0 t493 _ ?side1 ?side2 A7.out).mono ?_); (case side1 => exact GS.rC (Kd.C_below HR0.out HB.out)); (case side2 => exact HC0.out); rintro e w33 ⟨v494, rfl, ho0, hb⟩; have n0_ := Aside0.mk (Kd.R_lower ho0 (lqZ (GS.lB HB.out))); have n1_ := Aside0.mk (lqT (GS.lB HB.out) hb); clear HB; have HO495 := n0_; have HB := n1_; clear n0_ n1_; (try clear hb); (try clear hb2); (try clear hk); (try clear hi); (try clear ho0); obtain ⟨Ao34, co34, eo34⟩ := Kd.R_slice HO495.out; subst eo34) | (go_at_call 32; (with_reducible refine (seal_History.calls _ _ t493 a1 t496 t497 _ ?side1 ?side2 A8.out).mono ?_); (case side1 => repeat (first | exact (Kd.R_reads' HO495.out).2.2 | (with_reducible refine Kd.C_alloc ?_ _) | (with_reducible refine Kd.C_drewN ?_ _) | (with_reducible refine Kd.C_drew ?_))); (case side2 => exact (Kd.R_reads' HO495.out).2.1); rintro e w35 ⟨v498, rfl, ho0, hb⟩; have n0_ := Aside0.mk (Kd.R_elder' (GS.rR HO495.out) (Kd.R_base ho0) hb); have n1_ := Aside0.mk (Kd.R_lower (Kd.R_new' ho0 (Kd.R_lt (GS.rR HO495.out))) (lqZ (GS.lB HB.out))); have n2_ := Aside0.mk (lqT (GS.lB HB.out) hb); clear HO495; clear HB; have HO495 := n0_; have HO499 := n1_; have HB := n2_; clear n0_ n1_ n2_; (try clear hb); (try clear hb2); (try clear hk); (try clear hi); (try clear ho0); obtain ⟨Ao36, co36, eo36⟩ := Kd.R_slice HO499.out; subst eo36)); try go_wp2_with (first | (go_at_call 10; (with_reducible refine (spilelaw39_awake.calls k  true _ A3.out).mono ?_); rintro e w32 ⟨rfl, hb⟩; have n0_ := Aside0.mk (lqT (GS.lB HB.out) hb); clear HB; have HB := n0_; clear n0_; (try clear hb); (try clear hb2); (try clear hk); (try clear hi)) | (go_at_call 14; (with_reducible refine (clone34.calls _ _ l0 t493 _ ?side1 ?side2 A7.out).mono ?_); (case side1 => exact GS.rC (Kd.C_below HR0.out HB.out)); (case side2 => exact HC0.out); rintro e w33 ⟨v494, rfl, ho0, hb⟩; have n0_ := Aside0.mk (Kd.R_lower ho0 (lqZ (GS.lB HB.out))); have n1_ := Aside0.mk (lqT (GS.lB HB.out) hb); clear HB; have HO495 := n0_; have HB := n1_; clear n0_ n1_; (try clear hb); (try clear hb2); (try clear hk); (try clear hi); (try clear ho0); obtain ⟨Ao34, co34, eo34⟩ := Kd.R_slice HO495.out; subst eo34) | (go_at_call 32; (with_reducible refine (seal_History.calls _ _ t493 a1 t496 t497 _ ?side1 ?side2 A8.out).mono ?_); (case side1 => repeat (first | exact (Kd.R_reads' HO495.out).2.2 | (with_reducible refine Kd.C_alloc ?_ _) | (with_reducible refine Kd.C_drewN ?_ _) | (with_reducible refine Kd.C_drew ?_))); (case side2 => exact (Kd.R_reads' HO495.out).2.1); rintro e w35 ⟨v498, rfl, ho0, hb⟩; have n0_ := Aside0.mk (Kd.R_elder' (GS.rR HO495.out) (Kd.R_base ho0) hb); have n1_ := Aside0.mk (Kd.R_lower (Kd.R_new' ho0 (Kd.R_lt (GS.rR HO495.out))) (lqZ (GS.lB HB.out))); have n2_ := Aside0.mk (lqT (GS.lB HB.out) hb); clear HO495; clear HB; have HO495 := n0_; have HO499 := n1_; have HB := n2_; clear n0_ n1_ n2_; (try clear hb); (try clear hb2); (try clear hk); (try clear hi); (try clear ho0); obtain ⟨Ao36, co36, eo36⟩ := Kd.R_slice HO499.out; subst eo36)))
    go_ret
    exact ⟨by first | rfl | (simp [errW_none, errW_some] <;> rfl) | (simp [*, errW_none, errW_some] <;> rfl), GS.lB HB.out⟩
 ·replace c4 := Bool.eq_false_iff.mpr c4
  subst c4
  have H1 : (none) = some r := by rw [if_neg (show ¬ (false = true) by decide)] at H; exact H
  clear H
  have H := H1
  clear H1
  exact absurd H (by simp)

end Go.Proofs.Ytfjenooajbdcmaa.K
