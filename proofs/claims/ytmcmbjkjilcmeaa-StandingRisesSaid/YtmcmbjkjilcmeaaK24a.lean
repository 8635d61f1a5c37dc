-- PRINTED by print.py (a twelfth state) out of the translation. Not trusted: Lean checks it.
import Derived.Test.YtmcmbjkjilcmeaaK0
import Derived.Test.YtmcmbjkjilcmeaaGShort
import Derived.Test.YtmcmbjkjilcmeaaGSym
import Derived.Test.YtmcmbjkjilcmeaaGPu
import Derived.Test.YtmcmbjkjilcmeaaGField
import Derived.Test.YtmcmbjkjilcmeaaK1
import Derived.Test.YtmcmbjkjilcmeaaK14
import Derived.Test.YtmcmbjkjilcmeaaK15
import Derived.Test.YtmcmbjkjilcmeaaK17
import Derived.Test.YtmcmbjkjilcmeaaK18
import Derived.Test.YtmcmbjkjilcmeaaK23
namespace Go.Proofs.Ytmcmbjkjilcmeaa.K
open Go.RowKit Go.Proofs.YtmcmbjkjilcmeaaW.PrintWords Go.Proofs.YtmcmbjkjilcmeaaW.PrintLast Go.Proofs.YtmcmbjkjilcmeaaW.PrintMore
attribute [local go_sem] max2_int min2_int max_two min_two max_three min_three max_four min_four   -- for this text's walks alone
set_option linter.unusedVariables false
set_option linter.unusedSimpArgs false

attribute [local go_sem high] eqA40
/-! ### spileref12_Space: function 44 -/
def spileref12_Space.f (a0_0 : Int) (a0_1 : Int) : Option (Int × Int) := (spileref10_Bounds.f a0_0).bind fun bt465 => ((spileref10_Bounds.f a0_1).bind fun bt467 => (some (bt465.1, bt467.2)))
def spileref12_Space.T1 : Bool × List (List Nat × List Nat) := (true, [([], []), ([0], [0]), ([1], [1]), ([2], [2]), ([], []), ([4], [4]), ([5, 2], [5]), ([6], [6]), ([3, 7], [3, 7]), ([8, 6, 0, 1, 2, 3, 4, 5, 6, 7, 8], [8])])
def spileref12_Space.B1 : List Nat := [0, 1, 3, 7, 0, 16, 55, 119, 255, 511]
theorem spileref12_Space.tab1 : rtab .any (opsOf Try.f44 1) = spileref12_Space.T1 := by kernel_rfl
theorem spileref12_Space.bits1 : waitsOk spileref12_Space.T1.2 spileref12_Space.B1 = true := by kernel_rfl
set_option maxHeartbeats 8000000 in
set_option maxRecDepth 100000 in
theorem spileref12_Space.calls (a0_0 : Int) (a0_1 : Int) (r1 : Int) (r2 : Int) (w : World) (h : spileref12_Space.f a0_0 a0_1 = some (r1, r2)) :
  Calls Try.prog 44 #[.agg #[.int .i64 a0_0, .int .i64 a0_1]] w fun e w' => e = .returned (.agg #[.int .i64 r1, .int .i64 r2]) ∧ Below w.heap.size w w' := by
 have hf40a := field40.1
 have hf40b := field40.2
 have hu40 := Try.underlying40
 have HB := Aside0.mk (Below.refl w.heap.size w)
 have H : ((spileref10_Bounds.f a0_0).bind fun bt465 => ((spileref10_Bounds.f a0_1).bind fun bt467 => (some (bt465.1, bt467.2)))) = some (r1, r2) := h
 clear h
 replace H := Option.bind_eq_some_iff.mp H
 obtain ⟨⟨t465, t466⟩, A20, H⟩ := H
 replace H : ((spileref10_Bounds.f a0_1).bind fun bt467 => (some (t465, bt467.2))) = some (r1, r2) := H
 have A2 := Aside0.mk A20
 clear A20
 replace H := Option.bind_eq_some_iff.mp H
 obtain ⟨⟨t467, t468⟩, A30, H⟩ := H
 replace H : (some (t465, t468)) = some (r1, r2) := H
 have A3 := Aside0.mk A30
 clear A30
 simp only [Option.some.injEq, Prod.mk.injEq] at H
 obtain ⟨rfl, rfl⟩ := H
 go_enter Try.func44, Try.ntmps44
 try go_wp2_with (first | ((with_reducible refine gqD (N := 1) rfl ?_); refine GS.bx (N := 1) (cs := #[.int .i64 a0_0, .int .i64 a0_1]) (t := 40) ?_; intro gb463 hg w4 hbox hb; have n0_ := Aside0.mk (lqT (GS.lB HB.out) hb); have n1_ := Aside0.mk (hbox); have n2_ := Aside0.mk ((by rw [hg]; exact (lqZ (GS.lB HB.out)) : w.heap.size ≤ gb463)); have n3_ := Aside0.mk ((by rw [hg]; exact (lqZ (GS.lB HB.out)) : w.heap.size ≤ gb463)); clear HB; have HB := n0_; have BK463 := n1_; have GW463 := n2_; have GE463 := n3_; clear n0_ n1_ n2_ n3_; clear hb hbox hg) | ((with_reducible refine gqD (N := 2) rfl ?_); refine GS.bx (N := 2) (cs := #[.int .i64 0, .int .i64 0]) (t := 40) ?_; intro gb464 hg w5 hbox hb; have n0_ := Aside0.mk (bqB (GS.bqX BK463.out) hb); have n1_ := Aside0.mk (lqT (GS.lB HB.out) hb); have n2_ := Aside0.mk (hbox); have n3_ := Aside0.mk ((by rw [hg]; exact (lqZ (GS.lB HB.out)) : w.heap.size ≤ gb464)); have n4_ := Aside0.mk ((by rw [hg]; exact (lqZ (GS.lB HB.out)) : w.heap.size ≤ gb464)); have n5_ := Aside0.mk ((by rw [hg]; exact Nat.ne_of_lt (blk_lt (GS.bqX BK463.out)) : gb463 ≠ gb464)); have n6_ := Aside0.mk ((by rw [hg]; exact Nat.ne_of_gt (blk_lt (GS.bqX BK463.out)) : gb464 ≠ gb463)); clear BK463; clear HB; have BK463 := n0_; have HB := n1_; have BK464 := n2_; have GW464 := n3_; have GE464 := n4_; have NB463_464 := n5_; have NB464_463 := n6_; clear n0_ n1_ n2_ n3_ n4_ n5_ n6_; clear hb hbox hg))
 have n0_ := Aside0.mk (bqD BK463.out)
 have n1_ := Aside0.mk (bqD BK464.out)
 have n2_ := Aside0.mk (lqD HB.out)
 clear BK463
 clear BK464
 clear HB
 have BK463 := n0_
 have BK464 := n1_
 have HB := n2_
 clear n0_ n1_ n2_
 refine start_ (n := 10) (S := fun w' => w'.cell? ⟨gb463, 0, none⟩ = some (.int .i64 a0_0) ∧ w'.cell? ⟨gb463, 1, none⟩ = some (.int .i64 a0_1)) (ds := []) #[false, false, false, false, false, false, false, false, false, false] (by kernel_rfl) rfl rfl ⟨(bqC BK463.out 0).trans rfl, (bqC BK463.out 1).trans rfl⟩ (fun hHeld => ?_); refine with_tabW spileref12_Space.tab1 spileref12_Space.bits1 (fun HT_ HW_ => ?_)
 generalize w5.drew = w6 at BK463 BK464 HB hHeld ⊢
 refine GS.pu 0 (some 3) HT_.out ?_
 refine GS.pu 4 (some 7) HT_.out ?_
 refine GS.tk 1 (some 4) HT_.out HW_.out hHeld ?_
 refine GS.tk 5 (some 8) HT_.out HW_.out hHeld ?_
 refine one_ (i := 2) (N := some 5) #[true, true, true, false, true, true, false, false, false, false] rfl rfl (one_of HT_.out (by kernel_rfl)) (by decide) (fun K hK => ?_)
 refine goes_ Try.func63 (by kernel_rfl) rfl #[.int .i64 a0_0] (by rfl) rfl rfl (by (try simp only [List.map_toArray, List.map_cons, List.map_nil]); first | done | rfl | (simp only [List.length_drop, List.length_take]; rfl)) ?_
 with_reducible refine (spileref10_Bounds.calls a0_0 t465 t466 _ A2.out).mono ?_
 rintro e w7 ⟨rfl, hb⟩
 refine ⟨_, rfl, ?_⟩
 have n0_ := Aside0.mk (bqB (GS.bqX BK463.out) hb)
 have n1_ := Aside0.mk (bqB (GS.bqX BK464.out) hb)
 have n2_ := Aside0.mk (lqT (GS.lB HB.out) hb)
 clear BK463
 clear BK464
 clear HB
 have BK463 := n0_
 have BK464 := n1_
 have HB := n2_
 clear n0_ n1_ n2_
 (try clear hb)
 (try clear hb2)
 (try clear hk)
 (try clear hi)
 refine hK.out _ _ ⟨(bqC BK463.out 0).trans rfl, (bqC BK463.out 1).trans rfl⟩ (fun hHeld => ?_)
 clear hK K
 refine norm_ (a' := ?_) ?_ ?_
 rotate_left
 ·show Act.put _ (some 5) _ = _
  simp only [Act.put, List.setIfInBounds_toArray, List.set_cons_zero, List.set_cons_succ, i64_w, i32_w]
  rfl
 refine GS.pu 3 (some 6) HT_.out ?_
 refine one_ (i := 6) (N := some 9) #[true, true, true, true, true, true, true, false, false, false] rfl rfl (one_of HT_.out (by kernel_rfl)) (by decide) (fun K hK => ?_)
 refine goes_ Try.func63 (by kernel_rfl) rfl #[.int .i64 a0_1] (by rfl) rfl rfl (by (try simp only [List.map_toArray, List.map_cons, List.map_nil]); first | done | rfl | (simp only [List.length_drop, List.length_take]; rfl)) ?_
 with_reducible refine (spileref10_Bounds.calls a0_1 t467 t468 _ A3.out).mono ?_
 rintro e w8 ⟨rfl, hb⟩
 refine ⟨_, rfl, ?_⟩
 have n0_ := Aside0.mk (bqB (GS.bqX BK463.out) hb)
 have n1_ := Aside0.mk (bqB (GS.bqX BK464.out) hb)
 have n2_ := Aside0.mk (lqT (GS.lB HB.out) hb)
 clear BK463
 clear BK464
 clear HB
 have BK463 := n0_
 have BK464 := n1_
 have HB := n2_
 clear n0_ n1_ n2_
 (try clear hb)
 (try clear hb2)
 (try clear hk)
 (try clear hi)
 refine hK.out _ _ ⟨(bqC BK463.out 0).trans rfl, (bqC BK463.out 1).trans rfl⟩ (fun hHeld => ?_)
 clear hK K
 refine norm_ (a' := ?_) ?_ ?_
 rotate_left
 ·show Act.put _ (some 9) _ = _
  simp only [Act.put, List.setIfInBounds_toArray, List.set_cons_zero, List.set_cons_succ, i64_w, i32_w]
  rfl
 refine GS.pu 7 (some 10) HT_.out ?_
 refine GS.pu 8 (some 11) HT_.out ?_
 refine one_ (i := 9) (N := none) #[true, true, true, true, true, true, true, true, true, true] rfl rfl (one_of HT_.out (by kernel_rfl)) (by decide) (fun K hK => ?_)
 have hs9 : w8.cell? ⟨gb464, 0, none⟩ = some (.int .i64 0) := (bqC BK464.out 0).trans rfl
 have hfs9 := bqF BK464.out 0
 have hns9_0 := NB463_464.out
 have hms9_0 := NB464_463.out
 have hs10 : w8.cell? ⟨gb464, 1, none⟩ = some (.int .i64 0) := (bqC BK464.out 1).trans rfl
 have hfs10 := bqF BK464.out 1
 have hns10_0 := NB463_464.out
 have hms10_0 := NB464_463.out
 refine skip_ (w1 := ?_) (by rfl) rfl ?_ ?_
 rotate_left
 ·go_simp
  rfl
 refine hK.out _ _ ⟨(GS.cf hHeld.1), (GS.cf hHeld.2)⟩ (fun hHeld => ?_)
 clear hK K
 refine done_ (done_of HT_.out (by kernel_rfl)) ?_
 try go_wp2
 refine bodyPost_ret (results_cell_row rfl _ _ gb464 40 #[.int .i64 t465, .int .i64 t468] (0, 0) _ rfl (GS.bqZ BK464.out) Try.underlying40 rfl (by kernel_rfl)) rfl ?_
 exact ⟨by first | rfl | (simp [errW_none, errW_some] <;> rfl) | (simp [*, errW_none, errW_some] <;> rfl), GS.lB HB.out⟩

/-! ### spileref12_Between: function 21 -/
def spileref12_Between.f (k : Nat) (a0_0 : ByteArray) (a0_1 : Int) (l0_2 : List (S33)) (a0_3 : Int) (l1 : List Int) : Option (Int × Int × Int) := (spileref12_Sums.f k a0_0 a0_1 l0_2 a0_3 l1).bind fun bt471 => (if bt471.2 = 0 then (if 0 ≤ (wrap64 ((bt471.1.length : Int) - 1)) then (if (wrap64 ((bt471.1.length : Int) - 1)) < (bt471.1.length : Int) then ((spileref12_Space.f ((rd_T40 bt471.1 (wrap64 ((bt471.1.length : Int) - 1))).f0) ((rd_T40 bt471.1 (wrap64 ((bt471.1.length : Int) - 1))).f1)).bind fun bt476 => (some (bt476.1, bt476.2, 0))) else (none)) else (none)) else (some (0, 0, bt471.2)))
theorem spileref12_Between.mono : ∀ a0 a1 a2 a3 a4 k, LeO (spileref12_Between.f k a0 a1 a2 a3 a4) (spileref12_Between.f (k + 1) a0 a1 a2 a3 a4) := by
 intro a0 a1 a2 a3 a4 k
 unfold spileref12_Between.f
 repeat' first
   | (with_reducible exact spileref12_Sums.mono _ _ _ _ _ _)
   | (with_reducible exact LeO.refl _)
   | (with_reducible exact LeO.none _)
   | (with_reducible refine LeO.ite ?_ ?_)
   | (with_reducible refine LeO.bind ?_ (fun _ => ?_))
   | exact spileref12_Sums.mono _ _ _ _ _ _
   | exact LeO.none _
   | refine LeO.ite ?_ ?_
   | refine LeO.bind ?_ (fun _ => ?_)
set_option maxHeartbeats 8000000 in
set_option maxRecDepth 100000 in
theorem spileref12_Between.calls (k : Nat) (a0_0 : ByteArray) (a0_1 : Int) (A0_2 : Option Addr) (c0_2 : Nat) (l0_2 : List (S33)) (a0_3 : Int) (A1 : Option Addr) (c1 : Nat) (l1 : List Int) (r1 : Int) (r2 : Int) (r3 : Int) (w : World) (hr0_2 : Kd.C k33 w A0_2 l0_2.length l0_2) (hc0_2 : l0_2.length ≤ c0_2) (hr1 : Kd.C (Kd.int .i64) w A1 l1.length l1) (hc1 : l1.length ≤ c1) (h : spileref12_Between.f k a0_0 a0_1 l0_2 a0_3 l1 = some (r1, r2, r3)) :
  Calls Try.prog 21 #[.agg #[.string a0_0, .int .i64 a0_1, .slice A0_2 l0_2.length c0_2, .int .i64 a0_3], .slice A1 l1.length c1] w fun e w' => e = .returned (.tuple #[.agg #[.int .i64 r1, .int .i64 r2], .int .i64 r3]) ∧ Below w.heap.size w w' := by
 have hu24 := Try.underlying24
 have hu40 := Try.underlying40
 have HR0_2 := Aside0.mk hr0_2
 have HC0_2 := Aside0.mk hc0_2
 clear hr0_2 hc0_2
 have HR1 := Aside0.mk hr1
 have HC1 := Aside0.mk hc1
 clear hr1 hc1
 have HB := Aside0.mk (Below.refl w.heap.size w)
 have H : ((spileref12_Sums.f k a0_0 a0_1 l0_2 a0_3 l1).bind fun bt471 => (if bt471.2 = 0 then (if 0 ≤ (wrap64 ((bt471.1.length : Int) - 1)) then (if (wrap64 ((bt471.1.length : Int) - 1)) < (bt471.1.length : Int) then ((spileref12_Space.f ((rd_T40 bt471.1 (wrap64 ((bt471.1.length : Int) - 1))).f0) ((rd_T40 bt471.1 (wrap64 ((bt471.1.length : Int) - 1))).f1)).bind fun bt476 => (some (bt476.1, bt476.2, 0))) else (none)) else (none)) else (some (0, 0, bt471.2)))) = some (r1, r2, r3) := h
 clear h
 replace H := Option.bind_eq_some_iff.mp H
 obtain ⟨⟨t471, t474⟩, A30, H⟩ := H
 replace H : (if t474 = 0 then (if 0 ≤ (wrap64 ((t471.length : Int) - 1)) then (if (wrap64 ((t471.length : Int) - 1)) < (t471.length : Int) then ((spileref12_Space.f ((rd_T40 t471 (wrap64 ((t471.length : Int) - 1))).f0) ((rd_T40 t471 (wrap64 ((t471.length : Int) - 1))).f1)).bind fun bt476 => (some (bt476.1, bt476.2, 0))) else (none)) else (none)) else (some (0, 0, t474))) = some (r1, r2, r3) := H
 have A3 := Aside0.mk A30
 clear A30
 by_cases c4 : t474 = 0
 ·rw [if_pos c4] at H
  have c4b0 : (t474 == 0) = true := beq_iff_eq.mpr c4
  try simp only [beq_self_eq_true, Bool.not_true, Bool.false_or, Bool.true_and] at c4b0
  have c4b1 : (t474 != 0) = false := bne_eq_false_iff_eq.mpr c4
  clear c4
  obtain ⟨ji5, hji5⟩ : ∃ j_ : Int, (wrap64 ((t471.length : Int) - 1)) = j_ := ⟨_, rfl⟩
  replace H : (if 0 ≤ (ji5) then (if (ji5) < (t471.length : Int) then ((spileref12_Space.f ((rd_T40 t471 (ji5)).f0) ((rd_T40 t471 (ji5)).f1)).bind fun bt476 => (some (bt476.1, bt476.2, 0))) else (none)) else (none)) = some (r1, r2, r3) := by first | (rw [hji5] at H; exact H) | (simp only [hji5] at H ⊢; exact H)
  (try rw [hji5] at A3)
  have hji5w : (IntKind.i64.wrap ((t471.length : Int) - 1)) = ji5 := (i64_w _).trans hji5
  by_cases c6 : 0 ≤ (ji5)
  ·rw [if_pos c6] at H
   have c6b0 : decide (0 ≤ (ji5)) = true := decide_eq_true c6
   clear c6
   by_cases c7 : (ji5) < (t471.length : Int)
   ·rw [if_pos c7] at H
    have c7b0 : decide ((ji5) < (t471.length : Int)) = true := decide_eq_true c7
    clear c7
    replace H := Option.bind_eq_some_iff.mp H
    obtain ⟨⟨t476, t477⟩, A80, H⟩ := H
    replace H : (some (t476, t477, 0)) = some (r1, r2, r3) := H
    have A8 := Aside0.mk A80
    clear A80
    simp only [Option.some.injEq, Prod.mk.injEq] at H
    obtain ⟨rfl, rfl, rfl⟩ := H
    go_enter Try.func21, Try.ntmps21
    go_wp2_with (first | ((with_reducible refine gqD (N := 2) rfl ?_); refine GS.bx (N := 2) (cs := #[.string a0_0, .int .i64 a0_1, .slice A0_2 l0_2.length c0_2, .int .i64 a0_3]) (t := 24) ?_; intro gb469 hg w9 hbox hb; have n0_ := Aside0.mk (lqT (GS.lB HB.out) hb); have n1_ := Aside0.mk (hbox); have n2_ := Aside0.mk ((by rw [hg]; exact (lqZ (GS.lB HB.out)) : w.heap.size ≤ gb469)); have n3_ := Aside0.mk ((by rw [hg]; exact (lqZ (GS.lB HB.out)) : w.heap.size ≤ gb469)); clear HB; have HB := n0_; have BK469 := n1_; have GW469 := n2_; have GE469 := n3_; clear n0_ n1_ n2_ n3_; clear hb hbox hg) | ((with_reducible refine gqD (N := 4) rfl ?_); refine GS.bx (N := 4) (cs := #[.int .i64 0, .int .i64 0]) (t := 40) ?_; intro gb470 hg w10 hbox hb; have n0_ := Aside0.mk (bqB (GS.bqX BK469.out) hb); have n1_ := Aside0.mk (lqT (GS.lB HB.out) hb); have n2_ := Aside0.mk (hbox); have n3_ := Aside0.mk ((by rw [hg]; exact (lqZ (GS.lB HB.out)) : w.heap.size ≤ gb470)); have n4_ := Aside0.mk ((by rw [hg]; exact (lqZ (GS.lB HB.out)) : w.heap.size ≤ gb470)); have n5_ := Aside0.mk ((by rw [hg]; exact Nat.ne_of_lt (blk_lt (GS.bqX BK469.out)) : gb469 ≠ gb470)); have n6_ := Aside0.mk ((by rw [hg]; exact Nat.ne_of_gt (blk_lt (GS.bqX BK469.out)) : gb470 ≠ gb469)); clear BK469; clear HB; have BK469 := n0_; have HB := n1_; have BK470 := n2_; have GW470 := n3_; have GE470 := n4_; have NB469_470 := n5_; have NB470_469 := n6_; clear n0_ n1_ n2_ n3_ n4_ n5_ n6_; clear hb hbox hg; have hnb11 := NB469_470.out; have hnc11 := NB470_469.out; obtain ⟨hcz12_0, hcz12_1, hcz12_2, hcz12_3, hfz12_0, hfz12_1, hfz12_2, hfz12_3⟩ := GS.c4 BK469.out) | ((with_reducible refine gqC (f := 23) rfl ?_); refine GS.gL (some 11) Try.func23 #[.agg #[.string a0_0, .int .i64 a0_1, .slice A0_2 l0_2.length c0_2, .int .i64 a0_3], .slice A1 l1.length c1] ?_; (with_reducible refine (spileref12_Sums.calls k a0_0 a0_1 _ _ l0_2 a0_3 _ _ l1 t471 t474 _ ?side1 ?side2 ?side3 ?side4 A3.out).mono ?_); (case side1 => exact GS.rC (Kd.C_below HR0_2.out HB.out)); (case side2 => exact HC0_2.out); (case side3 => exact GS.rC (Kd.C_below HR1.out HB.out)); (case side4 => exact HC1.out); rintro e w13 ⟨v472, rfl, ho0, hb⟩; refine ⟨_, rfl, ?_⟩; have n0_ := Aside0.mk (Kd.R_lower (Kd.R_newB ho0 (GS.bqX BK470.out)) (lqZ (GS.lB HB.out))); have n1_ := Aside0.mk (bqB (GS.bqX BK469.out) hb); have n2_ := Aside0.mk (bqB (GS.bqX BK470.out) hb); have n3_ := Aside0.mk (lqT (GS.lB HB.out) hb); clear BK469; clear BK470; clear HB; have HO473 := n0_; have BK469 := n1_; have BK470 := n2_; have HB := n3_; clear n0_ n1_ n2_ n3_; (try clear hb); (try clear hb2); (try clear hk); (try clear hi); (try clear ho0); obtain ⟨Ao14, co14, eo14⟩ := Kd.R_slice HO473.out; subst eo14; have p475 : 0 ≤ ((ji5) : Int) := of_decide_eq_true (by first | (with_reducible assumption) | assumption); have q475 : (ji5) < (t471.length : Int) := of_decide_eq_true (by first | (with_reducible assumption) | assumption); obtain ⟨ad475, e475, hx475_0, hx475_1⟩ := at_T40 (Kd.R_reads' HO473.out).2.2 (ji5) p475 q475; cases e475; replace p475 := eq_true p475; replace q475 := eq_true q475) | ((with_reducible refine gqC (f := 44) rfl ?_); refine goesL_ (some 24) rfl rfl Try.func44 (by kernel_rfl) rfl #[.agg #[.int .i64 ((rd_T40 t471 (ji5)).f0), .int .i64 ((rd_T40 t471 (ji5)).f1)]] rfl (by (try simp only [List.map_toArray, List.map_cons, List.map_nil]); first | done | (go_simp; done) | (simp only [hji5]; rfl) | rfl | (simp only [List.length_drop, List.length_take]; rfl)) ?_; (with_reducible refine (spileref12_Space.calls ((rd_T40 t471 (ji5)).f0) ((rd_T40 t471 (ji5)).f1) t476 t477 _ A8.out).mono ?_); rintro e w15 ⟨rfl, hb⟩; refine ⟨_, rfl, ?_⟩; have n0_ := Aside0.mk (Kd.R_below (GS.rR HO473.out) hb); have n1_ := Aside0.mk (bqB (GS.bqX BK469.out) hb); have n2_ := Aside0.mk (bqB (GS.bqX BK470.out) hb); have n3_ := Aside0.mk (lqT (GS.lB HB.out) hb); clear HO473; clear BK469; clear BK470; clear HB; have HO473 := n0_; have BK469 := n1_; have BK470 := n2_; have HB := n3_; clear n0_ n1_ n2_ n3_; (try clear hb); (try clear hb2); (try clear hk); (try clear hi); obtain ⟨hcz16_0, hcz16_1, hfz16_0, hfz16_1⟩ := GS.c2 BK470.out))
    refine bodyPost_ret (results_ct rfl _ _ gb470 40 #[.int .i64 t476, .int .i64 t477] (0, 0) _ rfl (GS.bqZ BK470.out) Try.underlying40 rfl (by kernel_rfl)) rfl ?_
    exact ⟨by first | rfl | (simp [errW_none, errW_some] <;> rfl) | (simp only [← hji5]; first | rfl | (simp [errW_none, errW_some] <;> rfl)) | (simp [*, errW_none, errW_some] <;> rfl), GS.lB HB.out⟩
   ·rw [if_neg c7] at H
    exact absurd H (by simp)
  ·rw [if_neg c6] at H
   exact absurd H (by simp)
 ·rw [if_neg c4] at H
  have c4b0 : (t474 == 0) = false := beq_eq_false_iff_ne.mpr c4
  try simp only [beq_self_eq_true, Bool.not_true, Bool.false_or, Bool.true_and] at c4b0
  have c4b1 : (t474 != 0) = true := bne_iff_ne.mpr c4
  simp only [Option.some.injEq, Prod.mk.injEq] at H
  obtain ⟨rfl, rfl, rfl⟩ := H
  go_enter Try.func21, Try.ntmps21
  go_wp2_with (first | ((with_reducible refine gqD (N := 2) rfl ?_); refine GS.bx (N := 2) (cs := #[.string a0_0, .int .i64 a0_1, .slice A0_2 l0_2.length c0_2, .int .i64 a0_3]) (t := 24) ?_; intro gb469 hg w17 hbox hb; have n0_ := Aside0.mk (lqT (GS.lB HB.out) hb); have n1_ := Aside0.mk (hbox); have n2_ := Aside0.mk ((by rw [hg]; exact (lqZ (GS.lB HB.out)) : w.heap.size ≤ gb469)); have n3_ := Aside0.mk ((by rw [hg]; exact (lqZ (GS.lB HB.out)) : w.heap.size ≤ gb469)); clear HB; have HB := n0_; have BK469 := n1_; have GW469 := n2_; have GE469 := n3_; clear n0_ n1_ n2_ n3_; clear hb hbox hg) | ((with_reducible refine gqD (N := 4) rfl ?_); refine GS.bx (N := 4) (cs := #[.int .i64 0, .int .i64 0]) (t := 40) ?_; intro gb470 hg w18 hbox hb; have n0_ := Aside0.mk (bqB (GS.bqX BK469.out) hb); have n1_ := Aside0.mk (lqT (GS.lB HB.out) hb); have n2_ := Aside0.mk (hbox); have n3_ := Aside0.mk ((by rw [hg]; exact (lqZ (GS.lB HB.out)) : w.heap.size ≤ gb470)); have n4_ := Aside0.mk ((by rw [hg]; exact (lqZ (GS.lB HB.out)) : w.heap.size ≤ gb470)); have n5_ := Aside0.mk ((by rw [hg]; exact Nat.ne_of_lt (blk_lt (GS.bqX BK469.out)) : gb469 ≠ gb470)); have n6_ := Aside0.mk ((by rw [hg]; exact Nat.ne_of_gt (blk_lt (GS.bqX BK469.out)) : gb470 ≠ gb469)); clear BK469; clear HB; have BK469 := n0_; have HB := n1_; have BK470 := n2_; have GW470 := n3_; have GE470 := n4_; have NB469_470 := n5_; have NB470_469 := n6_; clear n0_ n1_ n2_ n3_ n4_ n5_ n6_; clear hb hbox hg; have hnb19 := NB469_470.out; have hnc19 := NB470_469.out; obtain ⟨hcz20_0, hcz20_1, hcz20_2, hcz20_3, hfz20_0, hfz20_1, hfz20_2, hfz20_3⟩ := GS.c4 BK469.out) | ((with_reducible refine gqC (f := 23) rfl ?_); refine GS.gL (some 11) Try.func23 #[.agg #[.string a0_0, .int .i64 a0_1, .slice A0_2 l0_2.length c0_2, .int .i64 a0_3], .slice A1 l1.length c1] ?_; (with_reducible refine (spileref12_Sums.calls k a0_0 a0_1 _ _ l0_2 a0_3 _ _ l1 t471 t474 _ ?side1 ?side2 ?side3 ?side4 A3.out).mono ?_); (case side1 => exact GS.rC (Kd.C_below HR0_2.out HB.out)); (case side2 => exact HC0_2.out); (case side3 => exact GS.rC (Kd.C_below HR1.out HB.out)); (case side4 => exact HC1.out); rintro e w21 ⟨v472, rfl, ho0, hb⟩; refine ⟨_, rfl, ?_⟩; have n0_ := Aside0.mk (Kd.R_lower (Kd.R_newB ho0 (GS.bqX BK470.out)) (lqZ (GS.lB HB.out))); have n1_ := Aside0.mk (bqB (GS.bqX BK469.out) hb); have n2_ := Aside0.mk (bqB (GS.bqX BK470.out) hb); have n3_ := Aside0.mk (lqT (GS.lB HB.out) hb); clear BK469; clear BK470; clear HB; have HO473 := n0_; have BK469 := n1_; have BK470 := n2_; have HB := n3_; clear n0_ n1_ n2_ n3_; (try clear hb); (try clear hb2); (try clear hk); (try clear hi); (try clear ho0); obtain ⟨hcz22_0, hcz22_1, hfz22_0, hfz22_1⟩ := GS.c2 BK470.out))
  refine bodyPost_ret (results_ct rfl _ _ gb470 40 #[.int .i64 0, .int .i64 0] (0, 0) _ rfl (GS.bqZ BK470.out) Try.underlying40 rfl (by kernel_rfl)) rfl ?_
  exact ⟨by first | rfl | (simp [errW_none, errW_some] <;> rfl) | (simp [*, errW_none, errW_some] <;> rfl), GS.lB HB.out⟩

/-! ### spileref12_Wet: function 26 -/
def spileref12_Wet.f (k : Nat) (a0_0 : ByteArray) (a0_1 : Int) (l0_2 : List (S33)) (a0_3 : Int) (a1 : Int) (a2 : Int) : Option (Int × Int × Int) := (spileref12_is.f k a0_0 a0_1 l0_2 a0_3).bind fun t518 => (if t518 = 0 then ((spileref12_Levels.f k l0_2 a1 a2).bind fun bt519 => (if bt519.2 = 0 then (if a1 = 0 then (some (0, 0, bt519.2)) else ((spileref12_Between.f k a0_0 a0_1 l0_2 a0_3 bt519.1).bind fun bt523 => (some (bt523.1, bt523.2.1, bt523.2.2)))) else (some (0, 0, bt519.2)))) else (some (0, 0, t518)))
theorem spileref12_Wet.mono : ∀ a0 a1 a2 a3 a4 a5 k, LeO (spileref12_Wet.f k a0 a1 a2 a3 a4 a5) (spileref12_Wet.f (k + 1) a0 a1 a2 a3 a4 a5) := by
 intro a0 a1 a2 a3 a4 a5 k
 unfold spileref12_Wet.f
 repeat' first
   | (with_reducible exact spileref12_Between.mono _ _ _ _ _ _)
   | (with_reducible exact spileref12_Levels.mono _ _ _ _)
   | (with_reducible exact spileref12_is.mono _ _ _ _ _)
   | (with_reducible exact LeO.refl _)
   | (with_reducible exact LeO.none _)
   | (with_reducible refine LeO.ite ?_ ?_)
   | (with_reducible refine LeO.bind ?_ (fun _ => ?_))
   | exact spileref12_Between.mono _ _ _ _ _ _
   | exact spileref12_Levels.mono _ _ _ _
   | exact spileref12_is.mono _ _ _ _ _
   | exact LeO.none _
   | refine LeO.ite ?_ ?_
   | refine LeO.bind ?_ (fun _ => ?_)
set_option maxHeartbeats 8000000 in
set_option maxRecDepth 100000 in
theorem spileref12_Wet.calls (k : Nat) (a0_0 : ByteArray) (a0_1 : Int) (A0_2 : Option Addr) (c0_2 : Nat) (l0_2 : List (S33)) (a0_3 : Int) (a1 : Int) (a2 : Int) (r1 : Int) (r2 : Int) (r3 : Int) (w : World) (hr0_2 : Kd.C k33 w A0_2 l0_2.length l0_2) (hc0_2 : l0_2.length ≤ c0_2) (h : spileref12_Wet.f k a0_0 a0_1 l0_2 a0_3 a1 a2 = some (r1, r2, r3)) :
  Calls Try.prog 26 #[.agg #[.string a0_0, .int .i64 a0_1, .slice A0_2 l0_2.length c0_2, .int .i64 a0_3], .int .i64 a1, .int .i64 a2] w fun e w' => e = .returned (.tuple #[.agg #[.int .i64 r1, .int .i64 r2], .int .i64 r3]) ∧ Below w.heap.size w w' := by
 have hu24 := Try.underlying24
 have hu40 := Try.underlying40
 have HR0_2 := Aside0.mk hr0_2
 have HC0_2 := Aside0.mk hc0_2
 clear hr0_2 hc0_2
 have HB := Aside0.mk (Below.refl w.heap.size w)
 have H : ((spileref12_is.f k a0_0 a0_1 l0_2 a0_3).bind fun t518 => (if t518 = 0 then ((spileref12_Levels.f k l0_2 a1 a2).bind fun bt519 => (if bt519.2 = 0 then (if a1 = 0 then (some (0, 0, bt519.2)) else ((spileref12_Between.f k a0_0 a0_1 l0_2 a0_3 bt519.1).bind fun bt523 => (some (bt523.1, bt523.2.1, bt523.2.2)))) else (some (0, 0, bt519.2)))) else (some (0, 0, t518)))) = some (r1, r2, r3) := h
 clear h
 replace H := Option.bind_eq_some_iff.mp H
 obtain ⟨t518, A40, H⟩ := H
 replace H : (if t518 = 0 then ((spileref12_Levels.f k l0_2 a1 a2).bind fun bt519 => (if bt519.2 = 0 then (if a1 = 0 then (some (0, 0, bt519.2)) else ((spileref12_Between.f k a0_0 a0_1 l0_2 a0_3 bt519.1).bind fun bt523 => (some (bt523.1, bt523.2.1, bt523.2.2)))) else (some (0, 0, bt519.2)))) else (some (0, 0, t518))) = some (r1, r2, r3) := H
 have A4 := Aside0.mk A40
 clear A40
 by_cases c5 : t518 = 0
 ·rw [if_pos c5] at H
  have c5b0 : (t518 == 0) = true := beq_iff_eq.mpr c5
  try simp only [beq_self_eq_true, Bool.not_true, Bool.false_or, Bool.true_and] at c5b0
  have c5b1 : (t518 != 0) = false := bne_eq_false_iff_eq.mpr c5
  clear c5
  replace H := Option.bind_eq_some_iff.mp H
  obtain ⟨⟨t519, t520⟩, A60, H⟩ := H
  replace H : (if t520 = 0 then (if a1 = 0 then (some (0, 0, t520)) else ((spileref12_Between.f k a0_0 a0_1 l0_2 a0_3 t519).bind fun bt523 => (some (bt523.1, bt523.2.1, bt523.2.2)))) else (some (0, 0, t520))) = some (r1, r2, r3) := H
  have A6 := Aside0.mk A60
  clear A60
  by_cases c7 : t520 = 0
  ·rw [if_pos c7] at H
   have c7b0 : (t520 == 0) = true := beq_iff_eq.mpr c7
   try simp only [beq_self_eq_true, Bool.not_true, Bool.false_or, Bool.true_and] at c7b0
   have c7b1 : (t520 != 0) = false := bne_eq_false_iff_eq.mpr c7
   clear c7
   by_cases c8 : a1 = 0
   ·rw [if_pos c8] at H
    have c8b0 : (a1 == 0) = true := beq_iff_eq.mpr c8
    try simp only [beq_self_eq_true, Bool.not_true, Bool.false_or, Bool.true_and] at c8b0
    have c8b1 : (a1 != 0) = false := bne_eq_false_iff_eq.mpr c8
    clear c8
    simp only [Option.some.injEq, Prod.mk.injEq] at H
    obtain ⟨rfl, rfl, rfl⟩ := H
    go_enter Try.func26, Try.ntmps26
    go_wp2_with (first | ((with_reducible refine gqD (N := 3) rfl ?_); refine GS.bx (N := 3) (cs := #[.string a0_0, .int .i64 a0_1, .slice A0_2 l0_2.length c0_2, .int .i64 a0_3]) (t := 24) ?_; intro gb516 hg w9 hbox hb; have n0_ := Aside0.mk (lqT (GS.lB HB.out) hb); have n1_ := Aside0.mk (hbox); have n2_ := Aside0.mk ((by rw [hg]; exact (lqZ (GS.lB HB.out)) : w.heap.size ≤ gb516)); have n3_ := Aside0.mk ((by rw [hg]; exact (lqZ (GS.lB HB.out)) : w.heap.size ≤ gb516)); clear HB; have HB := n0_; have BK516 := n1_; have GW516 := n2_; have GE516 := n3_; clear n0_ n1_ n2_ n3_; clear hb hbox hg) | ((with_reducible refine gqD (N := 6) rfl ?_); refine GS.bx (N := 6) (cs := #[.int .i64 0, .int .i64 0]) (t := 40) ?_; intro gb517 hg w10 hbox hb; have n0_ := Aside0.mk (bqB (GS.bqX BK516.out) hb); have n1_ := Aside0.mk (lqT (GS.lB HB.out) hb); have n2_ := Aside0.mk (hbox); have n3_ := Aside0.mk ((by rw [hg]; exact (lqZ (GS.lB HB.out)) : w.heap.size ≤ gb517)); have n4_ := Aside0.mk ((by rw [hg]; exact (lqZ (GS.lB HB.out)) : w.heap.size ≤ gb517)); have n5_ := Aside0.mk ((by rw [hg]; exact Nat.ne_of_lt (blk_lt (GS.bqX BK516.out)) : gb516 ≠ gb517)); have n6_ := Aside0.mk ((by rw [hg]; exact Nat.ne_of_gt (blk_lt (GS.bqX BK516.out)) : gb517 ≠ gb516)); clear BK516; clear HB; have BK516 := n0_; have HB := n1_; have BK517 := n2_; have GW517 := n3_; have GE517 := n4_; have NB516_517 := n5_; have NB517_516 := n6_; clear n0_ n1_ n2_ n3_ n4_ n5_ n6_; clear hb hbox hg; have hnb11 := NB516_517.out; have hnc11 := NB517_516.out; obtain ⟨hcz12_0, hcz12_1, hcz12_2, hcz12_3, hfz12_0, hfz12_1, hfz12_2, hfz12_3⟩ := GS.c4 BK516.out) | ((with_reducible refine gqC (f := 40) rfl ?_); refine GS.gL (some 12) Try.func40 #[.agg #[.string a0_0, .int .i64 a0_1, .slice A0_2 l0_2.length c0_2, .int .i64 a0_3]] ?_; (with_reducible refine (spileref12_is.calls k a0_0 a0_1 _ _ l0_2 a0_3 t518 _ ?side1 ?side2 A4.out).mono ?_); (case side1 => exact GS.rC (Kd.C_below HR0_2.out HB.out)); (case side2 => exact HC0_2.out); rintro e w13 ⟨rfl, hb⟩; refine ⟨_, rfl, ?_⟩; have n0_ := Aside0.mk (bqB (GS.bqX BK516.out) hb); have n1_ := Aside0.mk (bqB (GS.bqX BK517.out) hb); have n2_ := Aside0.mk (lqT (GS.lB HB.out) hb); clear BK516; clear BK517; clear HB; have BK516 := n0_; have BK517 := n1_; have HB := n2_; clear n0_ n1_ n2_; (try clear hb); (try clear hb2); (try clear hk); (try clear hi); obtain ⟨hcz14_0, hcz14_1, hcz14_2, hcz14_3, hfz14_0, hfz14_1, hfz14_2, hfz14_3⟩ := GS.c4 BK516.out) | ((with_reducible refine gqC (f := 14) rfl ?_); refine GS.gL (some 22) Try.func14 #[.slice A0_2 l0_2.length c0_2, .int .i64 a1, .int .i64 a2] ?_; (with_reducible refine (spileref12_Levels.calls k _ _ l0_2 a1 a2 t519 t520 _ ?side1 ?side2 A6.out).mono ?_); (case side1 => exact GS.rC (Kd.C_below HR0_2.out HB.out)); (case side2 => exact HC0_2.out); rintro e w15 ⟨v521, rfl, ho0, hb⟩; refine ⟨_, rfl, ?_⟩; have n0_ := Aside0.mk (Kd.R_lower ho0 (lqZ (GS.lB HB.out))); have n1_ := Aside0.mk (bqB (GS.bqX BK516.out) hb); have n2_ := Aside0.mk (bqB (GS.bqX BK517.out) hb); have n3_ := Aside0.mk (lqT (GS.lB HB.out) hb); clear BK516; clear BK517; clear HB; have HO522 := n0_; have BK516 := n1_; have BK517 := n2_; have HB := n3_; clear n0_ n1_ n2_ n3_; (try clear hb); (try clear hb2); (try clear hk); (try clear hi); (try clear ho0); obtain ⟨hcz16_0, hcz16_1, hfz16_0, hfz16_1⟩ := GS.c2 BK517.out))
    refine bodyPost_ret (results_ct rfl _ _ gb517 40 #[.int .i64 0, .int .i64 0] (0, 0) _ rfl (GS.bqZ BK517.out) Try.underlying40 rfl (by kernel_rfl)) rfl ?_
    exact ⟨by first | rfl | (simp [errW_none, errW_some] <;> rfl) | (simp [*, errW_none, errW_some] <;> rfl), GS.lB HB.out⟩
   ·rw [if_neg c8] at H
    have c8b0 : (a1 == 0) = false := beq_eq_false_iff_ne.mpr c8
    try simp only [beq_self_eq_true, Bool.not_true, Bool.false_or, Bool.true_and] at c8b0
    have c8b1 : (a1 != 0) = true := bne_iff_ne.mpr c8
    replace H := Option.bind_eq_some_iff.mp H
    obtain ⟨⟨t523, t524, t525⟩, A170, H⟩ := H
    replace H : (some (t523, t524, t525)) = some (r1, r2, r3) := H
    have A17 := Aside0.mk A170
    clear A170
    simp only [Option.some.injEq, Prod.mk.injEq] at H
    obtain ⟨rfl, rfl, rfl⟩ := H
    go_enter Try.func26, Try.ntmps26
    go_wp2_with (first | ((with_reducible refine gqD (N := 3) rfl ?_); refine GS.bx (N := 3) (cs := #[.string a0_0, .int .i64 a0_1, .slice A0_2 l0_2.length c0_2, .int .i64 a0_3]) (t := 24) ?_; intro gb516 hg w18 hbox hb; have n0_ := Aside0.mk (lqT (GS.lB HB.out) hb); have n1_ := Aside0.mk (hbox); have n2_ := Aside0.mk ((by rw [hg]; exact (lqZ (GS.lB HB.out)) : w.heap.size ≤ gb516)); have n3_ := Aside0.mk ((by rw [hg]; exact (lqZ (GS.lB HB.out)) : w.heap.size ≤ gb516)); clear HB; have HB := n0_; have BK516 := n1_; have GW516 := n2_; have GE516 := n3_; clear n0_ n1_ n2_ n3_; clear hb hbox hg) | ((with_reducible refine gqD (N := 6) rfl ?_); refine GS.bx (N := 6) (cs := #[.int .i64 0, .int .i64 0]) (t := 40) ?_; intro gb517 hg w19 hbox hb; have n0_ := Aside0.mk (bqB (GS.bqX BK516.out) hb); have n1_ := Aside0.mk (lqT (GS.lB HB.out) hb); have n2_ := Aside0.mk (hbox); have n3_ := Aside0.mk ((by rw [hg]; exact (lqZ (GS.lB HB.out)) : w.heap.size ≤ gb517)); have n4_ := Aside0.mk ((by rw [hg]; exact (lqZ (GS.lB HB.out)) : w.heap.size ≤ gb517)); have n5_ := Aside0.mk ((by rw [hg]; exact Nat.ne_of_lt (blk_lt (GS.bqX BK516.out)) : gb516 ≠ gb517)); have n6_ := Aside0.mk ((by rw [hg]; exact Nat.ne_of_gt (blk_lt (GS.bqX BK516.out)) : gb517 ≠ gb516)); clear BK516; clear HB; have BK516 := n0_; have HB := n1_; have BK517 := n2_; have GW517 := n3_; have GE517 := n4_; have NB516_517 := n5_; have NB517_516 := n6_; clear n0_ n1_ n2_ n3_ n4_ n5_ n6_; clear hb hbox hg; have hnb20 := NB516_517.out; have hnc20 := NB517_516.out; obtain ⟨hcz21_0, hcz21_1, hcz21_2, hcz21_3, hfz21_0, hfz21_1, hfz21_2, hfz21_3⟩ := GS.c4 BK516.out) | ((with_reducible refine gqC (f := 40) rfl ?_); refine GS.gL (some 12) Try.func40 #[.agg #[.string a0_0, .int .i64 a0_1, .slice A0_2 l0_2.length c0_2, .int .i64 a0_3]] ?_; (with_reducible refine (spileref12_is.calls k a0_0 a0_1 _ _ l0_2 a0_3 t518 _ ?side1 ?side2 A4.out).mono ?_); (case side1 => exact GS.rC (Kd.C_below HR0_2.out HB.out)); (case side2 => exact HC0_2.out); rintro e w22 ⟨rfl, hb⟩; refine ⟨_, rfl, ?_⟩; have n0_ := Aside0.mk (bqB (GS.bqX BK516.out) hb); have n1_ := Aside0.mk (bqB (GS.bqX BK517.out) hb); have n2_ := Aside0.mk (lqT (GS.lB HB.out) hb); clear BK516; clear BK517; clear HB; have BK516 := n0_; have BK517 := n1_; have HB := n2_; clear n0_ n1_ n2_; (try clear hb); (try clear hb2); (try clear hk); (try clear hi); obtain ⟨hcz23_0, hcz23_1, hcz23_2, hcz23_3, hfz23_0, hfz23_1, hfz23_2, hfz23_3⟩ := GS.c4 BK516.out) | ((with_reducible refine gqC (f := 14) rfl ?_); refine GS.gL (some 22) Try.func14 #[.slice A0_2 l0_2.length c0_2, .int .i64 a1, .int .i64 a2] ?_; (with_reducible refine (spileref12_Levels.calls k _ _ l0_2 a1 a2 t519 t520 _ ?side1 ?side2 A6.out).mono ?_); (case side1 => exact GS.rC (Kd.C_below HR0_2.out HB.out)); (case side2 => exact HC0_2.out); rintro e w24 ⟨v521, rfl, ho0, hb⟩; refine ⟨_, rfl, ?_⟩; have n0_ := Aside0.mk (Kd.R_lower ho0 (lqZ (GS.lB HB.out))); have n1_ := Aside0.mk (bqB (GS.bqX BK516.out) hb); have n2_ := Aside0.mk (bqB (GS.bqX BK517.out) hb); have n3_ := Aside0.mk (lqT (GS.lB HB.out) hb); clear BK516; clear BK517; clear HB; have HO522 := n0_; have BK516 := n1_; have BK517 := n2_; have HB := n3_; clear n0_ n1_ n2_ n3_; (try clear hb); (try clear hb2); (try clear hk); (try clear hi); (try clear ho0); obtain ⟨hcz25_0, hcz25_1, hcz25_2, hcz25_3, hfz25_0, hfz25_1, hfz25_2, hfz25_3⟩ := GS.c4 BK516.out; obtain ⟨Ao26, co26, eo26⟩ := Kd.R_slice HO522.out; subst eo26) | ((with_reducible refine gqC (f := 21) rfl ?_); refine GS.gL (some 35) Try.func21 #[.agg #[.string a0_0, .int .i64 a0_1, .slice A0_2 l0_2.length c0_2, .int .i64 a0_3], .slice Ao26 t519.length co26] ?_; (with_reducible refine (spileref12_Between.calls k a0_0 a0_1 _ _ l0_2 a0_3 _ _ t519 t523 t524 t525 _ ?side1 ?side2 ?side3 ?side4 A17.out).mono ?_); (case side1 => exact GS.rC (Kd.C_below HR0_2.out HB.out)); (case side2 => exact HC0_2.out); (case side3 => repeat (first | exact (Kd.R_reads' HO522.out).2.2 | (with_reducible refine Kd.C_alloc ?_ _) | (with_reducible refine Kd.C_drewN ?_ _) | (with_reducible refine Kd.C_drew ?_))); (case side4 => exact (Kd.R_reads' HO522.out).2.1); rintro e w27 ⟨rfl, hb⟩; refine ⟨_, rfl, ?_⟩; have n0_ := Aside0.mk (Kd.R_below (GS.rR HO522.out) hb); have n1_ := Aside0.mk (bqB (GS.bqX BK516.out) hb); have n2_ := Aside0.mk (bqB (GS.bqX BK517.out) hb); have n3_ := Aside0.mk (lqT (GS.lB HB.out) hb); clear HO522; clear BK516; clear BK517; clear HB; have HO522 := n0_; have BK516 := n1_; have BK517 := n2_; have HB := n3_; clear n0_ n1_ n2_ n3_; (try clear hb); (try clear hb2); (try clear hk); (try clear hi); obtain ⟨hcz28_0, hcz28_1, hfz28_0, hfz28_1⟩ := GS.c2 BK517.out))
    refine bodyPost_ret (results_ct rfl _ _ gb517 40 #[.int .i64 t523, .int .i64 t524] (0, 0) _ rfl (GS.bqZ BK517.out) Try.underlying40 rfl (by kernel_rfl)) rfl ?_
    exact ⟨by first | rfl | (simp [errW_none, errW_some] <;> rfl) | (simp [*, errW_none, errW_some] <;> rfl), GS.lB HB.out⟩
  ·rw [if_neg c7] at H
   have c7b0 : (t520 == 0) = false := beq_eq_false_iff_ne.mpr c7
   try simp only [beq_self_eq_true, Bool.not_true, Bool.false_or, Bool.true_and] at c7b0
   have c7b1 : (t520 != 0) = true := bne_iff_ne.mpr c7
   simp only [Option.some.injEq, Prod.mk.injEq] at H
   obtain ⟨rfl, rfl, rfl⟩ := H
   go_enter Try.func26, Try.ntmps26
   go_wp2_with (first | ((with_reducible refine gqD (N := 3) rfl ?_); refine GS.bx (N := 3) (cs := #[.string a0_0, .int .i64 a0_1, .slice A0_2 l0_2.length c0_2, .int .i64 a0_3]) (t := 24) ?_; intro gb516 hg w29 hbox hb; have n0_ := Aside0.mk (lqT (GS.lB HB.out) hb); have n1_ := Aside0.mk (hbox); have n2_ := Aside0.mk ((by rw [hg]; exact (lqZ (GS.lB HB.out)) : w.heap.size ≤ gb516)); have n3_ := Aside0.mk ((by rw [hg]; exact (lqZ (GS.lB HB.out)) : w.heap.size ≤ gb516)); clear HB; have HB := n0_; have BK516 := n1_; have GW516 := n2_; have GE516 := n3_; clear n0_ n1_ n2_ n3_; clear hb hbox hg) | ((with_reducible refine gqD (N := 6) rfl ?_); refine GS.bx (N := 6) (cs := #[.int .i64 0, .int .i64 0]) (t := 40) ?_; intro gb517 hg w30 hbox hb; have n0_ := Aside0.mk (bqB (GS.bqX BK516.out) hb); have n1_ := Aside0.mk (lqT (GS.lB HB.out) hb); have n2_ := Aside0.mk (hbox); have n3_ := Aside0.mk ((by rw [hg]; exact (lqZ (GS.lB HB.out)) : w.heap.size ≤ gb517)); have n4_ := Aside0.mk ((by rw [hg]; exact (lqZ (GS.lB HB.out)) : w.heap.size ≤ gb517)); have n5_ := Aside0.mk ((by rw [hg]; exact Nat.ne_of_lt (blk_lt (GS.bqX BK516.out)) : gb516 ≠ gb517)); have n6_ := Aside0.mk ((by rw [hg]; exact Nat.ne_of_gt (blk_lt (GS.bqX BK516.out)) : gb517 ≠ gb516)); clear BK516; clear HB; have BK516 := n0_; have HB := n1_; have BK517 := n2_; have GW517 := n3_; have GE517 := n4_; have NB516_517 := n5_; have NB517_516 := n6_; clear n0_ n1_ n2_ n3_ n4_ n5_ n6_; clear hb hbox hg; have hnb31 := NB516_517.out; have hnc31 := NB517_516.out; obtain ⟨hcz32_0, hcz32_1, hcz32_2, hcz32_3, hfz32_0, hfz32_1, hfz32_2, hfz32_3⟩ := GS.c4 BK516.out) | ((with_reducible refine gqC (f := 40) rfl ?_); refine GS.gL (some 12) Try.func40 #[.agg #[.string a0_0, .int .i64 a0_1, .slice A0_2 l0_2.length c0_2, .int .i64 a0_3]] ?_; (with_reducible refine (spileref12_is.calls k a0_0 a0_1 _ _ l0_2 a0_3 t518 _ ?side1 ?side2 A4.out).mono ?_); (case side1 => exact GS.rC (Kd.C_below HR0_2.out HB.out)); (case side2 => exact HC0_2.out); rintro e w33 ⟨rfl, hb⟩; refine ⟨_, rfl, ?_⟩; have n0_ := Aside0.mk (bqB (GS.bqX BK516.out) hb); have n1_ := Aside0.mk (bqB (GS.bqX BK517.out) hb); have n2_ := Aside0.mk (lqT (GS.lB HB.out) hb); clear BK516; clear BK517; clear HB; have BK516 := n0_; have BK517 := n1_; have HB := n2_; clear n0_ n1_ n2_; (try clear hb); (try clear hb2); (try clear hk); (try clear hi); obtain ⟨hcz34_0, hcz34_1, hcz34_2, hcz34_3, hfz34_0, hfz34_1, hfz34_2, hfz34_3⟩ := GS.c4 BK516.out) | ((with_reducible refine gqC (f := 14) rfl ?_); refine GS.gL (some 22) Try.func14 #[.slice A0_2 l0_2.length c0_2, .int .i64 a1, .int .i64 a2] ?_; (with_reducible refine (spileref12_Levels.calls k _ _ l0_2 a1 a2 t519 t520 _ ?side1 ?side2 A6.out).mono ?_); (case side1 => exact GS.rC (Kd.C_below HR0_2.out HB.out)); (case side2 => exact HC0_2.out); rintro e w35 ⟨v521, rfl, ho0, hb⟩; refine ⟨_, rfl, ?_⟩; have n0_ := Aside0.mk (Kd.R_lower ho0 (lqZ (GS.lB HB.out))); have n1_ := Aside0.mk (bqB (GS.bqX BK516.out) hb); have n2_ := Aside0.mk (bqB (GS.bqX BK517.out) hb); have n3_ := Aside0.mk (lqT (GS.lB HB.out) hb); clear BK516; clear BK517; clear HB; have HO522 := n0_; have BK516 := n1_; have BK517 := n2_; have HB := n3_; clear n0_ n1_ n2_ n3_; (try clear hb); (try clear hb2); (try clear hk); (try clear hi); (try clear ho0); obtain ⟨hcz36_0, hcz36_1, hfz36_0, hfz36_1⟩ := GS.c2 BK517.out))
   refine bodyPost_ret (results_ct rfl _ _ gb517 40 #[.int .i64 0, .int .i64 0] (0, 0) _ rfl (GS.bqZ BK517.out) Try.underlying40 rfl (by kernel_rfl)) rfl ?_
   exact ⟨by first | rfl | (simp [errW_none, errW_some] <;> rfl) | (simp [*, errW_none, errW_some] <;> rfl), GS.lB HB.out⟩
 ·rw [if_neg c5] at H
  have c5b0 : (t518 == 0) = false := beq_eq_false_iff_ne.mpr c5
  try simp only [beq_self_eq_true, Bool.not_true, Bool.false_or, Bool.true_and] at c5b0
  have c5b1 : (t518 != 0) = true := bne_iff_ne.mpr c5
  simp only [Option.some.injEq, Prod.mk.injEq] at H
  obtain ⟨rfl, rfl, rfl⟩ := H
  go_enter Try.func26, Try.ntmps26
  go_wp2_with (first | ((with_reducible refine gqD (N := 3) rfl ?_); refine GS.bx (N := 3) (cs := #[.string a0_0, .int .i64 a0_1, .slice A0_2 l0_2.length c0_2, .int .i64 a0_3]) (t := 24) ?_; intro gb516 hg w37 hbox hb; have n0_ := Aside0.mk (lqT (GS.lB HB.out) hb); have n1_ := Aside0.mk (hbox); have n2_ := Aside0.mk ((by rw [hg]; exact (lqZ (GS.lB HB.out)) : w.heap.size ≤ gb516)); have n3_ := Aside0.mk ((by rw [hg]; exact (lqZ (GS.lB HB.out)) : w.heap.size ≤ gb516)); clear HB; have HB := n0_; have BK516 := n1_; have GW516 := n2_; have GE516 := n3_; clear n0_ n1_ n2_ n3_; clear hb hbox hg) | ((with_reducible refine gqD (N := 6) rfl ?_); refine GS.bx (N := 6) (cs := #[.int .i64 0, .int .i64 0]) (t := 40) ?_; intro gb517 hg w38 hbox hb; have n0_ := Aside0.mk (bqB (GS.bqX BK516.out) hb); have n1_ := Aside0.mk (lqT (GS.lB HB.out) hb); have n2_ := Aside0.mk (hbox); have n3_ := Aside0.mk ((by rw [hg]; exact (lqZ (GS.lB HB.out)) : w.heap.size ≤ gb517)); have n4_ := Aside0.mk ((by rw [hg]; exact (lqZ (GS.lB HB.out)) : w.heap.size ≤ gb517)); have n5_ := Aside0.mk ((by rw [hg]; exact Nat.ne_of_lt (blk_lt (GS.bqX BK516.out)) : gb516 ≠ gb517)); have n6_ := Aside0.mk ((by rw [hg]; exact Nat.ne_of_gt (blk_lt (GS.bqX BK516.out)) : gb517 ≠ gb516)); clear BK516; clear HB; have BK516 := n0_; have HB := n1_; have BK517 := n2_; have GW517 := n3_; have GE517 := n4_; have NB516_517 := n5_; have NB517_516 := n6_; clear n0_ n1_ n2_ n3_ n4_ n5_ n6_; clear hb hbox hg; have hnb39 := NB516_517.out; have hnc39 := NB517_516.out; obtain ⟨hcz40_0, hcz40_1, hcz40_2, hcz40_3, hfz40_0, hfz40_1, hfz40_2, hfz40_3⟩ := GS.c4 BK516.out) | ((with_reducible refine gqC (f := 40) rfl ?_); refine GS.gL (some 12) Try.func40 #[.agg #[.string a0_0, .int .i64 a0_1, .slice A0_2 l0_2.length c0_2, .int .i64 a0_3]] ?_; (with_reducible refine (spileref12_is.calls k a0_0 a0_1 _ _ l0_2 a0_3 t518 _ ?side1 ?side2 A4.out).mono ?_); (case side1 => exact GS.rC (Kd.C_below HR0_2.out HB.out)); (case side2 => exact HC0_2.out); rintro e w41 ⟨rfl, hb⟩; refine ⟨_, rfl, ?_⟩; have n0_ := Aside0.mk (bqB (GS.bqX BK516.out) hb); have n1_ := Aside0.mk (bqB (GS.bqX BK517.out) hb); have n2_ := Aside0.mk (lqT (GS.lB HB.out) hb); clear BK516; clear BK517; clear HB; have BK516 := n0_; have BK517 := n1_; have HB := n2_; clear n0_ n1_ n2_; (try clear hb); (try clear hb2); (try clear hk); (try clear hi); obtain ⟨hcz42_0, hcz42_1, hfz42_0, hfz42_1⟩ := GS.c2 BK517.out))
  refine bodyPost_ret (results_ct rfl _ _ gb517 40 #[.int .i64 0, .int .i64 0] (0, 0) _ rfl (GS.bqZ BK517.out) Try.underlying40 rfl (by kernel_rfl)) rfl ?_
  exact ⟨by first | rfl | (simp [errW_none, errW_some] <;> rfl) | (simp [*, errW_none, errW_some] <;> rfl), GS.lB HB.out⟩

end Go.Proofs.Ytmcmbjkjilcmeaa.K
