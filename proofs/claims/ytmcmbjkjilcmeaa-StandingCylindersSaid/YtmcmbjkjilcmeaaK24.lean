-- PRINTED by print.py (a twelfth state) out of the translation. Not trusted: Lean checks it.
import Derived.Test.YtmcmbjkjilcmeaaK0
import Derived.Test.YtmcmbjkjilcmeaaGPu
import Derived.Test.YtmcmbjkjilcmeaaGShort
import Derived.Test.YtmcmbjkjilcmeaaGField
import Derived.Test.YtmcmbjkjilcmeaaGSym
import Derived.Test.YtmcmbjkjilcmeaaK1
import Derived.Test.YtmcmbjkjilcmeaaK14
import Derived.Test.YtmcmbjkjilcmeaaK15
import Derived.Test.YtmcmbjkjilcmeaaK17
import Derived.Test.YtmcmbjkjilcmeaaK18
import Derived.Test.YtmcmbjkjilcmeaaK23
import Derived.Test.YtmcmbjkjilcmeaaGClone
namespace Go.Proofs.Ytmcmbjkjilcmeaa.K
open Go.RowKit Go.Proofs.YtmcmbjkjilcmeaaW.PrintWords Go.Proofs.YtmcmbjkjilcmeaaW.PrintLast Go.Proofs.YtmcmbjkjilcmeaaW.PrintMore
attribute [local go_sem] max2_int min2_int max_two min_two max_three min_three max_four min_four   -- for this text's walks alone
set_option linter.unusedVariables false
set_option linter.unusedSimpArgs false

attribute [local go_sem high] eqA40
/-! ### spileref12_Space: function 44 -/
def spileref12_Space.f (a0_0 : Int) (a0_1 : Int) : Option (Int × Int) := (spileref10_Bounds.f a0_0).bind fun bt465 => ((spileref10_Bounds.f a0_1).bind fun bt467 => (some (bt465.1, bt467.2)))
def spileref12_Space.T1 : Bool × List (List Nat × List Nat) := (true, [([], []), ([0], [0]), ([1], [1]), ([2], [2]), ([], []), ([4], [4]), ([5, 2], [5]), ([6], [6]), ([3, 7], [3, 7]), ([8, 6, 0, 1, 2, 3, 4, 5, 6, 7, 8], [8])])
def spileref12_Space.B1 : List Nat := [0, 1, 3, 7, 0, 16, 55, 119, 255, 511]
theorem spileref12_Space.tab1 : rtab .any (opsOf Try.f44 1) = spileref12_Space.T1 := by kernel_rfl
theorem spileref12_Space.bits1 : waitsOk spileref12_Space.T1.2 spileref12_Space.B1 = true := by kernel_rfl
set_option maxHeartbeats 8000000 in
set_option maxRecDepth 100000 in
theorem spileref12_Space.calls (a0_0 : Int) (a0_1 : Int) (r1 : Int) (r2 : Int) (w : World) (h : spileref12_Space.f a0_0 a0_1 = some (r1, r2)) :
  Calls Try.prog 44 #[.agg #[.int .i64 a0_0, .int .i64 a0_1]] w fun e w' => e = .returned (.agg #[.int .i64 r1, .int .i64 r2]) ∧ Below w.heap.size w w' := by
 have hf40a := field40.1
 have hf40b := field40.2
 have hu40 := Try.underlying40
 have HB := Aside0.mk (Below.refl w.heap.size w)
 have H : ((spileref10_Bounds.f a0_0).bind fun bt465 => ((spileref10_Bounds.f a0_1).bind fun bt467 => (some (bt465.1, bt467.2)))) = some (r1, r2) := h
 clear h
 replace H := Option.bind_eq_some_iff.mp H
 obtain ⟨⟨t465, t466⟩, A20, H⟩ := H
 replace H : ((spileref10_Bounds.f a0_1).bind fun bt467 => (some (t465, bt467.2))) = some (r1, r2) := H
 have A2 := Aside0.mk A20
 clear A20
 replace H := Option.bind_eq_some_iff.mp H
 obtain ⟨⟨t467, t468⟩, A30, H⟩ := H
 replace H : (some (t465, t468)) = some (r1, r2) := H
 have A3 := Aside0.mk A30
 clear A30
 simp only [Option.some.injEq, Prod.mk.injEq] at H
 obtain ⟨rfl, rfl⟩ := H
 go_enter Try.func44, Try.ntmps44
 try go_wp2_with (first | ((with_reducible refine gqD (N := 1) rfl ?_); refine GS.bx (N := 1) (cs := #[.int .i64 a0_0, .int .i64 a0_1]) (t := 40) ?_; intro gb463 hg w4 hbox hb; have n0_ := Aside0.mk (lqT (GS.lB HB.out) hb); have n1_ := Aside0.mk (hbox); have n2_ := Aside0.mk ((by rw [hg]; exact (lqZ (GS.lB HB.out)) : w.heap.size ≤ gb463)); have n3_ := Aside0.mk ((by rw [hg]; exact (lqZ (GS.lB HB.out)) : w.heap.size ≤ gb463)); clear HB; have HB := n0_; have BK463 := n1_; have GW463 := n2_; have GE463 := n3_; clear n0_ n1_ n2_ n3_; clear hb hbox hg) | ((with_reducible refine gqD (N := 2) rfl ?_); refine GS.bx (N := 2) (cs := #[.int .i64 0, .int .i64 0]) (t := 40) ?_; intro gb464 hg w5 hbox hb; have n0_ := Aside0.mk (bqB (GS.bqX BK463.out) hb); have n1_ := Aside0.mk (lqT (GS.lB HB.out) hb); have n2_ := Aside0.mk (hbox); have n3_ := Aside0.mk ((by rw [hg]; exact (lqZ (GS.lB HB.out)) : w.heap.size ≤ gb464)); have n4_ := Aside0.mk ((by rw [hg]; exact (lqZ (GS.lB HB.out)) : w.heap.size ≤ gb464)); have n5_ := Aside0.mk ((by rw [hg]; exact Nat.ne_of_lt (blk_lt (GS.bqX BK463.out)) : gb463 ≠ gb464)); have n6_ := Aside0.mk ((by rw [hg]; exact Nat.ne_of_gt (blk_lt (GS.bqX BK463.out)) : gb464 ≠ gb463)); clear BK463; clear HB; have BK463 := n0_; have HB := n1_; have BK464 := n2_; have GW464 := n3_; have GE464 := n4_; have NB463_464 := n5_; have NB464_463 := n6_; clear n0_ n1_ n2_ n3_ n4_ n5_ n6_; clear hb hbox hg))
 have n0_ := Aside0.mk (bqD BK463.out)
 have n1_ := Aside0.mk (bqD BK464.out)
 have n2_ := Aside0.mk (lqD HB.out)
 clear BK463
 clear BK464
 clear HB
 have BK463 := n0_
 have BK464 := n1_
 have HB := n2_
 clear n0_ n1_ n2_
 refine start_ (n := 10) (S := fun w' => w'.cell? ⟨gb463, 0, none⟩ = some (.int .i64 a0_0) ∧ w'.cell? ⟨gb463, 1, none⟩ = some (.int .i64 a0_1)) (ds := []) #[false, false, false, false, false, false, false, false, false, false] (by kernel_rfl) rfl rfl ⟨(bqC BK463.out 0).trans rfl, (bqC BK463.out 1).trans rfl⟩ (fun hHeld => ?_); refine with_tabW spileref12_Space.tab1 spileref12_Space.bits1 (fun HT_ HW_ => ?_)
 generalize w5.drew = w6 at BK463 BK464 HB hHeld ⊢
 refine GS.pu 0 (some 3) HT_.out ?_
 refine GS.pu 4 (some 7) HT_.out ?_
 refine GS.tk 1 (some 4) HT_.out HW_.out hHeld ?_
 refine GS.tk 5 (some 8) HT_.out HW_.out hHeld ?_
 refine one_ (i := 2) (N := some 5) #[true, true, true, false, true, true, false, false, false, false] rfl rfl (one_of HT_.out (by kernel_rfl)) (by decide) (fun K hK => ?_)
 refine goes_ Try.func63 (by kernel_rfl) rfl #[.int .i64 a0_0] (by rfl) rfl rfl (by (try simp only [List.map_toArray, List.map_cons, List.map_nil]); first | done | rfl | (simp only [List.length_drop, List.length_take]; rfl)) ?_
 with_reducible refine (spileref10_Bounds.calls a0_0 t465 t466 _ A2.out).mono ?_
 rintro e w7 ⟨rfl, hb⟩
 refine ⟨_, rfl, ?_⟩
 have n0_ := Aside0.mk (bqB (GS.bqX BK463.out) hb)
 have n1_ := Aside0.mk (bqB (GS.bqX BK464.out) hb)
 have n2_ := Aside0.mk (lqT (GS.lB HB.out) hb)
 clear BK463
 clear BK464
 clear HB
 have BK463 := n0_
 have BK464 := n1_
 have HB := n2_
 clear n0_ n1_ n2_
 (try clear hb)
 (try clear hb2)
 (try clear hk)
 (try clear hi)
 refine hK.out _ _ ⟨(bqC BK463.out 0).trans rfl, (bqC BK463.out 1).trans rfl⟩ (fun hHeld => ?_)
 clear hK K
 refine norm_ (a' := ?_) ?_ ?_
 rotate_left
 ·show Act.put _ (some 5) _ = _
  simp only [Act.put, List.setIfInBounds_toArray, List.set_cons_zero, List.set_cons_succ, i64_w, i32_w]
  rfl
 refine GS.pu 3 (some 6) HT_.out ?_
 refine one_ (i := 6) (N := some 9) #[true, true, true, true, true, true, true, false, false, false] rfl rfl (one_of HT_.out (by kernel_rfl)) (by decide) (fun K hK => ?_)
 refine goes_ Try.func63 (by kernel_rfl) rfl #[.int .i64 a0_1] (by rfl) rfl rfl (by (try simp only [List.map_toArray, List.map_cons, List.map_nil]); first | done | rfl | (simp only [List.length_drop, List.length_take]; rfl)) ?_
 with_reducible refine (spileref10_Bounds.calls a0_1 t467 t468 _ A3.out).mono ?_
 rintro e w8 ⟨rfl, hb⟩
 refine ⟨_, rfl, ?_⟩
 have n0_ := Aside0.mk (bqB (GS.bqX BK463.out) hb)
 have n1_ := Aside0.mk (bqB (GS.bqX BK464.out) hb)
 have n2_ := Aside0.mk (lqT (GS.lB HB.out) hb)
 clear BK463
 clear BK464
 clear HB
 have BK463 := n0_
 have BK464 := n1_
 have HB := n2_
 clear n0_ n1_ n2_
 (try clear hb)
 (try clear hb2)
 (try clear hk)
 (try clear hi)
 refine hK.out _ _ ⟨(bqC BK463.out 0).trans rfl, (bqC BK463.out 1).trans rfl⟩ (fun hHeld => ?_)
 clear hK K
 refine norm_ (a' := ?_) ?_ ?_
 rotate_left
 ·show Act.put _ (some 9) _ = _
  simp only [Act.put, List.setIfInBounds_toArray, List.set_cons_zero, List.set_cons_succ, i64_w, i32_w]
  rfl
 refine GS.pu 7 (some 10) HT_.out ?_
 refine GS.pu 8 (some 11) HT_.out ?_
 refine one_ (i := 9) (N := none) #[true, true, true, true, true, true, true, true, true, true] rfl rfl (one_of HT_.out (by kernel_rfl)) (by decide) (fun K hK => ?_)
 have hs9 : w8.cell? ⟨gb464, 0, none⟩ = some (.int .i64 0) := (bqC BK464.out 0).trans rfl
 have hfs9 := bqF BK464.out 0
 have hns9_0 := NB463_464.out
 have hms9_0 := NB464_463.out
 have hs10 : w8.cell? ⟨gb464, 1, none⟩ = some (.int .i64 0) := (bqC BK464.out 1).trans rfl
 have hfs10 := bqF BK464.out 1
 have hns10_0 := NB463_464.out
 have hms10_0 := NB464_463.out
 refine skip_ (w1 := ?_) (by rfl) rfl ?_ ?_
 rotate_left
 ·go_simp
  rfl
 refine hK.out _ _ ⟨(GS.cf hHeld.1), (GS.cf hHeld.2)⟩ (fun hHeld => ?_)
 clear hK K
 refine done_ (done_of HT_.out (by kernel_rfl)) ?_
 try go_wp2
 refine bodyPost_ret (results_cell_row rfl _ _ gb464 40 #[.int .i64 t465, .int .i64 t468] (0, 0) _ rfl (GS.bqZ BK464.out) Try.underlying40 rfl (by kernel_rfl)) rfl ?_
 exact ⟨by first | rfl | (simp [errW_none, errW_some] <;> rfl) | (simp [*, errW_none, errW_some] <;> rfl), GS.lB HB.out⟩

/-! ### spileref12_Between: function 21 -/
def spileref12_Between.f (k : Nat) (a0_0 : ByteArray) (a0_1 : Int) (l0_2 : List (S33)) (a0_3 : Int) (l1 : List Int) : Option (Int × Int × Int) := (spileref12_Sums.f k a0_0 a0_1 l0_2 a0_3 l1).bind fun bt471 => (if bt471.2 = 0 then (if 0 ≤ (wrap64 ((bt471.1.length : Int) - 1)) then (if (wrap64 ((bt471.1.length : Int) - 1)) < (bt471.1.length : Int) then ((spileref12_Space.f ((rd_T40 bt471.1 (wrap64 ((bt471.1.length : Int) - 1))).f0) ((rd_T40 bt471.1 (wrap64 ((bt471.1.length : Int) - 1))).f1)).bind fun bt476 => (some (bt476.1, bt476.2, 0))) else (none)) else (none)) else (some (0, 0, bt471.2)))
theorem spileref12_Between.mono : ∀ a0 a1 a2 a3 a4 k, LeO (spileref12_Between.f k a0 a1 a2 a3 a4) (spileref12_Between.f (k + 1) a0 a1 a2 a3 a4) := by
 intro a0 a1 a2 a3 a4 k
 unfold spileref12_Between.f
 repeat' first
   | (with_reducible exact spileref12_Sums.mono _ _ _ _ _ _)
   | (with_reducible exact LeO.refl _)
   | (with_reducible exact LeO.none _)
   | (with_reducible refine LeO.ite ?_ ?_)
   | (with_reducible refine LeO.bind ?_ (fun _ => ?_))
   | exact spileref12_Sums.mono _ _ _ _ _ _
   | exact LeO.none _
   | refine LeO.ite ?_ ?_
   | refine LeO.bind ?_ (fun _ => ?_)
set_option maxHeartbeats 8000000 in
set_option maxRecDepth 100000 in
theorem spileref12_Between.calls (k : Nat) (a0_0 : ByteArray) (a0_1 : Int) (A0_2 : Option Addr) (c0_2 : Nat) (l0_2 : List (S33)) (a0_3 : Int) (A1 : Option Addr) (c1 : Nat) (l1 : List Int) (r1 : Int) (r2 : Int) (r3 : Int) (w : World) (hr0_2 : Kd.C k33 w A0_2 l0_2.length l0_2) (hc0_2 : l0_2.length ≤ c0_2) (hr1 : Kd.C (Kd.int .i64) w A1 l1.length l1) (hc1 : l1.length ≤ c1) (h : spileref12_Between.f k a0_0 a0_1 l0_2 a0_3 l1 = some (r1, r2, r3)) :
  Calls Try.prog 21 #[.agg #[.string a0_0, .int .i64 a0_1, .slice A0_2 l0_2.length c0_2, .int .i64 a0_3], .slice A1 l1.length c1] w fun e w' => e = .returned (.tuple #[.agg #[.int .i64 r1, .int .i64 r2], .int .i64 r3]) ∧ Below w.heap.size w w' := by
 have hu24 := Try.underlying24
 have hu40 := Try.underlying40
 have HR0_2 := Aside0.mk hr0_2
 have HC0_2 := Aside0.mk hc0_2
 clear hr0_2 hc0_2
 have HR1 := Aside0.mk hr1
 have HC1 := Aside0.mk hc1
 clear hr1 hc1
 have HB := Aside0.mk (Below.refl w.heap.size w)
 have H : ((spileref12_Sums.f k a0_0 a0_1 l0_2 a0_3 l1).bind fun bt471 => (if bt471.2 = 0 then (if 0 ≤ (wrap64 ((bt471.1.length : Int) - 1)) then (if (wrap64 ((bt471.1.length : Int) - 1)) < (bt471.1.length : Int) then ((spileref12_Space.f ((rd_T40 bt471.1 (wrap64 ((bt471.1.length : Int) - 1))).f0) ((rd_T40 bt471.1 (wrap64 ((bt471.1.length : Int) - 1))).f1)).bind fun bt476 => (some (bt476.1, bt476.2, 0))) else (none)) else (none)) else (some (0, 0, bt471.2)))) = some (r1, r2, r3) := h
 clear h
 replace H := Option.bind_eq_some_iff.mp H
 obtain ⟨⟨t471, t474⟩, A30, H⟩ := H
 replace H : (if t474 = 0 then (if 0 ≤ (wrap64 ((t471.length : Int) - 1)) then (if (wrap64 ((t471.length : Int) - 1)) < (t471.length : Int) then ((spileref12_Space.f ((rd_T40 t471 (wrap64 ((t471.length : Int) - 1))).f0) ((rd_T40 t471 (wrap64 ((t471.length : Int) - 1))).f1)).bind fun bt476 => (some (bt476.1, bt476.2, 0))) else (none)) else (none)) else (some (0, 0, t474))) = some (r1, r2, r3) := H
 have A3 := Aside0.mk A30
 clear A30
 by_cases c4 : t474 = 0
 ·rw [if_pos c4] at H
  have c4b0 : (t474 == 0) = true := beq_iff_eq.mpr c4
  try simp only [beq_self_eq_true, Bool.not_true, Bool.false_or, Bool.true_and] at c4b0
  have c4b1 : (t474 != 0) = false := bne_eq_false_iff_eq.mpr c4
  clear c4
  obtain ⟨ji5, hji5⟩ : ∃ j_ : Int, (wrap64 ((t471.length : Int) - 1)) = j_ := ⟨_, rfl⟩
  replace H : (if 0 ≤ (ji5) then (if (ji5) < (t471.length : Int) then ((spileref12_Space.f ((rd_T40 t471 (ji5)).f0) ((rd_T40 t471 (ji5)).f1)).bind fun bt476 => (some (bt476.1, bt476.2, 0))) else (none)) else (none)) = some (r1, r2, r3) := by first | (rw [hji5] at H; exact H) | (simp only [hji5] at H ⊢; exact H)
  (try rw [hji5] at A3)
  have hji5w : (IntKind.i64.wrap ((t471.length : Int) - 1)) = ji5 := (i64_w _).trans hji5
  by_cases c6 : 0 ≤ (ji5)
  ·rw [if_pos c6] at H
   have c6b0 : decide (0 ≤ (ji5)) = true := decide_eq_true c6
   clear c6
   by_cases c7 : (ji5) < (t471.length : Int)
   ·rw [if_pos c7] at H
    have c7b0 : decide ((ji5) < (t471.length : Int)) = true := decide_eq_true c7
    clear c7
    replace H := Option.bind_eq_some_iff.mp H
    obtain ⟨⟨t476, t477⟩, A80, H⟩ := H
    replace H : (some (t476, t477, 0)) = some (r1, r2, r3) := H
    have A8 := Aside0.mk A80
    clear A80
    simp only [Option.some.injEq, Prod.mk.injEq] at H
    obtain ⟨rfl, rfl, rfl⟩ := H
    go_enter Try.func21, Try.ntmps21
    go_wp2_with (first | ((with_reducible refine gqD (N := 2) rfl ?_); refine GS.bx (N := 2) (cs := #[.string a0_0, .int .i64 a0_1, .slice A0_2 l0_2.length c0_2, .int .i64 a0_3]) (t := 24) ?_; intro gb469 hg w9 hbox hb; have n0_ := Aside0.mk (lqT (GS.lB HB.out) hb); have n1_ := Aside0.mk (hbox); have n2_ := Aside0.mk ((by rw [hg]; exact (lqZ (GS.lB HB.out)) : w.heap.size ≤ gb469)); have n3_ := Aside0.mk ((by rw [hg]; exact (lqZ (GS.lB HB.out)) : w.heap.size ≤ gb469)); clear HB; have HB := n0_; have BK469 := n1_; have GW469 := n2_; have GE469 := n3_; clear n0_ n1_ n2_ n3_; clear hb hbox hg) | ((with_reducible refine gqD (N := 4) rfl ?_); refine GS.bx (N := 4) (cs := #[.int .i64 0, .int .i64 0]) (t := 40) ?_; intro gb470 hg w10 hbox hb; have n0_ := Aside0.mk (bqB (GS.bqX BK469.out) hb); have n1_ := Aside0.mk (lqT (GS.lB HB.out) hb); have n2_ := Aside0.mk (hbox); have n3_ := Aside0.mk ((by rw [hg]; exact (lqZ (GS.lB HB.out)) : w.heap.size ≤ gb470)); have n4_ := Aside0.mk ((by rw [hg]; exact (lqZ (GS.lB HB.out)) : w.heap.size ≤ gb470)); have n5_ := Aside0.mk ((by rw [hg]; exact Nat.ne_of_lt (blk_lt (GS.bqX BK469.out)) : gb469 ≠ gb470)); have n6_ := Aside0.mk ((by rw [hg]; exact Nat.ne_of_gt (blk_lt (GS.bqX BK469.out)) : gb470 ≠ gb469)); clear BK469; clear HB; have BK469 := n0_; have HB := n1_; have BK470 := n2_; have GW470 := n3_; have GE470 := n4_; have NB469_470 := n5_; have NB470_469 := n6_; clear n0_ n1_ n2_ n3_ n4_ n5_ n6_; clear hb hbox hg; have hnb11 := NB469_470.out; have hnc11 := NB470_469.out; obtain ⟨hcz12_0, hcz12_1, hcz12_2, hcz12_3, hfz12_0, hfz12_1, hfz12_2, hfz12_3⟩ := GS.c4 BK469.out) | ((with_reducible refine gqC (f := 23) rfl ?_); refine GS.gL (some 11) Try.func23 #[.agg #[.string a0_0, .int .i64 a0_1, .slice A0_2 l0_2.length c0_2, .int .i64 a0_3], .slice A1 l1.length c1] ?_; (with_reducible refine (spileref12_Sums.calls k a0_0 a0_1 _ _ l0_2 a0_3 _ _ l1 t471 t474 _ ?side1 ?side2 ?side3 ?side4 A3.out).mono ?_); (case side1 => exact GS.rC (Kd.C_below HR0_2.out HB.out)); (case side2 => exact HC0_2.out); (case side3 => exact GS.rC (Kd.C_below HR1.out HB.out)); (case side4 => exact HC1.out); rintro e w13 ⟨v472, rfl, ho0, hb⟩; refine ⟨_, rfl, ?_⟩; have n0_ := Aside0.mk (Kd.R_lower (Kd.R_newB ho0 (GS.bqX BK470.out)) (lqZ (GS.lB HB.out))); have n1_ := Aside0.mk (bqB (GS.bqX BK469.out) hb); have n2_ := Aside0.mk (bqB (GS.bqX BK470.out) hb); have n3_ := Aside0.mk (lqT (GS.lB HB.out) hb); clear BK469; clear BK470; clear HB; have HO473 := n0_; have BK469 := n1_; have BK470 := n2_; have HB := n3_; clear n0_ n1_ n2_ n3_; (try clear hb); (try clear hb2); (try clear hk); (try clear hi); (try clear ho0); obtain ⟨Ao14, co14, eo14⟩ := Kd.R_slice HO473.out; subst eo14; have p475 : 0 ≤ ((ji5) : Int) := of_decide_eq_true (by first | (with_reducible assumption) | assumption); have q475 : (ji5) < (t471.length : Int) := of_decide_eq_true (by first | (with_reducible assumption) | assumption); obtain ⟨ad475, e475, hx475_0, hx475_1⟩ := at_T40 (Kd.R_reads' HO473.out).2.2 (ji5) p475 q475; cases e475; replace p475 := eq_true p475; replace q475 := eq_true q475) | ((with_reducible refine gqC (f := 44) rfl ?_); refine goesL_ (some 24) rfl rfl Try.func44 (by kernel_rfl) rfl #[.agg #[.int .i64 ((rd_T40 t471 (ji5)).f0), .int .i64 ((rd_T40 t471 (ji5)).f1)]] rfl (by (try simp only [List.map_toArray, List.map_cons, List.map_nil]); first | done | (go_simp; done) | (simp only [hji5]; rfl) | rfl | (simp only [List.length_drop, List.length_take]; rfl)) ?_; (with_reducible refine (spileref12_Space.calls ((rd_T40 t471 (ji5)).f0) ((rd_T40 t471 (ji5)).f1) t476 t477 _ A8.out).mono ?_); rintro e w15 ⟨rfl, hb⟩; refine ⟨_, rfl, ?_⟩; have n0_ := Aside0.mk (Kd.R_below (GS.rR HO473.out) hb); have n1_ := Aside0.mk (bqB (GS.bqX BK469.out) hb); have n2_ := Aside0.mk (bqB (GS.bqX BK470.out) hb); have n3_ := Aside0.mk (lqT (GS.lB HB.out) hb); clear HO473; clear BK469; clear BK470; clear HB; have HO473 := n0_; have BK469 := n1_; have BK470 := n2_; have HB := n3_; clear n0_ n1_ n2_ n3_; (try clear hb); (try clear hb2); (try clear hk); (try clear hi); obtain ⟨hcz16_0, hcz16_1, hfz16_0, hfz16_1⟩ := GS.c2 BK470.out))
    refine bodyPost_ret (results_ct rfl _ _ gb470 40 #[.int .i64 t476, .int .i64 t477] (0, 0) _ rfl (GS.bqZ BK470.out) Try.underlying40 rfl (by kernel_rfl)) rfl ?_
    exact ⟨by first | rfl | (simp [errW_none, errW_some] <;> rfl) | (simp only [← hji5]; first | rfl | (simp [errW_none, errW_some] <;> rfl)) | (simp [*, errW_none, errW_some] <;> rfl), GS.lB HB.out⟩
   ·rw [if_neg c7] at H
    exact absurd H (by simp)
  ·rw [if_neg c6] at H
   exact absurd H (by simp)
 ·rw [if_neg c4] at H
  have c4b0 : (t474 == 0) = false := beq_eq_false_iff_ne.mpr c4
  try simp only [beq_self_eq_true, Bool.not_true, Bool.false_or, Bool.true_and] at c4b0
  have c4b1 : (t474 != 0) = true := bne_iff_ne.mpr c4
  simp only [Option.some.injEq, Prod.mk.injEq] at H
  obtain ⟨rfl, rfl, rfl⟩ := H
  go_enter Try.func21, Try.ntmps21
  go_wp2_with (first | ((with_reducible refine gqD (N := 2) rfl ?_); refine GS.bx (N := 2) (cs := #[.string a0_0, .int .i64 a0_1, .slice A0_2 l0_2.length c0_2, .int .i64 a0_3]) (t := 24) ?_; intro gb469 hg w17 hbox hb; have n0_ := Aside0.mk (lqT (GS.lB HB.out) hb); have n1_ := Aside0.mk (hbox); have n2_ := Aside0.mk ((by rw [hg]; exact (lqZ (GS.lB HB.out)) : w.heap.size ≤ gb469)); have n3_ := Aside0.mk ((by rw [hg]; exact (lqZ (GS.lB HB.out)) : w.heap.size ≤ gb469)); clear HB; have HB := n0_; have BK469 := n1_; have GW469 := n2_; have GE469 := n3_; clear n0_ n1_ n2_ n3_; clear hb hbox hg) | ((with_reducible refine gqD (N := 4) rfl ?_); refine GS.bx (N := 4) (cs := #[.int .i64 0, .int .i64 0]) (t := 40) ?_; intro gb470 hg w18 hbox hb; have n0_ := Aside0.mk (bqB (GS.bqX BK469.out) hb); have n1_ := Aside0.mk (lqT (GS.lB HB.out) hb); have n2_ := Aside0.mk (hbox); have n3_ := Aside0.mk ((by rw [hg]; exact (lqZ (GS.lB HB.out)) : w.heap.size ≤ gb470)); have n4_ := Aside0.mk ((by rw [hg]; exact (lqZ (GS.lB HB.out)) : w.heap.size ≤ gb470)); have n5_ := Aside0.mk ((by rw [hg]; exact Nat.ne_of_lt (blk_lt (GS.bqX BK469.out)) : gb469 ≠ gb470)); have n6_ := Aside0.mk ((by rw [hg]; exact Nat.ne_of_gt (blk_lt (GS.bqX BK469.out)) : gb470 ≠ gb469)); clear BK469; clear HB; have BK469 := n0_; have HB := n1_; have BK470 := n2_; have GW470 := n3_; have GE470 := n4_; have NB469_470 := n5_; have NB470_469 := n6_; clear n0_ n1_ n2_ n3_ n4_ n5_ n6_; clear hb hbox hg; have hnb19 := NB469_470.out; have hnc19 := NB470_469.out; obtain ⟨hcz20_0, hcz20_1, hcz20_2, hcz20_3, hfz20_0, hfz20_1, hfz20_2, hfz20_3⟩ := GS.c4 BK469.out) | ((with_reducible refine gqC (f := 23) rfl ?_); refine GS.gL (some 11) Try.func23 #[.agg #[.string a0_0, .int .i64 a0_1, .slice A0_2 l0_2.length c0_2, .int .i64 a0_3], .slice A1 l1.length c1] ?_; (with_reducible refine (spileref12_Sums.calls k a0_0 a0_1 _ _ l0_2 a0_3 _ _ l1 t471 t474 _ ?side1 ?side2 ?side3 ?side4 A3.out).mono ?_); (case side1 => exact GS.rC (Kd.C_below HR0_2.out HB.out)); (case side2 => exact HC0_2.out); (case side3 => exact GS.rC (Kd.C_below HR1.out HB.out)); (case side4 => exact HC1.out); rintro e w21 ⟨v472, rfl, ho0, hb⟩; refine ⟨_, rfl, ?_⟩; have n0_ := Aside0.mk (Kd.R_lower (Kd.R_newB ho0 (GS.bqX BK470.out)) (lqZ (GS.lB HB.out))); have n1_ := Aside0.mk (bqB (GS.bqX BK469.out) hb); have n2_ := Aside0.mk (bqB (GS.bqX BK470.out) hb); have n3_ := Aside0.mk (lqT (GS.lB HB.out) hb); clear BK469; clear BK470; clear HB; have HO473 := n0_; have BK469 := n1_; have BK470 := n2_; have HB := n3_; clear n0_ n1_ n2_ n3_; (try clear hb); (try clear hb2); (try clear hk); (try clear hi); (try clear ho0); obtain ⟨hcz22_0, hcz22_1, hfz22_0, hfz22_1⟩ := GS.c2 BK470.out))
  refine bodyPost_ret (results_ct rfl _ _ gb470 40 #[.int .i64 0, .int .i64 0] (0, 0) _ rfl (GS.bqZ BK470.out) Try.underlying40 rfl (by kernel_rfl)) rfl ?_
  exact ⟨by first | rfl | (simp [errW_none, errW_some] <;> rfl) | (simp [*, errW_none, errW_some] <;> rfl), GS.lB HB.out⟩

/-! ### spilelaw12_StandingSpaces: function 4 -/
def spilelaw12_StandingSpaces.f (k : Nat) (a0_0 : ByteArray) (a0_1 : Int) (l0_2 : List (S33)) (a0_3 : Int) (l1 : List Int) : Option (Bool) := (spilelaw12_awake.f k).bind fun t479 => (if t479 = true then ((spilelaw12_few.f k a0_0 a0_1 l0_2 a0_3 l1).bind fun t480 => (if t480 = true then ((spilelaw12_own.f k a0_0 a0_1 l0_2 a0_3).bind fun bt481 => ((clone18.f l1).bind fun t487 => ((standing_Between.f k bt481.1 bt481.2.1 bt481.2.2.1 bt481.2.2.2 t487).bind fun bt490 => ((spileref12_Between.f k a0_0 a0_1 l0_2 a0_3 l1).bind fun bt494 => ((spilelaw12_own.f k a0_0 a0_1 l0_2 a0_3).bind fun bt498 => ((clone18.f l1).bind fun t504 => ((standing_Sums.f k bt498.1 bt498.2.1 bt498.2.2.1 bt498.2.2.2 t504).bind fun bt507 => ((spileref12_Sums.f k a0_0 a0_1 l0_2 a0_3 l1).bind fun bt511 => (if (bt490.1 == bt494.1 && (bt490.2.1 == bt494.2.1)) = true then (if bt490.2.2 = bt494.2.2 then ((api_Bounds.f k bt507.1 bt511.1).bind fun t515 => (if t515 = true then (some (bt507.2 == bt511.2)) else (none))) else (none)) else (none)))))))))) else (some true))) else (none))
theorem spilelaw12_StandingSpaces.mono : ∀ a0 a1 a2 a3 a4 k, LeO (spilelaw12_StandingSpaces.f k a0 a1 a2 a3 a4) (spilelaw12_StandingSpaces.f (k + 1) a0 a1 a2 a3 a4) := by
 intro a0 a1 a2 a3 a4 k
 unfold spilelaw12_StandingSpaces.f
 repeat' first
   | (with_reducible exact api_Bounds.mono _ _ _)
   | (with_reducible exact spilelaw12_awake.mono _)
   | (with_reducible exact spilelaw12_few.mono _ _ _ _ _ _)
   | (with_reducible exact spilelaw12_own.mono _ _ _ _ _)
   | (with_reducible exact spileref12_Between.mono _ _ _ _ _ _)
   | (with_reducible exact spileref12_Sums.mono _ _ _ _ _ _)
   | (with_reducible exact standing_Between.mono _ _ _ _ _ _)
   | (with_reducible exact standing_Sums.mono _ _ _ _ _ _)
   | (with_reducible exact LeO.refl _)
   | (with_reducible exact LeO.none _)
   | (with_reducible refine LeO.ite ?_ ?_)
   | (with_reducible refine LeO.bind ?_ (fun _ => ?_))
   | exact api_Bounds.mono _ _ _
   | exact spilelaw12_awake.mono _
   | exact spilelaw12_few.mono _ _ _ _ _ _
   | exact spilelaw12_own.mono _ _ _ _ _
   | exact spileref12_Between.mono _ _ _ _ _ _
   | exact spileref12_Sums.mono _ _ _ _ _ _
   | exact standing_Between.mono _ _ _ _ _ _
   | exact standing_Sums.mono _ _ _ _ _ _
   | exact LeO.none _
   | refine LeO.ite ?_ ?_
   | refine LeO.bind ?_ (fun _ => ?_)
set_option maxHeartbeats 8000000 in
set_option maxRecDepth 100000 in
theorem spilelaw12_StandingSpaces.calls (k : Nat) (a0_0 : ByteArray) (a0_1 : Int) (A0_2 : Option Addr) (c0_2 : Nat) (l0_2 : List (S33)) (a0_3 : Int) (A1 : Option Addr) (c1 : Nat) (l1 : List Int) (r : Bool) (w : World) (hr0_2 : Kd.C k33 w A0_2 l0_2.length l0_2) (hc0_2 : l0_2.length ≤ c0_2) (hr1 : Kd.C (Kd.int .i64) w A1 l1.length l1) (hc1 : l1.length ≤ c1) (h : spilelaw12_StandingSpaces.f k a0_0 a0_1 l0_2 a0_3 l1 = some r) :
  Calls Try.prog 4 #[.agg #[.string a0_0, .int .i64 a0_1, .slice A0_2 l0_2.length c0_2, .int .i64 a0_3], .slice A1 l1.length c1] w fun e w' => e = .returned (.bool r) ∧ Below w.heap.size w w' := by
 have hu24 := Try.underlying24
 have hu40 := Try.underlying40
 have HR0_2 := Aside0.mk hr0_2
 have HC0_2 := Aside0.mk hc0_2
 clear hr0_2 hc0_2
 have HR1 := Aside0.mk hr1
 have HC1 := Aside0.mk hc1
 clear hr1 hc1
 have HB := Aside0.mk (Below.refl w.heap.size w)
 have H : ((spilelaw12_awake.f k).bind fun t479 => (if t479 = true then ((spilelaw12_few.f k a0_0 a0_1 l0_2 a0_3 l1).bind fun t480 => (if t480 = true then ((spilelaw12_own.f k a0_0 a0_1 l0_2 a0_3).bind fun bt481 => ((clone18.f l1).bind fun t487 => ((standing_Between.f k bt481.1 bt481.2.1 bt481.2.2.1 bt481.2.2.2 t487).bind fun bt490 => ((spileref12_Between.f k a0_0 a0_1 l0_2 a0_3 l1).bind fun bt494 => ((spilelaw12_own.f k a0_0 a0_1 l0_2 a0_3).bind fun bt498 => ((clone18.f l1).bind fun t504 => ((standing_Sums.f k bt498.1 bt498.2.1 bt498.2.2.1 bt498.2.2.2 t504).bind fun bt507 => ((spileref12_Sums.f k a0_0 a0_1 l0_2 a0_3 l1).bind fun bt511 => (if (bt490.1 == bt494.1 && (bt490.2.1 == bt494.2.1)) = true then (if bt490.2.2 = bt494.2.2 then ((api_Bounds.f k bt507.1 bt511.1).bind fun t515 => (if t515 = true then (some (bt507.2 == bt511.2)) else (none))) else (none)) else (none)))))))))) else (some true))) else (none))) = some r := h
 clear h
 replace H := Option.bind_eq_some_iff.mp H
 obtain ⟨t479, A30, H⟩ := H
 replace H : (if t479 = true then ((spilelaw12_few.f k a0_0 a0_1 l0_2 a0_3 l1).bind fun t480 => (if t480 = true then ((spilelaw12_own.f k a0_0 a0_1 l0_2 a0_3).bind fun bt481 => ((clone18.f l1).bind fun t487 => ((standing_Between.f k bt481.1 bt481.2.1 bt481.2.2.1 bt481.2.2.2 t487).bind fun bt490 => ((spileref12_Between.f k a0_0 a0_1 l0_2 a0_3 l1).bind fun bt494 => ((spilelaw12_own.f k a0_0 a0_1 l0_2 a0_3).bind fun bt498 => ((clone18.f l1).bind fun t504 => ((standing_Sums.f k bt498.1 bt498.2.1 bt498.2.2.1 bt498.2.2.2 t504).bind fun bt507 => ((spileref12_Sums.f k a0_0 a0_1 l0_2 a0_3 l1).bind fun bt511 => (if (bt490.1 == bt494.1 && (bt490.2.1 == bt494.2.1)) = true then (if bt490.2.2 = bt494.2.2 then ((api_Bounds.f k bt507.1 bt511.1).bind fun t515 => (if t515 = true then (some (bt507.2 == bt511.2)) else (none))) else (none)) else (none)))))))))) else (some true))) else (none)) = some r := H
 have A3 := Aside0.mk A30
 clear A30
 by_cases c4 : t479 = true
 ·subst c4
  have H1 : ((spilelaw12_few.f k a0_0 a0_1 l0_2 a0_3 l1).bind fun t480 => (if t480 = true then ((spilelaw12_own.f k a0_0 a0_1 l0_2 a0_3).bind fun bt481 => ((clone18.f l1).bind fun t487 => ((standing_Between.f k bt481.1 bt481.2.1 bt481.2.2.1 bt481.2.2.2 t487).bind fun bt490 => ((spileref12_Between.f k a0_0 a0_1 l0_2 a0_3 l1).bind fun bt494 => ((spilelaw12_own.f k a0_0 a0_1 l0_2 a0_3).bind fun bt498 => ((clone18.f l1).bind fun t504 => ((standing_Sums.f k bt498.1 bt498.2.1 bt498.2.2.1 bt498.2.2.2 t504).bind fun bt507 => ((spileref12_Sums.f k a0_0 a0_1 l0_2 a0_3 l1).bind fun bt511 => (if (bt490.1 == bt494.1 && (bt490.2.1 == bt494.2.1)) = true then (if bt490.2.2 = bt494.2.2 then ((api_Bounds.f k bt507.1 bt511.1).bind fun t515 => (if t515 = true then (some (bt507.2 == bt511.2)) else (none))) else (none)) else (none)))))))))) else (some true))) = some r := by rw [if_pos rfl] at H; exact H
  clear H
  have H := H1
  clear H1
  replace H := Option.bind_eq_some_iff.mp H
  obtain ⟨t480, A50, H⟩ := H
  replace H : (if t480 = true then ((spilelaw12_own.f k a0_0 a0_1 l0_2 a0_3).bind fun bt481 => ((clone18.f l1).bind fun t487 => ((standing_Between.f k bt481.1 bt481.2.1 bt481.2.2.1 bt481.2.2.2 t487).bind fun bt490 => ((spileref12_Between.f k a0_0 a0_1 l0_2 a0_3 l1).bind fun bt494 => ((spilelaw12_own.f k a0_0 a0_1 l0_2 a0_3).bind fun bt498 => ((clone18.f l1).bind fun t504 => ((standing_Sums.f k bt498.1 bt498.2.1 bt498.2.2.1 bt498.2.2.2 t504).bind fun bt507 => ((spileref12_Sums.f k a0_0 a0_1 l0_2 a0_3 l1).bind fun bt511 => (if (bt490.1 == bt494.1 && (bt490.2.1 == bt494.2.1)) = true then (if bt490.2.2 = bt494.2.2 then ((api_Bounds.f k bt507.1 bt511.1).bind fun t515 => (if t515 = true then (some (bt507.2 == bt511.2)) else (none))) else (none)) else (none)))))))))) else (some true)) = some r := H
  have A5 := Aside0.mk A50
  clear A50
  by_cases c6 : t480 = true
  ·subst c6
   have H1 : ((spilelaw12_own.f k a0_0 a0_1 l0_2 a0_3).bind fun bt481 => ((clone18.f l1).bind fun t487 => ((standing_Between.f k bt481.1 bt481.2.1 bt481.2.2.1 bt481.2.2.2 t487).bind fun bt490 => ((spileref12_Between.f k a0_0 a0_1 l0_2 a0_3 l1).bind fun bt494 => ((spilelaw12_own.f k a0_0 a0_1 l0_2 a0_3).bind fun bt498 => ((clone18.f l1).bind fun t504 => ((standing_Sums.f k bt498.1 bt498.2.1 bt498.2.2.1 bt498.2.2.2 t504).bind fun bt507 => ((spileref12_Sums.f k a0_0 a0_1 l0_2 a0_3 l1).bind fun bt511 => (if (bt490.1 == bt494.1 && (bt490.2.1 == bt494.2.1)) = true then (if bt490.2.2 = bt494.2.2 then ((api_Bounds.f k bt507.1 bt511.1).bind fun t515 => (if t515 = true then (some (bt507.2 == bt511.2)) else (none))) else (none)) else (none)))))))))) = some r := by rw [if_pos rfl] at H; exact H
   clear H
   have H := H1
   clear H1
   replace H := Option.bind_eq_some_iff.mp H
   obtain ⟨⟨t481, t482, t483, t486⟩, A70, H⟩ := H
   replace H : ((clone18.f l1).bind fun t487 => ((standing_Between.f k t481 t482 t483 t486 t487).bind fun bt490 => ((spileref12_Between.f k a0_0 a0_1 l0_2 a0_3 l1).bind fun bt494 => ((spilelaw12_own.f k a0_0 a0_1 l0_2 a0_3).bind fun bt498 => ((clone18.f l1).bind fun t504 => ((standing_Sums.f k bt498.1 bt498.2.1 bt498.2.2.1 bt498.2.2.2 t504).bind fun bt507 => ((spileref12_Sums.f k a0_0 a0_1 l0_2 a0_3 l1).bind fun bt511 => (if (bt490.1 == bt494.1 && (bt490.2.1 == bt494.2.1)) = true then (if bt490.2.2 = bt494.2.2 then ((api_Bounds.f k bt507.1 bt511.1).bind fun t515 => (if t515 = true then (some (bt507.2 == bt511.2)) else (none))) else (none)) else (none))))))))) = some r := H
   have A7 := Aside0.mk A70
   clear A70
   replace H := Option.bind_eq_some_iff.mp H
   obtain ⟨t487, A80, H⟩ := H
   replace H : ((standing_Between.f k t481 t482 t483 t486 t487).bind fun bt490 => ((spileref12_Between.f k a0_0 a0_1 l0_2 a0_3 l1).bind fun bt494 => ((spilelaw12_own.f k a0_0 a0_1 l0_2 a0_3).bind fun bt498 => ((clone18.f l1).bind fun t504 => ((standing_Sums.f k bt498.1 bt498.2.1 bt498.2.2.1 bt498.2.2.2 t504).bind fun bt507 => ((spileref12_Sums.f k a0_0 a0_1 l0_2 a0_3 l1).bind fun bt511 => (if (bt490.1 == bt494.1 && (bt490.2.1 == bt494.2.1)) = true then (if bt490.2.2 = bt494.2.2 then ((api_Bounds.f k bt507.1 bt511.1).bind fun t515 => (if t515 = true then (some (bt507.2 == bt511.2)) else (none))) else (none)) else (none)))))))) = some r := H
   have A8 := Aside0.mk A80
   clear A80
   replace H := Option.bind_eq_some_iff.mp H
   obtain ⟨⟨t490, t491, t492⟩, A90, H⟩ := H
   replace H : ((spileref12_Between.f k a0_0 a0_1 l0_2 a0_3 l1).bind fun bt494 => ((spilelaw12_own.f k a0_0 a0_1 l0_2 a0_3).bind fun bt498 => ((clone18.f l1).bind fun t504 => ((standing_Sums.f k bt498.1 bt498.2.1 bt498.2.2.1 bt498.2.2.2 t504).bind fun bt507 => ((spileref12_Sums.f k a0_0 a0_1 l0_2 a0_3 l1).bind fun bt511 => (if (t490 == bt494.1 && (t491 == bt494.2.1)) = true then (if t492 = bt494.2.2 then ((api_Bounds.f k bt507.1 bt511.1).bind fun t515 => (if t515 = true then (some (bt507.2 == bt511.2)) else (none))) else (none)) else (none))))))) = some r := H
   have A9 := Aside0.mk A90
   clear A90
   replace H := Option.bind_eq_some_iff.mp H
   obtain ⟨⟨t494, t495, t496⟩, A100, H⟩ := H
   replace H : ((spilelaw12_own.f k a0_0 a0_1 l0_2 a0_3).bind fun bt498 => ((clone18.f l1).bind fun t504 => ((standing_Sums.f k bt498.1 bt498.2.1 bt498.2.2.1 bt498.2.2.2 t504).bind fun bt507 => ((spileref12_Sums.f k a0_0 a0_1 l0_2 a0_3 l1).bind fun bt511 => (if (t490 == t494 && (t491 == t495)) = true then (if t492 = t496 then ((api_Bounds.f k bt507.1 bt511.1).bind fun t515 => (if t515 = true then (some (bt507.2 == bt511.2)) else (none))) else (none)) else (none)))))) = some r := H
   have A10 := Aside0.mk A100
   clear A100
   replace H := Option.bind_eq_some_iff.mp H
   obtain ⟨⟨t498, t499, t500, t503⟩, A110, H⟩ := H
   replace H : ((clone18.f l1).bind fun t504 => ((standing_Sums.f k t498 t499 t500 t503 t504).bind fun bt507 => ((spileref12_Sums.f k a0_0 a0_1 l0_2 a0_3 l1).bind fun bt511 => (if (t490 == t494 && (t491 == t495)) = true then (if t492 = t496 then ((api_Bounds.f k bt507.1 bt511.1).bind fun t515 => (if t515 = true then (some (bt507.2 == bt511.2)) else (none))) else (none)) else (none))))) = some r := H
   have A11 := Aside0.mk A110
   clear A110
   replace H := Option.bind_eq_some_iff.mp H
   obtain ⟨t504, A120, H⟩ := H
   replace H : ((standing_Sums.f k t498 t499 t500 t503 t504).bind fun bt507 => ((spileref12_Sums.f k a0_0 a0_1 l0_2 a0_3 l1).bind fun bt511 => (if (t490 == t494 && (t491 == t495)) = true then (if t492 = t496 then ((api_Bounds.f k bt507.1 bt511.1).bind fun t515 => (if t515 = true then (some (bt507.2 == bt511.2)) else (none))) else (none)) else (none)))) = some r := H
   have A12 := Aside0.mk A120
   clear A120
   replace H := Option.bind_eq_some_iff.mp H
   obtain ⟨⟨t507, t510⟩, A130, H⟩ := H
   replace H : ((spileref12_Sums.f k a0_0 a0_1 l0_2 a0_3 l1).bind fun bt511 => (if (t490 == t494 && (t491 == t495)) = true then (if t492 = t496 then ((api_Bounds.f k t507 bt511.1).bind fun t515 => (if t515 = true then (some (t510 == bt511.2)) else (none))) else (none)) else (none))) = some r := H
   have A13 := Aside0.mk A130
   clear A130
   replace H := Option.bind_eq_some_iff.mp H
   obtain ⟨⟨t511, t514⟩, A140, H⟩ := H
   replace H : (if (t490 == t494 && (t491 == t495)) = true then (if t492 = t496 then ((api_Bounds.f k t507 t511).bind fun t515 => (if t515 = true then (some (t510 == t514)) else (none))) else (none)) else (none)) = some r := H
   have A14 := Aside0.mk A140
   clear A140
   by_cases c15 : (t490 == t494 && (t491 == t495)) = true
   ·rw [if_pos c15] at H
    have c15b0 : (t490 == t494 && (t491 == t495)) = true := c15
    try simp only [beq_self_eq_true, Bool.not_true, Bool.false_or, Bool.true_and] at c15b0
    (try (have c15b1 : decide (t490 = t494 && (t491 == t495)) = true := by simpa using c15))
    (try (have c15b2 : (t490 == t494 && (t491 == t495)) = true := by simpa using c15))
    clear c15
    by_cases c16 : t492 = t496
    ·rw [if_pos c16] at H
     have c16b0 : (t492 == t496) = true := beq_iff_eq.mpr c16
     try simp only [beq_self_eq_true, Bool.not_true, Bool.false_or, Bool.true_and] at c16b0
     have c16b1 : (t492 != t496) = false := bne_eq_false_iff_eq.mpr c16
     clear c16
     replace H := Option.bind_eq_some_iff.mp H
     obtain ⟨t515, A170, H⟩ := H
     replace H : (if t515 = true then (some (t510 == t514)) else (none)) = some r := H
     have A17 := Aside0.mk A170
     clear A170
     by_cases c18 : t515 = true
     ·subst c18
      have H1 : (some (t510 == t514)) = some r := by rw [if_pos rfl] at H; exact H
      clear H
      have H := H1
      clear H1
      obtain rfl := Option.some.inj H
      go_enter Try.func4, Try.ntmps4
      go_wp2_with (first | ((with_reducible refine gqD (N := 2) rfl ?_); refine GS.bx (N := 2) (cs := #[.string a0_0, .int .i64 a0_1, .slice A0_2 l0_2.length c0_2, .int .i64 a0_3]) (t := 24) ?_; intro gb478 hg w19 hbox hb; have n0_ := Aside0.mk (lqT (GS.lB HB.out) hb); have n1_ := Aside0.mk (hbox); have n2_ := Aside0.mk ((by rw [hg]; exact (lqZ (GS.lB HB.out)) : w.heap.size ≤ gb478)); have n3_ := Aside0.mk ((by rw [hg]; exact (lqZ (GS.lB HB.out)) : w.heap.size ≤ gb478)); clear HB; have HB := n0_; have BK478 := n1_; have GW478 := n2_; have GE478 := n3_; clear n0_ n1_ n2_ n3_; clear hb hbox hg) | ((with_reducible refine gqC (f := 10) rfl ?_); refine GS.gL (some 13) Try.func10 #[] ?_; (with_reducible refine (spilelaw12_awake.calls k  true _ A3.out).mono ?_); rintro e w20 ⟨rfl, hb⟩; refine ⟨_, rfl, ?_⟩; have n0_ := Aside0.mk (bqB (GS.bqX BK478.out) hb); have n1_ := Aside0.mk (lqT (GS.lB HB.out) hb); clear BK478; clear HB; have BK478 := n0_; have HB := n1_; clear n0_ n1_; (try clear hb); (try clear hb2); (try clear hk); (try clear hi); obtain ⟨hcz21_0, hcz21_1, hcz21_2, hcz21_3, hfz21_0, hfz21_1, hfz21_2, hfz21_3⟩ := GS.c4 BK478.out) | ((with_reducible refine gqC (f := 11) rfl ?_); refine GS.gL (some 17) Try.func11 #[.agg #[.string a0_0, .int .i64 a0_1, .slice A0_2 l0_2.length c0_2, .int .i64 a0_3], .slice A1 l1.length c1] ?_; (with_reducible refine (spilelaw12_few.calls k a0_0 a0_1 (fun k_ => k_ < w.heap.size) _ _ l0_2 a0_3 _ _ l1 true _ ?side1 ?side2 ?side3 A5.out).mono ?_); (case side1 => exact Kd.V_mk HC0_2.out (Kd.F_below (Kd.C_F k33_heap HR0_2.out) (GS.lB HB.out))); (case side2 => exact GS.rC (Kd.C_below HR1.out HB.out)); (case side3 => exact HC1.out); rintro e w22 ⟨rfl, hb⟩; refine ⟨_, rfl, ?_⟩; have n0_ := Aside0.mk (bqB (GS.bqX BK478.out) hb); have n1_ := Aside0.mk (lqT (GS.lB HB.out) hb); clear BK478; clear HB; have BK478 := n0_; have HB := n1_; clear n0_ n1_; (try clear hb); (try clear hb2); (try clear hk); (try clear hi); obtain ⟨hcz23_0, hcz23_1, hcz23_2, hcz23_3, hfz23_0, hfz23_1, hfz23_2, hfz23_3⟩ := GS.c4 BK478.out) | ((with_reducible refine gqC (f := 17) rfl ?_); refine GS.gL (some 21) Try.func17 #[.agg #[.string a0_0, .int .i64 a0_1, .slice A0_2 l0_2.length c0_2, .int .i64 a0_3]] ?_; (with_reducible refine (spilelaw12_own.calls k a0_0 a0_1 (fun k_ => k_ < w.heap.size) _ _ l0_2 a0_3 t481 t482 t483 t486 _ ?side1 A7.out).mono ?_); (case side1 => exact Kd.V_mk HC0_2.out (Kd.F_below (Kd.C_F k33_heap HR0_2.out) (GS.lB HB.out))); rintro e w24 ⟨v484, rfl, ho0, hb⟩; refine ⟨_, rfl, ?_⟩; have n0_ := Aside0.mk (Kd.V_lower (Kd.V_mono (ok' := fun k_ => k_ ≠ gb478) ho0 (fun k_ hk_ => Or.elim hk_ (fun hs_ => fun e_ => Nat.not_le.2 hs_ (by rw [e_]; exact GW478.out)) (fun hn_ => (Kd.freshB (GS.bqX BK478.out) k_ hn_)))) (lqZ (GS.lB HB.out))); have n1_ := Aside0.mk (bqB (GS.bqX BK478.out) hb); have n2_ := Aside0.mk (lqT (GS.lB HB.out) hb); clear BK478; clear HB; have HO485 := n0_; have BK478 := n1_; have HB := n2_; clear n0_ n1_ n2_; (try clear hb); (try clear hb2); (try clear hk); (try clear hi); (try clear ho0)) | ((with_reducible refine gqC (f := 18) rfl ?_); refine GS.gL (some 23) Try.func18 #[.slice A1 l1.length c1] ?_; (with_reducible refine (clone18.calls _ _ l1 t487 _ ?side1 ?side2 A8.out).mono ?_); (case side1 => exact GS.rC (Kd.C_below HR1.out HB.out)); (case side2 => exact HC1.out); rintro e w25 ⟨v488, rfl, ho0, hb⟩; refine ⟨_, rfl, ?_⟩; have n0_ := Aside0.mk (Kd.V_elder' (by (with_reducible repeat (first | apply Kd.V_alloc | apply Kd.V_drewN | apply Kd.V_drew)); exact HO485.out) (Kd.R_base ho0) hb); have n1_ := Aside0.mk (Kd.R_lower ho0 (lqZ (GS.lB HB.out))); have n2_ := Aside0.mk (bqB (GS.bqX BK478.out) hb); have n3_ := Aside0.mk (lqT (GS.lB HB.out) hb); clear HO485; clear BK478; clear HB; have HO485 := n0_; have HO489 := n1_; have BK478 := n2_; have HB := n3_; clear n0_ n1_ n2_ n3_; (try clear hb); (try clear hb2); (try clear hk); (try clear hi); (try clear ho0); obtain ⟨Ao26, co26, eo26⟩ := Kd.V_slice HO485.out; subst eo26; obtain ⟨Ao27, co27, eo27⟩ := Kd.R_slice HO489.out; subst eo27) | ((with_reducible refine gqC (f := 20) rfl ?_); refine GS.gL (some 24) Try.func20 #[.agg #[.string t481, .int .i64 t482, .slice Ao26 t483.length co26, .int .i64 t486], .slice Ao27 t487.length co27] ?_; (with_reducible refine (standing_Between.calls k t481 t482 _ _ t483 t486 _ _ t487 t490 t491 t492 _ ?side1 ?side2 ?side3 ?side4 A9.out).mono ?_); (case side1 => repeat (first | exact (Kd.V_reads' HO485.out).2.2 | (with_reducible refine Kd.C_alloc ?_ _) | (with_reducible refine Kd.C_drewN ?_ _) | (with_reducible refine Kd.C_drew ?_))); (case side2 => exact (Kd.V_reads' HO485.out).2.1); (case side3 => repeat (first | exact (Kd.R_reads' HO489.out).2.2 | (with_reducible refine Kd.C_alloc ?_ _) | (with_reducible refine Kd.C_drewN ?_ _) | (with_reducible refine Kd.C_drew ?_))); (case side4 => exact (Kd.R_reads' HO489.out).2.1); rintro e w28 ⟨rfl, hb⟩; refine ⟨_, rfl, ?_⟩; have n0_ := Aside0.mk (Kd.V_below (by (with_reducible repeat (first | apply Kd.V_alloc | apply Kd.V_drewN | apply Kd.V_drew)); exact HO485.out) hb); have n1_ := Aside0.mk (Kd.R_below (GS.rR HO489.out) hb); have n2_ := Aside0.mk (bqB (GS.bqX BK478.out) hb); have n3_ := Aside0.mk (lqT (GS.lB HB.out) hb); clear HO485; clear HO489; clear BK478; clear HB; have HO485 := n0_; have HO489 := n1_; have BK478 := n2_; have HB := n3_; clear n0_ n1_ n2_ n3_; (try clear hb); (try clear hb2); (try clear hk); (try clear hi)) | ((with_reducible refine gqD (N := 5) rfl ?_); refine GS.bx (N := 5) (cs := #[.int .i64 0, .int .i64 0]) (t := 40) ?_; intro gb493 hg w29 hbox hb; have n0_ := Aside0.mk (Kd.V_below (Kd.V_elderB (by (with_reducible repeat (first | apply Kd.V_alloc | apply Kd.V_drewN | apply Kd.V_drew)); exact HO485.out) gb493 (Nat.le_of_eq hg.symm)) hb); have n1_ := Aside0.mk (Kd.R_below (GS.rR HO489.out) hb); have n2_ := Aside0.mk (bqB (GS.bqX BK478.out) hb); have n3_ := Aside0.mk (lqT (GS.lB HB.out) hb); have n4_ := Aside0.mk (hbox); have n5_ := Aside0.mk ((by rw [hg]; exact (lqZ (GS.lB HB.out)) : w.heap.size ≤ gb493)); have n6_ := Aside0.mk ((by rw [hg]; exact (lqZ (GS.lB HB.out)) : w.heap.size ≤ gb493)); have n7_ := Aside0.mk ((by rw [hg]; exact Nat.ne_of_lt (blk_lt (GS.bqX BK478.out)) : gb478 ≠ gb493)); have n8_ := Aside0.mk ((by rw [hg]; exact Nat.ne_of_gt (blk_lt (GS.bqX BK478.out)) : gb493 ≠ gb478)); clear HO485; clear HO489; clear BK478; clear HB; have HO485 := n0_; have HO489 := n1_; have BK478 := n2_; have HB := n3_; have BK493 := n4_; have GW493 := n5_; have GE493 := n6_; have NB478_493 := n7_; have NB493_478 := n8_; clear n0_ n1_ n2_ n3_ n4_ n5_ n6_ n7_ n8_; clear hb hbox hg; have hnb30 := NB493_478.out; have hnc30 := NB478_493.out; obtain ⟨hcz31_0, hcz31_1, hfz31_0, hfz31_1⟩ := GS.c2 BK493.out; obtain ⟨hcz32_0, hcz32_1, hcz32_2, hcz32_3, hfz32_0, hfz32_1, hfz32_2, hfz32_3⟩ := GS.c4 BK478.out) | ((with_reducible refine gqC (f := 21) rfl ?_); refine GS.gL (some 30) Try.func21 #[.agg #[.string a0_0, .int .i64 a0_1, .slice A0_2 l0_2.length c0_2, .int .i64 a0_3], .slice A1 l1.length c1] ?_; (with_reducible refine (spileref12_Between.calls k a0_0 a0_1 _ _ l0_2 a0_3 _ _ l1 t494 t495 t496 _ ?side1 ?side2 ?side3 ?side4 A10.out).mono ?_); (case side1 => exact Kd.C_below HR0_2.out (GS.lB HB.out)); (case side2 => exact HC0_2.out); (case side3 => exact Kd.C_below HR1.out (GS.lB HB.out)); (case side4 => exact HC1.out); rintro e w33 ⟨rfl, hb⟩; refine ⟨_, rfl, ?_⟩; have n0_ := Aside0.mk (Kd.V_below (by (with_reducible repeat (first | apply Kd.V_alloc | apply Kd.V_drewN | apply Kd.V_drew)); exact (Kd.V_mono (Kd.V_far (p := ⟨gb493, 1, none⟩) (Kd.V_far (p := ⟨gb493, 0, none⟩) (Kd.V_mono HO485.out (fun k_ hk => (⟨hk, GS.cj hk⟩ : _ ∧ k_ ≠ gb493))) (fun _ hk => hk.2) (.int .i64 t490)) (fun _ hk => hk.2) (.int .i64 t491)) (fun _ h_ => h_.1))) hb); have n1_ := Aside0.mk (Kd.R_below (by (with_reducible repeat (first | apply Kd.R_alloc | apply Kd.R_drewN | apply Kd.R_drew)); exact (Kd.R_mono (Kd.R_far (p := ⟨gb493, 1, none⟩) (Kd.R_far (p := ⟨gb493, 0, none⟩) (Kd.R_types HO489.out BK493.out (by decide)) (fun _ hk => hk.2) (.int .i64 t490)) (fun _ hk => hk.2) (.int .i64 t491)) (fun _ h_ => h_.1))) hb); have n2_ := Aside0.mk (bqB (GS.bqX BK478.out) hb); have n3_ := Aside0.mk (bqB (g := gb493) (o := .cells #[.int .i64 t490, .int .i64 t491] 40 (0, 0)) (GS.bqZ BK493.out) hb); have n4_ := Aside0.mk (lqT (GS.lB HB.out) hb); clear HO485; clear HO489; clear BK478; clear BK493; clear HB; have HO485 := n0_; have HO489 := n1_; have BK478 := n2_; have BK493 := n3_; have HB := n4_; clear n0_ n1_ n2_ n3_ n4_; (try clear hb); (try clear hb2); (try clear hk); (try clear hi)) | ((with_reducible refine gqD (N := 7) rfl ?_); refine GS.bx (N := 7) (cs := #[.int .i64 0, .int .i64 0]) (t := 40) ?_; intro gb497 hg w34 hbox hb; have n0_ := Aside0.mk (Kd.V_below (Kd.V_elderB (by (with_reducible repeat (first | apply Kd.V_alloc | apply Kd.V_drewN | apply Kd.V_drew)); exact HO485.out) gb497 (Nat.le_of_eq hg.symm)) hb); have n1_ := Aside0.mk (Kd.R_below (GS.rR HO489.out) hb); have n2_ := Aside0.mk (bqB (GS.bqX BK478.out) hb); have n3_ := Aside0.mk (bqB (GS.bqX BK493.out) hb); have n4_ := Aside0.mk (lqT (GS.lB HB.out) hb); have n5_ := Aside0.mk (hbox); have n6_ := Aside0.mk ((by rw [hg]; exact (lqZ (GS.lB HB.out)) : w.heap.size ≤ gb497)); have n7_ := Aside0.mk ((by rw [hg]; exact (lqZ (GS.lB HB.out)) : w.heap.size ≤ gb497)); have n8_ := Aside0.mk ((by rw [hg]; exact Nat.ne_of_lt (blk_lt (GS.bqX BK478.out)) : gb478 ≠ gb497)); have n9_ := Aside0.mk ((by rw [hg]; exact Nat.ne_of_gt (blk_lt (GS.bqX BK478.out)) : gb497 ≠ gb478)); have n10_ := Aside0.mk ((by rw [hg]; exact Nat.ne_of_lt (blk_lt (GS.bqX BK493.out)) : gb493 ≠ gb497)); have n11_ := Aside0.mk ((by rw [hg]; exact Nat.ne_of_gt (blk_lt (GS.bqX BK493.out)) : gb497 ≠ gb493)); clear HO485; clear HO489; clear BK478; clear BK493; clear HB; have HO485 := n0_; have HO489 := n1_; have BK478 := n2_; have BK493 := n3_; have HB := n4_; have BK497 := n5_; have GW497 := n6_; have GE497 := n7_; have NB478_497 := n8_; have NB497_478 := n9_; have NB493_497 := n10_; have NB497_493 := n11_; clear n0_ n1_ n2_ n3_ n4_ n5_ n6_ n7_ n8_ n9_ n10_ n11_; clear hb hbox hg; have hnb35 := NB497_478.out; have hnc35 := NB478_497.out; have hnb36 := NB497_493.out; have hnc36 := NB493_497.out; obtain ⟨hcz37_0, hcz37_1, hfz37_0, hfz37_1⟩ := GS.c2 BK497.out) | ((with_reducible refine gate_store (t := 40) (p := 7) rfl ?_); refine store_event (t := 40) (p := 7) (v := ?vo_w38) (w1 := ((w34.setCell ⟨gb497, 0, none⟩ (.int .i64 t494)).setCell ⟨gb497, 1, none⟩ (.int .i64 t495))) ?hg ?ho ?hn ?hr ?_; (case ho => rfl); (case hg => rfl); (case hn => rfl); (case hr => first | (go_simp; done) | (go_simp; rfl)); intro w38 hw; have n0_ : Aside0 (Kd.V k33 33 w38 w.heap.size (fun k_ => some k_ ≠ (.slice Ao27 t487.length co27 : Value).ownBlock ∧ k_ ≠ gb478 ∧ k_ ≠ gb493 ∧ k_ ≠ gb497) (.slice Ao26 t483.length co26) t483) := ⟨(by rw [hw]; exact (by (with_reducible repeat (first | apply Kd.V_alloc | apply Kd.V_drewN | apply Kd.V_drew)); exact Kd.V_mono (Kd.V_far (p := ⟨gb497, 1, none⟩) (Kd.V_far (p := ⟨gb497, 0, none⟩) (Kd.V_mono HO485.out (fun k_ hk => (⟨hk, GS.cj hk⟩ : _ ∧ k_ ≠ gb497))) (fun _ hk => hk.2) (.int .i64 t494)) (fun _ hk => hk.2) (.int .i64 t495)) (fun _ hk => GS.cj hk)))⟩; have n1_ : Aside0 (Kd.R (Kd.int .i64) 3 w38 w.heap.size (fun _ => True) (.slice Ao27 t487.length co27) t487) := ⟨(by rw [hw]; exact (by (with_reducible repeat (first | apply Kd.R_alloc | apply Kd.R_drewN | apply Kd.R_drew)); exact Kd.R_mono (Kd.R_far (p := ⟨gb497, 1, none⟩) (Kd.R_far (p := ⟨gb497, 0, none⟩) (Kd.R_types HO489.out BK497.out (by decide)) (fun _ hk => hk.2) (.int .i64 t494)) (fun _ hk => hk.2) (.int .i64 t495)) (fun _ hk => trivial)))⟩; have n2_ : Aside0 (w38.heap[gb478]? = some (.cells #[.string a0_0, .int .i64 a0_1, .slice A0_2 l0_2.length c0_2, .int .i64 a0_3] 24 (0, 0))) := ⟨(by rw [hw]; exact (GS.bqX BK478.out))⟩; have n3_ : Aside0 (w38.heap[gb493]? = some (.cells #[.int .i64 t490, .int .i64 t491] 40 (0, 0))) := ⟨(by rw [hw]; exact (GS.bqX BK493.out))⟩; have n4_ : Aside0 (w38.heap[gb497]? = some (.cells #[.int .i64 t494, .int .i64 t495] 40 (0, 0))) := ⟨(by rw [hw]; exact (GS.bqZ BK497.out))⟩; have n5_ : Aside0 (Below w.heap.size w w38) := ⟨(by rw [hw]; exact (GS.lB HB.out))⟩; clear hw; clear HO485; clear HO489; clear BK478; clear BK493; clear BK497; clear HB; have HO485 := n0_; have HO489 := n1_; have BK478 := n2_; have BK493 := n3_; have BK497 := n4_; have HB := n5_; clear n0_ n1_ n2_ n3_ n4_ n5_; obtain ⟨hcz39_0, hcz39_1, hcz39_2, hcz39_3, hfz39_0, hfz39_1, hfz39_2, hfz39_3⟩ := GS.c4 BK478.out) | ((with_reducible refine gqC (f := 17) rfl ?_); refine GS.gL (some 35) Try.func17 #[.agg #[.string a0_0, .int .i64 a0_1, .slice A0_2 l0_2.length c0_2, .int .i64 a0_3]] ?_; (with_reducible refine (spilelaw12_own.calls k a0_0 a0_1 (fun k_ => k_ < w.heap.size) _ _ l0_2 a0_3 t498 t499 t500 t503 _ ?side1 A11.out).mono ?_); (case side1 => exact Kd.V_mk HC0_2.out (Kd.F_below (Kd.C_F k33_heap HR0_2.out) (GS.lB HB.out))); rintro e w40 ⟨v501, rfl, ho0, hb⟩; refine ⟨_, rfl, ?_⟩; have n0_ := Aside0.mk (Kd.V_below (by (with_reducible repeat (first | apply Kd.V_alloc | apply Kd.V_drewN | apply Kd.V_drew)); exact HO485.out) hb); have n1_ := Aside0.mk (Kd.R_below (GS.rR HO489.out) hb); have n2_ := Aside0.mk (Kd.V_lower (Kd.V_mono (ok' := fun k_ => some k_ ≠ (.slice Ao27 t487.length co27 : Value).ownBlock ∧ k_ ≠ gb478 ∧ k_ ≠ gb493 ∧ k_ ≠ gb497) ho0 (fun k_ hk_ => ⟨Or.elim hk_ (fun hs_ => fun e_ => Nat.not_le.2 hs_ (Kd.R_base HO489.out k_ e_.symm)) (fun hn_ => (Kd.fresh' (Kd.R_lt (GS.rR HO489.out)) k_ hn_)), Or.elim hk_ (fun hs_ => fun e_ => Nat.not_le.2 hs_ (by rw [e_]; exact GW478.out)) (fun hn_ => (Kd.freshB (GS.bqX BK478.out) k_ hn_)), Or.elim hk_ (fun hs_ => fun e_ => Nat.not_le.2 hs_ (by rw [e_]; exact GW493.out)) (fun hn_ => (Kd.freshB (GS.bqX BK493.out) k_ hn_)), Or.elim hk_ (fun hs_ => fun e_ => Nat.not_le.2 hs_ (by rw [e_]; exact GW497.out)) (fun hn_ => (Kd.freshB (GS.bqX BK497.out) k_ hn_))⟩)) (lqZ (GS.lB HB.out))); have n3_ := Aside0.mk (bqB (GS.bqX BK478.out) hb); have n4_ := Aside0.mk (bqB (GS.bqX BK493.out) hb); have n5_ := Aside0.mk (bqB (GS.bqX BK497.out) hb); have n6_ := Aside0.mk (lqT (GS.lB HB.out) hb); clear HO485; clear HO489; clear BK478; clear BK493; clear BK497; clear HB; have HO485 := n0_; have HO489 := n1_; have HO502 := n2_; have BK478 := n3_; have BK493 := n4_; have BK497 := n5_; have HB := n6_; clear n0_ n1_ n2_ n3_ n4_ n5_ n6_; (try clear hb); (try clear hb2); (try clear hk); (try clear hi); (try clear ho0)) | ((with_reducible refine gqC (f := 18) rfl ?_); refine GS.gL (some 37) Try.func18 #[.slice A1 l1.length c1] ?_; (with_reducible refine (clone18.calls _ _ l1 t504 _ ?side1 ?side2 A12.out).mono ?_); (case side1 => exact GS.rC (Kd.C_below HR1.out HB.out)); (case side2 => exact HC1.out); rintro e w41 ⟨v505, rfl, ho0, hb⟩; refine ⟨_, rfl, ?_⟩; have n0_ := Aside0.mk (Kd.V_elder' (by (with_reducible repeat (first | apply Kd.V_alloc | apply Kd.V_drewN | apply Kd.V_drew)); exact HO485.out) (Kd.R_base ho0) hb); have n1_ := Aside0.mk (Kd.R_elder' (GS.rR HO489.out) (Kd.R_base ho0) hb); have n2_ := Aside0.mk (Kd.V_elder' (by (with_reducible repeat (first | apply Kd.V_alloc | apply Kd.V_drewN | apply Kd.V_drew)); exact HO502.out) (Kd.R_base ho0) hb); have n3_ := Aside0.mk (Kd.R_lower (Kd.R_new' ho0 (Kd.R_lt (GS.rR HO489.out))) (lqZ (GS.lB HB.out))); have n4_ := Aside0.mk (bqB (GS.bqX BK478.out) hb); have n5_ := Aside0.mk (bqB (GS.bqX BK493.out) hb); have n6_ := Aside0.mk (bqB (GS.bqX BK497.out) hb); have n7_ := Aside0.mk (lqT (GS.lB HB.out) hb); clear HO485; clear HO489; clear HO502; clear BK478; clear BK493; clear BK497; clear HB; have HO485 := n0_; have HO489 := n1_; have HO502 := n2_; have HO506 := n3_; have BK478 := n4_; have BK493 := n5_; have BK497 := n6_; have HB := n7_; clear n0_ n1_ n2_ n3_ n4_ n5_ n6_ n7_; (try clear hb); (try clear hb2); (try clear hk); (try clear hi); (try clear ho0); obtain ⟨Ao42, co42, eo42⟩ := Kd.V_slice HO502.out; subst eo42; obtain ⟨Ao43, co43, eo43⟩ := Kd.R_slice HO506.out; subst eo43) | ((with_reducible refine gqC (f := 22) rfl ?_); refine GS.gL (some 38) Try.func22 #[.agg #[.string t498, .int .i64 t499, .slice Ao42 t500.length co42, .int .i64 t503], .slice Ao43 t504.length co43] ?_; (with_reducible refine (standing_Sums.calls k t498 t499 _ _ t500 t503 _ _ t504 t507 t510 _ ?side1 ?side2 ?side3 ?side4 A13.out).mono ?_); (case side1 => repeat (first | exact (Kd.V_reads' HO502.out).2.2 | (with_reducible refine Kd.C_alloc ?_ _) | (with_reducible refine Kd.C_drewN ?_ _) | (with_reducible refine Kd.C_drew ?_))); (case side2 => exact (Kd.V_reads' HO502.out).2.1); (case side3 => repeat (first | exact (Kd.R_reads' HO506.out).2.2 | (with_reducible refine Kd.C_alloc ?_ _) | (with_reducible refine Kd.C_drewN ?_ _) | (with_reducible refine Kd.C_drew ?_))); (case side4 => exact (Kd.R_reads' HO506.out).2.1); rintro e w44 ⟨v508, rfl, ho0, hb⟩; refine ⟨_, rfl, ?_⟩; have n0_ := Aside0.mk (Kd.V_elder' (by (with_reducible repeat (first | apply Kd.V_alloc | apply Kd.V_drewN | apply Kd.V_drew)); exact HO485.out) (Kd.R_base ho0) hb); have n1_ := Aside0.mk (Kd.R_below (GS.rR HO489.out) hb); have n2_ := Aside0.mk (Kd.V_elder' (by (with_reducible repeat (first | apply Kd.V_alloc | apply Kd.V_drewN | apply Kd.V_drew)); exact HO502.out) (Kd.R_base ho0) hb); have n3_ := Aside0.mk (Kd.R_below (GS.rR HO506.out) hb); have n4_ := Aside0.mk (Kd.R_lower (Kd.R_newB (Kd.R_newB ho0 (GS.bqX BK493.out)) (GS.bqX BK497.out)) (lqZ (GS.lB HB.out))); have n5_ := Aside0.mk (bqB (GS.bqX BK478.out) hb); have n6_ := Aside0.mk (bqB (GS.bqX BK493.out) hb); have n7_ := Aside0.mk (bqB (GS.bqX BK497.out) hb); have n8_ := Aside0.mk (lqT (GS.lB HB.out) hb); clear HO485; clear HO489; clear HO502; clear HO506; clear BK478; clear BK493; clear BK497; clear HB; have HO485 := n0_; have HO489 := n1_; have HO502 := n2_; have HO506 := n3_; have HO509 := n4_; have BK478 := n5_; have BK493 := n6_; have BK497 := n7_; have HB := n8_; clear n0_ n1_ n2_ n3_ n4_ n5_ n6_ n7_ n8_; (try clear hb); (try clear hb2); (try clear hk); (try clear hi); (try clear ho0); obtain ⟨hcz45_0, hcz45_1, hcz45_2, hcz45_3, hfz45_0, hfz45_1, hfz45_2, hfz45_3⟩ := GS.c4 BK478.out) | ((with_reducible refine gqC (f := 23) rfl ?_); refine GS.gL (some 44) Try.func23 #[.agg #[.string a0_0, .int .i64 a0_1, .slice A0_2 l0_2.length c0_2, .int .i64 a0_3], .slice A1 l1.length c1] ?_; (with_reducible refine (spileref12_Sums.calls k a0_0 a0_1 _ _ l0_2 a0_3 _ _ l1 t511 t514 _ ?side1 ?side2 ?side3 ?side4 A14.out).mono ?_); (case side1 => exact GS.rC (Kd.C_below HR0_2.out HB.out)); (case side2 => exact HC0_2.out); (case side3 => exact GS.rC (Kd.C_below HR1.out HB.out)); (case side4 => exact HC1.out); rintro e w46 ⟨v512, rfl, ho0, hb⟩; refine ⟨_, rfl, ?_⟩; have n0_ := Aside0.mk (Kd.V_elder' (by (with_reducible repeat (first | apply Kd.V_alloc | apply Kd.V_drewN | apply Kd.V_drew)); exact HO485.out) (Kd.R_base ho0) hb); have n1_ := Aside0.mk (Kd.R_below (GS.rR HO489.out) hb); have n2_ := Aside0.mk (Kd.V_elder' (by (with_reducible repeat (first | apply Kd.V_alloc | apply Kd.V_drewN | apply Kd.V_drew)); exact HO502.out) (Kd.R_base ho0) hb); have n3_ := Aside0.mk (Kd.R_below (GS.rR HO506.out) hb); have n4_ := Aside0.mk (Kd.R_elder' (GS.rR HO509.out) (Kd.R_base ho0) hb); have n5_ := Aside0.mk (Kd.R_lower (Kd.R_newB (Kd.R_newB (Kd.R_new' ho0 (Kd.R_lt (GS.rR HO509.out))) (GS.bqX BK493.out)) (GS.bqX BK497.out)) (lqZ (GS.lB HB.out))); have n6_ := Aside0.mk (bqB (GS.bqX BK478.out) hb); have n7_ := Aside0.mk (bqB (GS.bqX BK493.out) hb); have n8_ := Aside0.mk (bqB (GS.bqX BK497.out) hb); have n9_ := Aside0.mk (lqT (GS.lB HB.out) hb); clear HO485; clear HO489; clear HO502; clear HO506; clear HO509; clear BK478; clear BK493; clear BK497; clear HB; have HO485 := n0_; have HO489 := n1_; have HO502 := n2_; have HO506 := n3_; have HO509 := n4_; have HO513 := n5_; have BK478 := n6_; have BK493 := n7_; have BK497 := n8_; have HB := n9_; clear n0_ n1_ n2_ n3_ n4_ n5_ n6_ n7_ n8_ n9_; (try clear hb); (try clear hb2); (try clear hk); (try clear hi); (try clear ho0); obtain ⟨hcz47_0, hcz47_1, hfz47_0, hfz47_1⟩ := GS.c2 BK493.out; obtain ⟨hcz48_0, hcz48_1, hfz48_0, hfz48_1⟩ := GS.c2 BK497.out; obtain ⟨Ao49, co49, eo49⟩ := Kd.R_slice HO509.out; subst eo49; obtain ⟨Ao50, co50, eo50⟩ := Kd.R_slice HO513.out; subst eo50) | (go_at_call 24; (with_reducible refine (api_Bounds.calls k _ _ t507 _ _ t511 true _ ?side1 ?side2 ?side3 ?side4 A17.out).mono ?_); (case side1 => repeat (first | exact (Kd.R_reads' HO509.out).2.2 | (with_reducible refine Kd.C_alloc ?_ _) | (with_reducible refine Kd.C_drewN ?_ _) | (with_reducible refine Kd.C_drew ?_))); (case side2 => exact (Kd.R_reads' HO509.out).2.1); (case side3 => repeat (first | exact (Kd.R_reads' HO513.out).2.2 | (with_reducible refine Kd.C_alloc ?_ _) | (with_reducible refine Kd.C_drewN ?_ _) | (with_reducible refine Kd.C_drew ?_))); (case side4 => exact (Kd.R_reads' HO513.out).2.1); rintro e w' ⟨rfl, ⟨nd, rfl⟩⟩))
      go_ret
      exact ⟨by first | rfl | (simp [errW_none, errW_some] <;> rfl) | (simp [*, errW_none, errW_some] <;> rfl), GS.lB HB.out⟩
     ·replace c18 := Bool.eq_false_iff.mpr c18
      subst c18
      have H1 : (none) = some r := by rw [if_neg (show ¬ (false = true) by decide)] at H; exact H
      clear H
      have H := H1
      clear H1
      exact absurd H (by simp)
    ·rw [if_neg c16] at H
     exact absurd H (by simp)
   ·rw [if_neg c15] at H
    exact absurd H (by simp)
  ·replace c6 := Bool.eq_false_iff.mpr c6
   subst c6
   have H1 : (some true) = some r := by rw [if_neg (show ¬ (false = true) by decide)] at H; exact H
   clear H
   have H := H1
   clear H1
   obtain rfl := Option.some.inj H
   go_enter Try.func4, Try.ntmps4
   go_wp2_with (first | ((with_reducible refine gqD (N := 2) rfl ?_); refine GS.bx (N := 2) (cs := #[.string a0_0, .int .i64 a0_1, .slice A0_2 l0_2.length c0_2, .int .i64 a0_3]) (t := 24) ?_; intro gb478 hg w51 hbox hb; have n0_ := Aside0.mk (lqT (GS.lB HB.out) hb); have n1_ := Aside0.mk (hbox); have n2_ := Aside0.mk ((by rw [hg]; exact (lqZ (GS.lB HB.out)) : w.heap.size ≤ gb478)); have n3_ := Aside0.mk ((by rw [hg]; exact (lqZ (GS.lB HB.out)) : w.heap.size ≤ gb478)); clear HB; have HB := n0_; have BK478 := n1_; have GW478 := n2_; have GE478 := n3_; clear n0_ n1_ n2_ n3_; clear hb hbox hg) | ((with_reducible refine gqC (f := 10) rfl ?_); refine GS.gL (some 13) Try.func10 #[] ?_; (with_reducible refine (spilelaw12_awake.calls k  true _ A3.out).mono ?_); rintro e w52 ⟨rfl, hb⟩; refine ⟨_, rfl, ?_⟩; have n0_ := Aside0.mk (bqB (GS.bqX BK478.out) hb); have n1_ := Aside0.mk (lqT (GS.lB HB.out) hb); clear BK478; clear HB; have BK478 := n0_; have HB := n1_; clear n0_ n1_; (try clear hb); (try clear hb2); (try clear hk); (try clear hi); obtain ⟨hcz53_0, hcz53_1, hcz53_2, hcz53_3, hfz53_0, hfz53_1, hfz53_2, hfz53_3⟩ := GS.c4 BK478.out) | ((with_reducible refine gqC (f := 11) rfl ?_); refine GS.gL (some 17) Try.func11 #[.agg #[.string a0_0, .int .i64 a0_1, .slice A0_2 l0_2.length c0_2, .int .i64 a0_3], .slice A1 l1.length c1] ?_; (with_reducible refine (spilelaw12_few.calls k a0_0 a0_1 (fun k_ => k_ < w.heap.size) _ _ l0_2 a0_3 _ _ l1 false _ ?side1 ?side2 ?side3 A5.out).mono ?_); (case side1 => exact Kd.V_mk HC0_2.out (Kd.F_below (Kd.C_F k33_heap HR0_2.out) (GS.lB HB.out))); (case side2 => exact GS.rC (Kd.C_below HR1.out HB.out)); (case side3 => exact HC1.out); rintro e w54 ⟨rfl, hb⟩; refine ⟨_, rfl, ?_⟩; have n0_ := Aside0.mk (bqB (GS.bqX BK478.out) hb); have n1_ := Aside0.mk (lqT (GS.lB HB.out) hb); clear BK478; clear HB; have BK478 := n0_; have HB := n1_; clear n0_ n1_; (try clear hb); (try clear hb2); (try clear hk); (try clear hi)))
   go_ret
   exact ⟨by first | rfl | (simp [errW_none, errW_some] <;> rfl) | (simp [*, errW_none, errW_some] <;> rfl), GS.lB HB.out⟩
 ·replace c4 := Bool.eq_false_iff.mpr c4
  subst c4
  have H1 : (none) = some r := by rw [if_neg (show ¬ (false = true) by decide)] at H; exact H
  clear H
  have H := H1
  clear H1
  exact absurd H (by simp)

/-! ### spileref12_Wet: function 26 -/
def spileref12_Wet.f (k : Nat) (a0_0 : ByteArray) (a0_1 : Int) (l0_2 : List (S33)) (a0_3 : Int) (a1 : Int) (a2 : Int) : Option (Int × Int × Int) := (spileref12_is.f k a0_0 a0_1 l0_2 a0_3).bind fun t518 => (if t518 = 0 then ((spileref12_Levels.f k l0_2 a1 a2).bind fun bt519 => (if bt519.2 = 0 then (if a1 = 0 then (some (0, 0, bt519.2)) else ((spileref12_Between.f k a0_0 a0_1 l0_2 a0_3 bt519.1).bind fun bt523 => (some (bt523.1, bt523.2.1, bt523.2.2)))) else (some (0, 0, bt519.2)))) else (some (0, 0, t518)))
theorem spileref12_Wet.mono : ∀ a0 a1 a2 a3 a4 a5 k, LeO (spileref12_Wet.f k a0 a1 a2 a3 a4 a5) (spileref12_Wet.f (k + 1) a0 a1 a2 a3 a4 a5) := by
 intro a0 a1 a2 a3 a4 a5 k
 unfold spileref12_Wet.f
 repeat' first
   | (with_reducible exact spileref12_Between.mono _ _ _ _ _ _)
   | (with_reducible exact spileref12_Levels.mono _ _ _ _)
   | (with_reducible exact spileref12_is.mono _ _ _ _ _)
   | (with_reducible exact LeO.refl _)
   | (with_reducible exact LeO.none _)
   | (with_reducible refine LeO.ite ?_ ?_)
   | (with_reducible refine LeO.bind ?_ (fun _ => ?_))
   | exact spileref12_Between.mono _ _ _ _ _ _
   | exact spileref12_Levels.mono _ _ _ _
   | exact spileref12_is.mono _ _ _ _ _
   | exact LeO.none _
   | refine LeO.ite ?_ ?_
   | refine LeO.bind ?_ (fun _ => ?_)
set_option maxHeartbeats 8000000 in
set_option maxRecDepth 100000 in
theorem spileref12_Wet.calls (k : Nat) (a0_0 : ByteArray) (a0_1 : Int) (A0_2 : Option Addr) (c0_2 : Nat) (l0_2 : List (S33)) (a0_3 : Int) (a1 : Int) (a2 : Int) (r1 : Int) (r2 : Int) (r3 : Int) (w : World) (hr0_2 : Kd.C k33 w A0_2 l0_2.length l0_2) (hc0_2 : l0_2.length ≤ c0_2) (h : spileref12_Wet.f k a0_0 a0_1 l0_2 a0_3 a1 a2 = some (r1, r2, r3)) :
  Calls Try.prog 26 #[.agg #[.string a0_0, .int .i64 a0_1, .slice A0_2 l0_2.length c0_2, .int .i64 a0_3], .int .i64 a1, .int .i64 a2] w fun e w' => e = .returned (.tuple #[.agg #[.int .i64 r1, .int .i64 r2], .int .i64 r3]) ∧ Below w.heap.size w w' := by
 have hu24 := Try.underlying24
 have hu40 := Try.underlying40
 have HR0_2 := Aside0.mk hr0_2
 have HC0_2 := Aside0.mk hc0_2
 clear hr0_2 hc0_2
 have HB := Aside0.mk (Below.refl w.heap.size w)
 have H : ((spileref12_is.f k a0_0 a0_1 l0_2 a0_3).bind fun t518 => (if t518 = 0 then ((spileref12_Levels.f k l0_2 a1 a2).bind fun bt519 => (if bt519.2 = 0 then (if a1 = 0 then (some (0, 0, bt519.2)) else ((spileref12_Between.f k a0_0 a0_1 l0_2 a0_3 bt519.1).bind fun bt523 => (some (bt523.1, bt523.2.1, bt523.2.2)))) else (some (0, 0, bt519.2)))) else (some (0, 0, t518)))) = some (r1, r2, r3) := h
 clear h
 replace H := Option.bind_eq_some_iff.mp H
 obtain ⟨t518, A40, H⟩ := H
 replace H : (if t518 = 0 then ((spileref12_Levels.f k l0_2 a1 a2).bind fun bt519 => (if bt519.2 = 0 then (if a1 = 0 then (some (0, 0, bt519.2)) else ((spileref12_Between.f k a0_0 a0_1 l0_2 a0_3 bt519.1).bind fun bt523 => (some (bt523.1, bt523.2.1, bt523.2.2)))) else (some (0, 0, bt519.2)))) else (some (0, 0, t518))) = some (r1, r2, r3) := H
 have A4 := Aside0.mk A40
 clear A40
 by_cases c5 : t518 = 0
 ·rw [if_pos c5] at H
  have c5b0 : (t518 == 0) = true := beq_iff_eq.mpr c5
  try simp only [beq_self_eq_true, Bool.not_true, Bool.false_or, Bool.true_and] at c5b0
  have c5b1 : (t518 != 0) = false := bne_eq_false_iff_eq.mpr c5
  clear c5
  replace H := Option.bind_eq_some_iff.mp H
  obtain ⟨⟨t519, t520⟩, A60, H⟩ := H
  replace H : (if t520 = 0 then (if a1 = 0 then (some (0, 0, t520)) else ((spileref12_Between.f k a0_0 a0_1 l0_2 a0_3 t519).bind fun bt523 => (some (bt523.1, bt523.2.1, bt523.2.2)))) else (some (0, 0, t520))) = some (r1, r2, r3) := H
  have A6 := Aside0.mk A60
  clear A60
  by_cases c7 : t520 = 0
  ·rw [if_pos c7] at H
   have c7b0 : (t520 == 0) = true := beq_iff_eq.mpr c7
   try simp only [beq_self_eq_true, Bool.not_true, Bool.false_or, Bool.true_and] at c7b0
   have c7b1 : (t520 != 0) = false := bne_eq_false_iff_eq.mpr c7
   clear c7
   by_cases c8 : a1 = 0
   ·rw [if_pos c8] at H
    have c8b0 : (a1 == 0) = true := beq_iff_eq.mpr c8
    try simp only [beq_self_eq_true, Bool.not_true, Bool.false_or, Bool.true_and] at c8b0
    have c8b1 : (a1 != 0) = false := bne_eq_false_iff_eq.mpr c8
    clear c8
    simp only [Option.some.injEq, Prod.mk.injEq] at H
    obtain ⟨rfl, rfl, rfl⟩ := H
    go_enter Try.func26, Try.ntmps26
    go_wp2_with (first | ((with_reducible refine gqD (N := 3) rfl ?_); refine GS.bx (N := 3) (cs := #[.string a0_0, .int .i64 a0_1, .slice A0_2 l0_2.length c0_2, .int .i64 a0_3]) (t := 24) ?_; intro gb516 hg w9 hbox hb; have n0_ := Aside0.mk (lqT (GS.lB HB.out) hb); have n1_ := Aside0.mk (hbox); have n2_ := Aside0.mk ((by rw [hg]; exact (lqZ (GS.lB HB.out)) : w.heap.size ≤ gb516)); have n3_ := Aside0.mk ((by rw [hg]; exact (lqZ (GS.lB HB.out)) : w.heap.size ≤ gb516)); clear HB; have HB := n0_; have BK516 := n1_; have GW516 := n2_; have GE516 := n3_; clear n0_ n1_ n2_ n3_; clear hb hbox hg) | ((with_reducible refine gqD (N := 6) rfl ?_); refine GS.bx (N := 6) (cs := #[.int .i64 0, .int .i64 0]) (t := 40) ?_; intro gb517 hg w10 hbox hb; have n0_ := Aside0.mk (bqB (GS.bqX BK516.out) hb); have n1_ := Aside0.mk (lqT (GS.lB HB.out) hb); have n2_ := Aside0.mk (hbox); have n3_ := Aside0.mk ((by rw [hg]; exact (lqZ (GS.lB HB.out)) : w.heap.size ≤ gb517)); have n4_ := Aside0.mk ((by rw [hg]; exact (lqZ (GS.lB HB.out)) : w.heap.size ≤ gb517)); have n5_ := Aside0.mk ((by rw [hg]; exact Nat.ne_of_lt (blk_lt (GS.bqX BK516.out)) : gb516 ≠ gb517)); have n6_ := Aside0.mk ((by rw [hg]; exact Nat.ne_of_gt (blk_lt (GS.bqX BK516.out)) : gb517 ≠ gb516)); clear BK516; clear HB; have BK516 := n0_; have HB := n1_; have BK517 := n2_; have GW517 := n3_; have GE517 := n4_; have NB516_517 := n5_; have NB517_516 := n6_; clear n0_ n1_ n2_ n3_ n4_ n5_ n6_; clear hb hbox hg; have hnb11 := NB516_517.out; have hnc11 := NB517_516.out; obtain ⟨hcz12_0, hcz12_1, hcz12_2, hcz12_3, hfz12_0, hfz12_1, hfz12_2, hfz12_3⟩ := GS.c4 BK516.out) | ((with_reducible refine gqC (f := 40) rfl ?_); refine GS.gL (some 12) Try.func40 #[.agg #[.string a0_0, .int .i64 a0_1, .slice A0_2 l0_2.length c0_2, .int .i64 a0_3]] ?_; (with_reducible refine (spileref12_is.calls k a0_0 a0_1 _ _ l0_2 a0_3 t518 _ ?side1 ?side2 A4.out).mono ?_); (case side1 => exact GS.rC (Kd.C_below HR0_2.out HB.out)); (case side2 => exact HC0_2.out); rintro e w13 ⟨rfl, hb⟩; refine ⟨_, rfl, ?_⟩; have n0_ := Aside0.mk (bqB (GS.bqX BK516.out) hb); have n1_ := Aside0.mk (bqB (GS.bqX BK517.out) hb); have n2_ := Aside0.mk (lqT (GS.lB HB.out) hb); clear BK516; clear BK517; clear HB; have BK516 := n0_; have BK517 := n1_; have HB := n2_; clear n0_ n1_ n2_; (try clear hb); (try clear hb2); (try clear hk); (try clear hi); obtain ⟨hcz14_0, hcz14_1, hcz14_2, hcz14_3, hfz14_0, hfz14_1, hfz14_2, hfz14_3⟩ := GS.c4 BK516.out) | ((with_reducible refine gqC (f := 14) rfl ?_); refine GS.gL (some 22) Try.func14 #[.slice A0_2 l0_2.length c0_2, .int .i64 a1, .int .i64 a2] ?_; (with_reducible refine (spileref12_Levels.calls k _ _ l0_2 a1 a2 t519 t520 _ ?side1 ?side2 A6.out).mono ?_); (case side1 => exact GS.rC (Kd.C_below HR0_2.out HB.out)); (case side2 => exact HC0_2.out); rintro e w15 ⟨v521, rfl, ho0, hb⟩; refine ⟨_, rfl, ?_⟩; have n0_ := Aside0.mk (Kd.R_lower ho0 (lqZ (GS.lB HB.out))); have n1_ := Aside0.mk (bqB (GS.bqX BK516.out) hb); have n2_ := Aside0.mk (bqB (GS.bqX BK517.out) hb); have n3_ := Aside0.mk (lqT (GS.lB HB.out) hb); clear BK516; clear BK517; clear HB; have HO522 := n0_; have BK516 := n1_; have BK517 := n2_; have HB := n3_; clear n0_ n1_ n2_ n3_; (try clear hb); (try clear hb2); (try clear hk); (try clear hi); (try clear ho0); obtain ⟨hcz16_0, hcz16_1, hfz16_0, hfz16_1⟩ := GS.c2 BK517.out))
    refine bodyPost_ret (results_ct rfl _ _ gb517 40 #[.int .i64 0, .int .i64 0] (0, 0) _ rfl (GS.bqZ BK517.out) Try.underlying40 rfl (by kernel_rfl)) rfl ?_
    exact ⟨by first | rfl | (simp [errW_none, errW_some] <;> rfl) | (simp [*, errW_none, errW_some] <;> rfl), GS.lB HB.out⟩
   ·rw [if_neg c8] at H
    have c8b0 : (a1 == 0) = false := beq_eq_false_iff_ne.mpr c8
    try simp only [beq_self_eq_true, Bool.not_true, Bool.false_or, Bool.true_and] at c8b0
    have c8b1 : (a1 != 0) = true := bne_iff_ne.mpr c8
    replace H := Option.bind_eq_some_iff.mp H
    obtain ⟨⟨t523, t524, t525⟩, A170, H⟩ := H
    replace H : (some (t523, t524, t525)) = some (r1, r2, r3) := H
    have A17 := Aside0.mk A170
    clear A170
    simp only [Option.some.injEq, Prod.mk.injEq] at H
    obtain ⟨rfl, rfl, rfl⟩ := H
    go_enter Try.func26, Try.ntmps26
    go_wp2_with (first | ((with_reducible refine gqD (N := 3) rfl ?_); refine GS.bx (N := 3) (cs := #[.string a0_0, .int .i64 a0_1, .slice A0_2 l0_2.length c0_2, .int .i64 a0_3]) (t := 24) ?_; intro gb516 hg w18 hbox hb; have n0_ := Aside0.mk (lqT (GS.lB HB.out) hb); have n1_ := Aside0.mk (hbox); have n2_ := Aside0.mk ((by rw [hg]; exact (lqZ (GS.lB HB.out)) : w.heap.size ≤ gb516)); have n3_ := Aside0.mk ((by rw [hg]; exact (lqZ (GS.lB HB.out)) : w.heap.size ≤ gb516)); clear HB; have HB := n0_; have BK516 := n1_; have GW516 := n2_; have GE516 := n3_; clear n0_ n1_ n2_ n3_; clear hb hbox hg) | ((with_reducible refine gqD (N := 6) rfl ?_); refine GS.bx (N := 6) (cs := #[.int .i64 0, .int .i64 0]) (t := 40) ?_; intro gb517 hg w19 hbox hb; have n0_ := Aside0.mk (bqB (GS.bqX BK516.out) hb); have n1_ := Aside0.mk (lqT (GS.lB HB.out) hb); have n2_ := Aside0.mk (hbox); have n3_ := Aside0.mk ((by rw [hg]; exact (lqZ (GS.lB HB.out)) : w.heap.size ≤ gb517)); have n4_ := Aside0.mk ((by rw [hg]; exact (lqZ (GS.lB HB.out)) : w.heap.size ≤ gb517)); have n5_ := Aside0.mk ((by rw [hg]; exact Nat.ne_of_lt (blk_lt (GS.bqX BK516.out)) : gb516 ≠ gb517)); have n6_ := Aside0.mk ((by rw [hg]; exact Nat.ne_of_gt (blk_lt (GS.bqX BK516.out)) : gb517 ≠ gb516)); clear BK516; clear HB; have BK516 := n0_; have HB := n1_; have BK517 := n2_; have GW517 := n3_; have GE517 := n4_; have NB516_517 := n5_; have NB517_516 := n6_; clear n0_ n1_ n2_ n3_ n4_ n5_ n6_; clear hb hbox hg; have hnb20 := NB516_517.out; have hnc20 := NB517_516.out; obtain ⟨hcz21_0, hcz21_1, hcz21_2, hcz21_3, hfz21_0, hfz21_1, hfz21_2, hfz21_3⟩ := GS.c4 BK516.out) | ((with_reducible refine gqC (f := 40) rfl ?_); refine GS.gL (some 12) Try.func40 #[.agg #[.string a0_0, .int .i64 a0_1, .slice A0_2 l0_2.length c0_2, .int .i64 a0_3]] ?_; (with_reducible refine (spileref12_is.calls k a0_0 a0_1 _ _ l0_2 a0_3 t518 _ ?side1 ?side2 A4.out).mono ?_); (case side1 => exact GS.rC (Kd.C_below HR0_2.out HB.out)); (case side2 => exact HC0_2.out); rintro e w22 ⟨rfl, hb⟩; refine ⟨_, rfl, ?_⟩; have n0_ := Aside0.mk (bqB (GS.bqX BK516.out) hb); have n1_ := Aside0.mk (bqB (GS.bqX BK517.out) hb); have n2_ := Aside0.mk (lqT (GS.lB HB.out) hb); clear BK516; clear BK517; clear HB; have BK516 := n0_; have BK517 := n1_; have HB := n2_; clear n0_ n1_ n2_; (try clear hb); (try clear hb2); (try clear hk); (try clear hi); obtain ⟨hcz23_0, hcz23_1, hcz23_2, hcz23_3, hfz23_0, hfz23_1, hfz23_2, hfz23_3⟩ := GS.c4 BK516.out) | ((with_reducible refine gqC (f := 14) rfl ?_); refine GS.gL (some 22) Try.func14 #[.slice A0_2 l0_2.length c0_2, .int .i64 a1, .int .i64 a2] ?_; (with_reducible refine (spileref12_Levels.calls k _ _ l0_2 a1 a2 t519 t520 _ ?side1 ?side2 A6.out).mono ?_); (case side1 => exact GS.rC (Kd.C_below HR0_2.out HB.out)); (case side2 => exact HC0_2.out); rintro e w24 ⟨v521, rfl, ho0, hb⟩; refine ⟨_, rfl, ?_⟩; have n0_ := Aside0.mk (Kd.R_lower ho0 (lqZ (GS.lB HB.out))); have n1_ := Aside0.mk (bqB (GS.bqX BK516.out) hb); have n2_ := Aside0.mk (bqB (GS.bqX BK517.out) hb); have n3_ := Aside0.mk (lqT (GS.lB HB.out) hb); clear BK516; clear BK517; clear HB; have HO522 := n0_; have BK516 := n1_; have BK517 := n2_; have HB := n3_; clear n0_ n1_ n2_ n3_; (try clear hb); (try clear hb2); (try clear hk); (try clear hi); (try clear ho0); obtain ⟨hcz25_0, hcz25_1, hcz25_2, hcz25_3, hfz25_0, hfz25_1, hfz25_2, hfz25_3⟩ := GS.c4 BK516.out; obtain ⟨Ao26, co26, eo26⟩ := Kd.R_slice HO522.out; subst eo26) | ((with_reducible refine gqC (f := 21) rfl ?_); refine GS.gL (some 35) Try.func21 #[.agg #[.string a0_0, .int .i64 a0_1, .slice A0_2 l0_2.length c0_2, .int .i64 a0_3], .slice Ao26 t519.length co26] ?_; (with_reducible refine (spileref12_Between.calls k a0_0 a0_1 _ _ l0_2 a0_3 _ _ t519 t523 t524 t525 _ ?side1 ?side2 ?side3 ?side4 A17.out).mono ?_); (case side1 => exact GS.rC (Kd.C_below HR0_2.out HB.out)); (case side2 => exact HC0_2.out); (case side3 => repeat (first | exact (Kd.R_reads' HO522.out).2.2 | (with_reducible refine Kd.C_alloc ?_ _) | (with_reducible refine Kd.C_drewN ?_ _) | (with_reducible refine Kd.C_drew ?_))); (case side4 => exact (Kd.R_reads' HO522.out).2.1); rintro e w27 ⟨rfl, hb⟩; refine ⟨_, rfl, ?_⟩; have n0_ := Aside0.mk (Kd.R_below (GS.rR HO522.out) hb); have n1_ := Aside0.mk (bqB (GS.bqX BK516.out) hb); have n2_ := Aside0.mk (bqB (GS.bqX BK517.out) hb); have n3_ := Aside0.mk (lqT (GS.lB HB.out) hb); clear HO522; clear BK516; clear BK517; clear HB; have HO522 := n0_; have BK516 := n1_; have BK517 := n2_; have HB := n3_; clear n0_ n1_ n2_ n3_; (try clear hb); (try clear hb2); (try clear hk); (try clear hi); obtain ⟨hcz28_0, hcz28_1, hfz28_0, hfz28_1⟩ := GS.c2 BK517.out))
    refine bodyPost_ret (results_ct rfl _ _ gb517 40 #[.int .i64 t523, .int .i64 t524] (0, 0) _ rfl (GS.bqZ BK517.out) Try.underlying40 rfl (by kernel_rfl)) rfl ?_
    exact ⟨by first | rfl | (simp [errW_none, errW_some] <;> rfl) | (simp [*, errW_none, errW_some] <;> rfl), GS.lB HB.out⟩
  ·rw [if_neg c7] at H
   have c7b0 : (t520 == 0) = false := beq_eq_false_iff_ne.mpr c7
   try simp only [beq_self_eq_true, Bool.not_true, Bool.false_or, Bool.true_and] at c7b0
   have c7b1 : (t520 != 0) = true := bne_iff_ne.mpr c7
   simp only [Option.some.injEq, Prod.mk.injEq] at H
   obtain ⟨rfl, rfl, rfl⟩ := H
   go_enter Try.func26, Try.ntmps26
   go_wp2_with (first | ((with_reducible refine gqD (N := 3) rfl ?_); refine GS.bx (N := 3) (cs := #[.string a0_0, .int .i64 a0_1, .slice A0_2 l0_2.length c0_2, .int .i64 a0_3]) (t := 24) ?_; intro gb516 hg w29 hbox hb; have n0_ := Aside0.mk (lqT (GS.lB HB.out) hb); have n1_ := Aside0.mk (hbox); have n2_ := Aside0.mk ((by rw [hg]; exact (lqZ (GS.lB HB.out)) : w.heap.size ≤ gb516)); have n3_ := Aside0.mk ((by rw [hg]; exact (lqZ (GS.lB HB.out)) : w.heap.size ≤ gb516)); clear HB; have HB := n0_; have BK516 := n1_; have GW516 := n2_; have GE516 := n3_; clear n0_ n1_ n2_ n3_; clear hb hbox hg) | ((with_reducible refine gqD (N := 6) rfl ?_); refine GS.bx (N := 6) (cs := #[.int .i64 0, .int .i64 0]) (t := 40) ?_; intro gb517 hg w30 hbox hb; have n0_ := Aside0.mk (bqB (GS.bqX BK516.out) hb); have n1_ := Aside0.mk (lqT (GS.lB HB.out) hb); have n2_ := Aside0.mk (hbox); have n3_ := Aside0.mk ((by rw [hg]; exact (lqZ (GS.lB HB.out)) : w.heap.size ≤ gb517)); have n4_ := Aside0.mk ((by rw [hg]; exact (lqZ (GS.lB HB.out)) : w.heap.size ≤ gb517)); have n5_ := Aside0.mk ((by rw [hg]; exact Nat.ne_of_lt (blk_lt (GS.bqX BK516.out)) : gb516 ≠ gb517)); have n6_ := Aside0.mk ((by rw [hg]; exact Nat.ne_of_gt (blk_lt (GS.bqX BK516.out)) : gb517 ≠ gb516)); clear BK516; clear HB; have BK516 := n0_; have HB := n1_; have BK517 := n2_; have GW517 := n3_; have GE517 := n4_; have NB516_517 := n5_; have NB517_516 := n6_; clear n0_ n1_ n2_ n3_ n4_ n5_ n6_; clear hb hbox hg; have hnb31 := NB516_517.out; have hnc31 := NB517_516.out; obtain ⟨hcz32_0, hcz32_1, hcz32_2, hcz32_3, hfz32_0, hfz32_1, hfz32_2, hfz32_3⟩ := GS.c4 BK516.out) | ((with_reducible refine gqC (f := 40) rfl ?_); refine GS.gL (some 12) Try.func40 #[.agg #[.string a0_0, .int .i64 a0_1, .slice A0_2 l0_2.length c0_2, .int .i64 a0_3]] ?_; (with_reducible refine (spileref12_is.calls k a0_0 a0_1 _ _ l0_2 a0_3 t518 _ ?side1 ?side2 A4.out).mono ?_); (case side1 => exact GS.rC (Kd.C_below HR0_2.out HB.out)); (case side2 => exact HC0_2.out); rintro e w33 ⟨rfl, hb⟩; refine ⟨_, rfl, ?_⟩; have n0_ := Aside0.mk (bqB (GS.bqX BK516.out) hb); have n1_ := Aside0.mk (bqB (GS.bqX BK517.out) hb); have n2_ := Aside0.mk (lqT (GS.lB HB.out) hb); clear BK516; clear BK517; clear HB; have BK516 := n0_; have BK517 := n1_; have HB := n2_; clear n0_ n1_ n2_; (try clear hb); (try clear hb2); (try clear hk); (try clear hi); obtain ⟨hcz34_0, hcz34_1, hcz34_2, hcz34_3, hfz34_0, hfz34_1, hfz34_2, hfz34_3⟩ := GS.c4 BK516.out) | ((with_reducible refine gqC (f := 14) rfl ?_); refine GS.gL (some 22) Try.func14 #[.slice A0_2 l0_2.length c0_2, .int .i64 a1, .int .i64 a2] ?_; (with_reducible refine (spileref12_Levels.calls k _ _ l0_2 a1 a2 t519 t520 _ ?side1 ?side2 A6.out).mono ?_); (case side1 => exact GS.rC (Kd.C_below HR0_2.out HB.out)); (case side2 => exact HC0_2.out); rintro e w35 ⟨v521, rfl, ho0, hb⟩; refine ⟨_, rfl, ?_⟩; have n0_ := Aside0.mk (Kd.R_lower ho0 (lqZ (GS.lB HB.out))); have n1_ := Aside0.mk (bqB (GS.bqX BK516.out) hb); have n2_ := Aside0.mk (bqB (GS.bqX BK517.out) hb); have n3_ := Aside0.mk (lqT (GS.lB HB.out) hb); clear BK516; clear BK517; clear HB; have HO522 := n0_; have BK516 := n1_; have BK517 := n2_; have HB := n3_; clear n0_ n1_ n2_ n3_; (try clear hb); (try clear hb2); (try clear hk); (try clear hi); (try clear ho0); obtain ⟨hcz36_0, hcz36_1, hfz36_0, hfz36_1⟩ := GS.c2 BK517.out))
   refine bodyPost_ret (results_ct rfl _ _ gb517 40 #[.int .i64 0, .int .i64 0] (0, 0) _ rfl (GS.bqZ BK517.out) Try.underlying40 rfl (by kernel_rfl)) rfl ?_
   exact ⟨by first | rfl | (simp [errW_none, errW_some] <;> rfl) | (simp [*, errW_none, errW_some] <;> rfl), GS.lB HB.out⟩
 ·rw [if_neg c5] at H
  have c5b0 : (t518 == 0) = false := beq_eq_false_iff_ne.mpr c5
  try simp only [beq_self_eq_true, Bool.not_true, Bool.false_or, Bool.true_and] at c5b0
  have c5b1 : (t518 != 0) = true := bne_iff_ne.mpr c5
  simp only [Option.some.injEq, Prod.mk.injEq] at H
  obtain ⟨rfl, rfl, rfl⟩ := H
  go_enter Try.func26, Try.ntmps26
  go_wp2_with (first | ((with_reducible refine gqD (N := 3) rfl ?_); refine GS.bx (N := 3) (cs := #[.string a0_0, .int .i64 a0_1, .slice A0_2 l0_2.length c0_2, .int .i64 a0_3]) (t := 24) ?_; intro gb516 hg w37 hbox hb; have n0_ := Aside0.mk (lqT (GS.lB HB.out) hb); have n1_ := Aside0.mk (hbox); have n2_ := Aside0.mk ((by rw [hg]; exact (lqZ (GS.lB HB.out)) : w.heap.size ≤ gb516)); have n3_ := Aside0.mk ((by rw [hg]; exact (lqZ (GS.lB HB.out)) : w.heap.size ≤ gb516)); clear HB; have HB := n0_; have BK516 := n1_; have GW516 := n2_; have GE516 := n3_; clear n0_ n1_ n2_ n3_; clear hb hbox hg) | ((with_reducible refine gqD (N := 6) rfl ?_); refine GS.bx (N := 6) (cs := #[.int .i64 0, .int .i64 0]) (t := 40) ?_; intro gb517 hg w38 hbox hb; have n0_ := Aside0.mk (bqB (GS.bqX BK516.out) hb); have n1_ := Aside0.mk (lqT (GS.lB HB.out) hb); have n2_ := Aside0.mk (hbox); have n3_ := Aside0.mk ((by rw [hg]; exact (lqZ (GS.lB HB.out)) : w.heap.size ≤ gb517)); have n4_ := Aside0.mk ((by rw [hg]; exact (lqZ (GS.lB HB.out)) : w.heap.size ≤ gb517)); have n5_ := Aside0.mk ((by rw [hg]; exact Nat.ne_of_lt (blk_lt (GS.bqX BK516.out)) : gb516 ≠ gb517)); have n6_ := Aside0.mk ((by rw [hg]; exact Nat.ne_of_gt (blk_lt (GS.bqX BK516.out)) : gb517 ≠ gb516)); clear BK516; clear HB; have BK516 := n0_; have HB := n1_; have BK517 := n2_; have GW517 := n3_; have GE517 := n4_; have NB516_517 := n5_; have NB517_516 := n6_; clear n0_ n1_ n2_ n3_ n4_ n5_ n6_; clear hb hbox hg; have hnb39 := NB516_517.out; have hnc39 := NB517_516.out; obtain ⟨hcz40_0, hcz40_1, hcz40_2, hcz40_3, hfz40_0, hfz40_1, hfz40_2, hfz40_3⟩ := GS.c4 BK516.out) | ((with_reducible refine gqC (f := 40) rfl ?_); refine GS.gL (some 12) Try.func40 #[.agg #[.string a0_0, .int .i64 a0_1, .slice A0_2 l0_2.length c0_2, .int .i64 a0_3]] ?_; (with_reducible refine (spileref12_is.calls k a0_0 a0_1 _ _ l0_2 a0_3 t518 _ ?side1 ?side2 A4.out).mono ?_); (case side1 => exact GS.rC (Kd.C_below HR0_2.out HB.out)); (case side2 => exact HC0_2.out); rintro e w41 ⟨rfl, hb⟩; refine ⟨_, rfl, ?_⟩; have n0_ := Aside0.mk (bqB (GS.bqX BK516.out) hb); have n1_ := Aside0.mk (bqB (GS.bqX BK517.out) hb); have n2_ := Aside0.mk (lqT (GS.lB HB.out) hb); clear BK516; clear BK517; clear HB; have BK516 := n0_; have BK517 := n1_; have HB := n2_; clear n0_ n1_ n2_; (try clear hb); (try clear hb2); (try clear hk); (try clear hi); obtain ⟨hcz42_0, hcz42_1, hfz42_0, hfz42_1⟩ := GS.c2 BK517.out))
  refine bodyPost_ret (results_ct rfl _ _ gb517 40 #[.int .i64 0, .int .i64 0] (0, 0) _ rfl (GS.bqZ BK517.out) Try.underlying40 rfl (by kernel_rfl)) rfl ?_
  exact ⟨by first | rfl | (simp [errW_none, errW_some] <;> rfl) | (simp [*, errW_none, errW_some] <;> rfl), GS.lB HB.out⟩

/-! ### spilelaw12_StandingWets: function 5 -/
def spilelaw12_StandingWets.f (k : Nat) (a0_0 : ByteArray) (a0_1 : Int) (l0_2 : List (S33)) (a0_3 : Int) (a1 : Int) (a2 : Int) : Option (Bool) := (spilelaw12_awake.f k).bind fun t527 => (if t527 = true then ((spilelaw12_few.f k a0_0 a0_1 l0_2 a0_3 ([] : List Int)).bind fun t528 => (if t528 = true then ((spilelaw12_own.f k a0_0 a0_1 l0_2 a0_3).bind fun bt529 => ((standing_Wet.f k bt529.1 bt529.2.1 bt529.2.2.1 bt529.2.2.2 a1 a2).bind fun bt535 => ((spileref12_Wet.f k a0_0 a0_1 l0_2 a0_3 a1 a2).bind fun bt539 => (if (bt535.1 == bt539.1 && (bt535.2.1 == bt539.2.1)) = true then (some (bt535.2.2 == bt539.2.2)) else (none))))) else (some true))) else (none))
theorem spilelaw12_StandingWets.mono : ∀ a0 a1 a2 a3 a4 a5 k, LeO (spilelaw12_StandingWets.f k a0 a1 a2 a3 a4 a5) (spilelaw12_StandingWets.f (k + 1) a0 a1 a2 a3 a4 a5) := by
 intro a0 a1 a2 a3 a4 a5 k
 unfold spilelaw12_StandingWets.f
 repeat' first
   | (with_reducible exact spilelaw12_awake.mono _)
   | (with_reducible exact spilelaw12_few.mono _ _ _ _ _ _)
   | (with_reducible exact spilelaw12_own.mono _ _ _ _ _)
   | (with_reducible exact spileref12_Wet.mono _ _ _ _ _ _ _)
   | (with_reducible exact standing_Wet.mono _ _ _ _ _ _ _)
   | (with_reducible exact LeO.refl _)
   | (with_reducible exact LeO.none _)
   | (with_reducible refine LeO.ite ?_ ?_)
   | (with_reducible refine LeO.bind ?_ (fun _ => ?_))
   | exact spilelaw12_awake.mono _
   | exact spilelaw12_few.mono _ _ _ _ _ _
   | exact spilelaw12_own.mono _ _ _ _ _
   | exact spileref12_Wet.mono _ _ _ _ _ _ _
   | exact standing_Wet.mono _ _ _ _ _ _ _
   | exact LeO.none _
   | refine LeO.ite ?_ ?_
   | refine LeO.bind ?_ (fun _ => ?_)
set_option maxHeartbeats 8000000 in
set_option maxRecDepth 100000 in
theorem spilelaw12_StandingWets.calls (k : Nat) (a0_0 : ByteArray) (a0_1 : Int) (A0_2 : Option Addr) (c0_2 : Nat) (l0_2 : List (S33)) (a0_3 : Int) (a1 : Int) (a2 : Int) (r : Bool) (w : World) (hr0_2 : Kd.C k33 w A0_2 l0_2.length l0_2) (hc0_2 : l0_2.length ≤ c0_2) (h : spilelaw12_StandingWets.f k a0_0 a0_1 l0_2 a0_3 a1 a2 = some r) :
  Calls Try.prog 5 #[.agg #[.string a0_0, .int .i64 a0_1, .slice A0_2 l0_2.length c0_2, .int .i64 a0_3], .int .i64 a1, .int .i64 a2] w fun e w' => e = .returned (.bool r) ∧ Below w.heap.size w w' := by
 have hu24 := Try.underlying24
 have hu40 := Try.underlying40
 have HR0_2 := Aside0.mk hr0_2
 have HC0_2 := Aside0.mk hc0_2
 clear hr0_2 hc0_2
 have HB := Aside0.mk (Below.refl w.heap.size w)
 have H : ((spilelaw12_awake.f k).bind fun t527 => (if t527 = true then ((spilelaw12_few.f k a0_0 a0_1 l0_2 a0_3 ([] : List Int)).bind fun t528 => (if t528 = true then ((spilelaw12_own.f k a0_0 a0_1 l0_2 a0_3).bind fun bt529 => ((standing_Wet.f k bt529.1 bt529.2.1 bt529.2.2.1 bt529.2.2.2 a1 a2).bind fun bt535 => ((spileref12_Wet.f k a0_0 a0_1 l0_2 a0_3 a1 a2).bind fun bt539 => (if (bt535.1 == bt539.1 && (bt535.2.1 == bt539.2.1)) = true then (some (bt535.2.2 == bt539.2.2)) else (none))))) else (some true))) else (none))) = some r := h
 clear h
 replace H := Option.bind_eq_some_iff.mp H
 obtain ⟨t527, A40, H⟩ := H
 replace H : (if t527 = true then ((spilelaw12_few.f k a0_0 a0_1 l0_2 a0_3 ([] : List Int)).bind fun t528 => (if t528 = true then ((spilelaw12_own.f k a0_0 a0_1 l0_2 a0_3).bind fun bt529 => ((standing_Wet.f k bt529.1 bt529.2.1 bt529.2.2.1 bt529.2.2.2 a1 a2).bind fun bt535 => ((spileref12_Wet.f k a0_0 a0_1 l0_2 a0_3 a1 a2).bind fun bt539 => (if (bt535.1 == bt539.1 && (bt535.2.1 == bt539.2.1)) = true then (some (bt535.2.2 == bt539.2.2)) else (none))))) else (some true))) else (none)) = some r := H
 have A4 := Aside0.mk A40
 clear A40
 by_cases c5 : t527 = true
 ·subst c5
  have H1 : ((spilelaw12_few.f k a0_0 a0_1 l0_2 a0_3 ([] : List Int)).bind fun t528 => (if t528 = true then ((spilelaw12_own.f k a0_0 a0_1 l0_2 a0_3).bind fun bt529 => ((standing_Wet.f k bt529.1 bt529.2.1 bt529.2.2.1 bt529.2.2.2 a1 a2).bind fun bt535 => ((spileref12_Wet.f k a0_0 a0_1 l0_2 a0_3 a1 a2).bind fun bt539 => (if (bt535.1 == bt539.1 && (bt535.2.1 == bt539.2.1)) = true then (some (bt535.2.2 == bt539.2.2)) else (none))))) else (some true))) = some r := by rw [if_pos rfl] at H; exact H
  clear H
  have H := H1
  clear H1
  replace H := Option.bind_eq_some_iff.mp H
  obtain ⟨t528, A60, H⟩ := H
  replace H : (if t528 = true then ((spilelaw12_own.f k a0_0 a0_1 l0_2 a0_3).bind fun bt529 => ((standing_Wet.f k bt529.1 bt529.2.1 bt529.2.2.1 bt529.2.2.2 a1 a2).bind fun bt535 => ((spileref12_Wet.f k a0_0 a0_1 l0_2 a0_3 a1 a2).bind fun bt539 => (if (bt535.1 == bt539.1 && (bt535.2.1 == bt539.2.1)) = true then (some (bt535.2.2 == bt539.2.2)) else (none))))) else (some true)) = some r := H
  have A6 := Aside0.mk A60
  clear A60
  by_cases c7 : t528 = true
  ·subst c7
   have H1 : ((spilelaw12_own.f k a0_0 a0_1 l0_2 a0_3).bind fun bt529 => ((standing_Wet.f k bt529.1 bt529.2.1 bt529.2.2.1 bt529.2.2.2 a1 a2).bind fun bt535 => ((spileref12_Wet.f k a0_0 a0_1 l0_2 a0_3 a1 a2).bind fun bt539 => (if (bt535.1 == bt539.1 && (bt535.2.1 == bt539.2.1)) = true then (some (bt535.2.2 == bt539.2.2)) else (none))))) = some r := by rw [if_pos rfl] at H; exact H
   clear H
   have H := H1
   clear H1
   replace H := Option.bind_eq_some_iff.mp H
   obtain ⟨⟨t529, t530, t531, t534⟩, A80, H⟩ := H
   replace H : ((standing_Wet.f k t529 t530 t531 t534 a1 a2).bind fun bt535 => ((spileref12_Wet.f k a0_0 a0_1 l0_2 a0_3 a1 a2).bind fun bt539 => (if (bt535.1 == bt539.1 && (bt535.2.1 == bt539.2.1)) = true then (some (bt535.2.2 == bt539.2.2)) else (none)))) = some r := H
   have A8 := Aside0.mk A80
   clear A80
   replace H := Option.bind_eq_some_iff.mp H
   obtain ⟨⟨t535, t536, t537⟩, A90, H⟩ := H
   replace H : ((spileref12_Wet.f k a0_0 a0_1 l0_2 a0_3 a1 a2).bind fun bt539 => (if (t535 == bt539.1 && (t536 == bt539.2.1)) = true then (some (t537 == bt539.2.2)) else (none))) = some r := H
   have A9 := Aside0.mk A90
   clear A90
   replace H := Option.bind_eq_some_iff.mp H
   obtain ⟨⟨t539, t540, t541⟩, A100, H⟩ := H
   replace H : (if (t535 == t539 && (t536 == t540)) = true then (some (t537 == t541)) else (none)) = some r := H
   have A10 := Aside0.mk A100
   clear A100
   by_cases c11 : (t535 == t539 && (t536 == t540)) = true
   ·rw [if_pos c11] at H
    have c11b0 : (t535 == t539 && (t536 == t540)) = true := c11
    try simp only [beq_self_eq_true, Bool.not_true, Bool.false_or, Bool.true_and] at c11b0
    (try (have c11b1 : decide (t535 = t539 && (t536 == t540)) = true := by simpa using c11))
    (try (have c11b2 : (t535 == t539 && (t536 == t540)) = true := by simpa using c11))
    clear c11
    obtain rfl := Option.some.inj H
    go_enter Try.func5, Try.ntmps5
    go_wp2_with (first | ((with_reducible refine gqD (N := 3) rfl ?_); refine GS.bx (N := 3) (cs := #[.string a0_0, .int .i64 a0_1, .slice A0_2 l0_2.length c0_2, .int .i64 a0_3]) (t := 24) ?_; intro gb526 hg w12 hbox hb; have n0_ := Aside0.mk (lqT (GS.lB HB.out) hb); have n1_ := Aside0.mk (hbox); have n2_ := Aside0.mk ((by rw [hg]; exact (lqZ (GS.lB HB.out)) : w.heap.size ≤ gb526)); have n3_ := Aside0.mk ((by rw [hg]; exact (lqZ (GS.lB HB.out)) : w.heap.size ≤ gb526)); clear HB; have HB := n0_; have BK526 := n1_; have GW526 := n2_; have GE526 := n3_; clear n0_ n1_ n2_ n3_; clear hb hbox hg) | ((with_reducible refine gqC (f := 10) rfl ?_); refine GS.gL (some 11) Try.func10 #[] ?_; (with_reducible refine (spilelaw12_awake.calls k  true _ A4.out).mono ?_); rintro e w13 ⟨rfl, hb⟩; refine ⟨_, rfl, ?_⟩; have n0_ := Aside0.mk (bqB (GS.bqX BK526.out) hb); have n1_ := Aside0.mk (lqT (GS.lB HB.out) hb); clear BK526; clear HB; have BK526 := n0_; have HB := n1_; clear n0_ n1_; (try clear hb); (try clear hb2); (try clear hk); (try clear hi); obtain ⟨hcz14_0, hcz14_1, hcz14_2, hcz14_3, hfz14_0, hfz14_1, hfz14_2, hfz14_3⟩ := GS.c4 BK526.out) | ((with_reducible refine gqC (f := 11) rfl ?_); refine GS.gL (some 14) Try.func11 #[.agg #[.string a0_0, .int .i64 a0_1, .slice A0_2 l0_2.length c0_2, .int .i64 a0_3], .slice none 0 0] ?_; (refine (spilelaw12_few.calls k a0_0 a0_1 (fun k_ => k_ < w.heap.size) _ _ l0_2 a0_3 _ _ ([] : List Int) true _ ?side1 ?side2 ?side3 A6.out).mono ?_); (case side1 => exact Kd.V_mk HC0_2.out (Kd.F_below (Kd.C_F k33_heap HR0_2.out) (GS.lB HB.out))); (case side2 => exact Kd.C_nil _ _); (case side3 => exact Nat.le_refl _); rintro e w15 ⟨rfl, hb⟩; refine ⟨_, rfl, ?_⟩; have n0_ := Aside0.mk (bqB (GS.bqX BK526.out) hb); have n1_ := Aside0.mk (lqT (GS.lB HB.out) hb); clear BK526; clear HB; have BK526 := n0_; have HB := n1_; clear n0_ n1_; (try clear hb); (try clear hb2); (try clear hk); (try clear hi); obtain ⟨hcz16_0, hcz16_1, hcz16_2, hcz16_3, hfz16_0, hfz16_1, hfz16_2, hfz16_3⟩ := GS.c4 BK526.out) | ((with_reducible refine gqC (f := 17) rfl ?_); refine GS.gL (some 18) Try.func17 #[.agg #[.string a0_0, .int .i64 a0_1, .slice A0_2 l0_2.length c0_2, .int .i64 a0_3]] ?_; (with_reducible refine (spilelaw12_own.calls k a0_0 a0_1 (fun k_ => k_ < w.heap.size) _ _ l0_2 a0_3 t529 t530 t531 t534 _ ?side1 A8.out).mono ?_); (case side1 => exact Kd.V_mk HC0_2.out (Kd.F_below (Kd.C_F k33_heap HR0_2.out) (GS.lB HB.out))); rintro e w17 ⟨v532, rfl, ho0, hb⟩; refine ⟨_, rfl, ?_⟩; have n0_ := Aside0.mk (Kd.V_lower (Kd.V_mono (ok' := fun k_ => k_ ≠ gb526) ho0 (fun k_ hk_ => Or.elim hk_ (fun hs_ => fun e_ => Nat.not_le.2 hs_ (by rw [e_]; exact GW526.out)) (fun hn_ => (Kd.freshB (GS.bqX BK526.out) k_ hn_)))) (lqZ (GS.lB HB.out))); have n1_ := Aside0.mk (bqB (GS.bqX BK526.out) hb); have n2_ := Aside0.mk (lqT (GS.lB HB.out) hb); clear BK526; clear HB; have HO533 := n0_; have BK526 := n1_; have HB := n2_; clear n0_ n1_ n2_; (try clear hb); (try clear hb2); (try clear hk); (try clear hi); (try clear ho0); obtain ⟨Ao18, co18, eo18⟩ := Kd.V_slice HO533.out; subst eo18) | ((with_reducible refine gqC (f := 25) rfl ?_); refine GS.gL (some 21) Try.func25 #[.agg #[.string t529, .int .i64 t530, .slice Ao18 t531.length co18, .int .i64 t534], .int .i64 a1, .int .i64 a2] ?_; (with_reducible refine (standing_Wet.calls k t529 t530 _ _ t531 t534 a1 a2 t535 t536 t537 _ ?side1 ?side2 A9.out).mono ?_); (case side1 => repeat (first | exact (Kd.V_reads' HO533.out).2.2 | (with_reducible refine Kd.C_alloc ?_ _) | (with_reducible refine Kd.C_drewN ?_ _) | (with_reducible refine Kd.C_drew ?_))); (case side2 => exact (Kd.V_reads' HO533.out).2.1); rintro e w19 ⟨rfl, hb⟩; refine ⟨_, rfl, ?_⟩; have n0_ := Aside0.mk (Kd.V_below (by (with_reducible repeat (first | apply Kd.V_alloc | apply Kd.V_drewN | apply Kd.V_drew)); exact HO533.out) hb); have n1_ := Aside0.mk (bqB (GS.bqX BK526.out) hb); have n2_ := Aside0.mk (lqT (GS.lB HB.out) hb); clear HO533; clear BK526; clear HB; have HO533 := n0_; have BK526 := n1_; have HB := n2_; clear n0_ n1_ n2_; (try clear hb); (try clear hb2); (try clear hk); (try clear hi)) | ((with_reducible refine gqD (N := 7) rfl ?_); refine GS.bx (N := 7) (cs := #[.int .i64 0, .int .i64 0]) (t := 40) ?_; intro gb538 hg w20 hbox hb; have n0_ := Aside0.mk (Kd.V_below (Kd.V_elderB (by (with_reducible repeat (first | apply Kd.V_alloc | apply Kd.V_drewN | apply Kd.V_drew)); exact HO533.out) gb538 (Nat.le_of_eq hg.symm)) hb); have n1_ := Aside0.mk (bqB (GS.bqX BK526.out) hb); have n2_ := Aside0.mk (lqT (GS.lB HB.out) hb); have n3_ := Aside0.mk (hbox); have n4_ := Aside0.mk ((by rw [hg]; exact (lqZ (GS.lB HB.out)) : w.heap.size ≤ gb538)); have n5_ := Aside0.mk ((by rw [hg]; exact (lqZ (GS.lB HB.out)) : w.heap.size ≤ gb538)); have n6_ := Aside0.mk ((by rw [hg]; exact Nat.ne_of_lt (blk_lt (GS.bqX BK526.out)) : gb526 ≠ gb538)); have n7_ := Aside0.mk ((by rw [hg]; exact Nat.ne_of_gt (blk_lt (GS.bqX BK526.out)) : gb538 ≠ gb526)); clear HO533; clear BK526; clear HB; have HO533 := n0_; have BK526 := n1_; have HB := n2_; have BK538 := n3_; have GW538 := n4_; have GE538 := n5_; have NB526_538 := n6_; have NB538_526 := n7_; clear n0_ n1_ n2_ n3_ n4_ n5_ n6_ n7_; clear hb hbox hg; have hnb21 := NB538_526.out; have hnc21 := NB526_538.out; obtain ⟨hcz22_0, hcz22_1, hfz22_0, hfz22_1⟩ := GS.c2 BK538.out; obtain ⟨hcz23_0, hcz23_1, hcz23_2, hcz23_3, hfz23_0, hfz23_1, hfz23_2, hfz23_3⟩ := GS.c4 BK526.out) | ((with_reducible refine gqC (f := 26) rfl ?_); refine GS.gL (some 28) Try.func26 #[.agg #[.string a0_0, .int .i64 a0_1, .slice A0_2 l0_2.length c0_2, .int .i64 a0_3], .int .i64 a1, .int .i64 a2] ?_; (with_reducible refine (spileref12_Wet.calls k a0_0 a0_1 _ _ l0_2 a0_3 a1 a2 t539 t540 t541 _ ?side1 ?side2 A10.out).mono ?_); (case side1 => exact Kd.C_below HR0_2.out (GS.lB HB.out)); (case side2 => exact HC0_2.out); rintro e w24 ⟨rfl, hb⟩; refine ⟨_, rfl, ?_⟩; have n0_ := Aside0.mk (Kd.V_below (by (with_reducible repeat (first | apply Kd.V_alloc | apply Kd.V_drewN | apply Kd.V_drew)); exact (Kd.V_mono (Kd.V_far (p := ⟨gb538, 1, none⟩) (Kd.V_far (p := ⟨gb538, 0, none⟩) (Kd.V_mono HO533.out (fun k_ hk => (⟨hk, GS.cj hk⟩ : _ ∧ k_ ≠ gb538))) (fun _ hk => hk.2) (.int .i64 t535)) (fun _ hk => hk.2) (.int .i64 t536)) (fun _ h_ => h_.1))) hb); have n1_ := Aside0.mk (bqB (GS.bqX BK526.out) hb); have n2_ := Aside0.mk (bqB (g := gb538) (o := .cells #[.int .i64 t535, .int .i64 t536] 40 (0, 0)) (GS.bqZ BK538.out) hb); have n3_ := Aside0.mk (lqT (GS.lB HB.out) hb); clear HO533; clear BK526; clear BK538; clear HB; have HO533 := n0_; have BK526 := n1_; have BK538 := n2_; have HB := n3_; clear n0_ n1_ n2_ n3_; (try clear hb); (try clear hb2); (try clear hk); (try clear hi)) | ((with_reducible refine gqD (N := 9) rfl ?_); refine GS.bx (N := 9) (cs := #[.int .i64 0, .int .i64 0]) (t := 40) ?_; intro gb542 hg w25 hbox hb; have n0_ := Aside0.mk (Kd.V_below (Kd.V_elderB (by (with_reducible repeat (first | apply Kd.V_alloc | apply Kd.V_drewN | apply Kd.V_drew)); exact HO533.out) gb542 (Nat.le_of_eq hg.symm)) hb); have n1_ := Aside0.mk (bqB (GS.bqX BK526.out) hb); have n2_ := Aside0.mk (bqB (GS.bqX BK538.out) hb); have n3_ := Aside0.mk (lqT (GS.lB HB.out) hb); have n4_ := Aside0.mk (hbox); have n5_ := Aside0.mk ((by rw [hg]; exact (lqZ (GS.lB HB.out)) : w.heap.size ≤ gb542)); have n6_ := Aside0.mk ((by rw [hg]; exact (lqZ (GS.lB HB.out)) : w.heap.size ≤ gb542)); have n7_ := Aside0.mk ((by rw [hg]; exact Nat.ne_of_lt (blk_lt (GS.bqX BK526.out)) : gb526 ≠ gb542)); have n8_ := Aside0.mk ((by rw [hg]; exact Nat.ne_of_gt (blk_lt (GS.bqX BK526.out)) : gb542 ≠ gb526)); have n9_ := Aside0.mk ((by rw [hg]; exact Nat.ne_of_lt (blk_lt (GS.bqX BK538.out)) : gb538 ≠ gb542)); have n10_ := Aside0.mk ((by rw [hg]; exact Nat.ne_of_gt (blk_lt (GS.bqX BK538.out)) : gb542 ≠ gb538)); clear HO533; clear BK526; clear BK538; clear HB; have HO533 := n0_; have BK526 := n1_; have BK538 := n2_; have HB := n3_; have BK542 := n4_; have GW542 := n5_; have GE542 := n6_; have NB526_542 := n7_; have NB542_526 := n8_; have NB538_542 := n9_; have NB542_538 := n10_; clear n0_ n1_ n2_ n3_ n4_ n5_ n6_ n7_ n8_ n9_ n10_; clear hb hbox hg; have hnb26 := NB542_526.out; have hnc26 := NB526_542.out; have hnb27 := NB542_538.out; have hnc27 := NB538_542.out; obtain ⟨hcz28_0, hcz28_1, hfz28_0, hfz28_1⟩ := GS.c2 BK542.out; obtain ⟨hcz29_0, hcz29_1, hfz29_0, hfz29_1⟩ := GS.c2 BK538.out))
    go_ret
    exact ⟨by first | rfl | (simp [errW_none, errW_some] <;> rfl) | (simp [*, errW_none, errW_some] <;> rfl), GS.lB HB.out⟩
   ·rw [if_neg c11] at H
    exact absurd H (by simp)
  ·replace c7 := Bool.eq_false_iff.mpr c7
   subst c7
   have H1 : (some true) = some r := by rw [if_neg (show ¬ (false = true) by decide)] at H; exact H
   clear H
   have H := H1
   clear H1
   obtain rfl := Option.some.inj H
   go_enter Try.func5, Try.ntmps5
   go_wp2_with (first | ((with_reducible refine gqD (N := 3) rfl ?_); refine GS.bx (N := 3) (cs := #[.string a0_0, .int .i64 a0_1, .slice A0_2 l0_2.length c0_2, .int .i64 a0_3]) (t := 24) ?_; intro gb526 hg w30 hbox hb; have n0_ := Aside0.mk (lqT (GS.lB HB.out) hb); have n1_ := Aside0.mk (hbox); have n2_ := Aside0.mk ((by rw [hg]; exact (lqZ (GS.lB HB.out)) : w.heap.size ≤ gb526)); have n3_ := Aside0.mk ((by rw [hg]; exact (lqZ (GS.lB HB.out)) : w.heap.size ≤ gb526)); clear HB; have HB := n0_; have BK526 := n1_; have GW526 := n2_; have GE526 := n3_; clear n0_ n1_ n2_ n3_; clear hb hbox hg) | ((with_reducible refine gqC (f := 10) rfl ?_); refine GS.gL (some 11) Try.func10 #[] ?_; (with_reducible refine (spilelaw12_awake.calls k  true _ A4.out).mono ?_); rintro e w31 ⟨rfl, hb⟩; refine ⟨_, rfl, ?_⟩; have n0_ := Aside0.mk (bqB (GS.bqX BK526.out) hb); have n1_ := Aside0.mk (lqT (GS.lB HB.out) hb); clear BK526; clear HB; have BK526 := n0_; have HB := n1_; clear n0_ n1_; (try clear hb); (try clear hb2); (try clear hk); (try clear hi); obtain ⟨hcz32_0, hcz32_1, hcz32_2, hcz32_3, hfz32_0, hfz32_1, hfz32_2, hfz32_3⟩ := GS.c4 BK526.out) | ((with_reducible refine gqC (f := 11) rfl ?_); refine GS.gL (some 14) Try.func11 #[.agg #[.string a0_0, .int .i64 a0_1, .slice A0_2 l0_2.length c0_2, .int .i64 a0_3], .slice none 0 0] ?_; (refine (spilelaw12_few.calls k a0_0 a0_1 (fun k_ => k_ < w.heap.size) _ _ l0_2 a0_3 _ _ ([] : List Int) false _ ?side1 ?side2 ?side3 A6.out).mono ?_); (case side1 => exact Kd.V_mk HC0_2.out (Kd.F_below (Kd.C_F k33_heap HR0_2.out) (GS.lB HB.out))); (case side2 => exact Kd.C_nil _ _); (case side3 => exact Nat.le_refl _); rintro e w33 ⟨rfl, hb⟩; refine ⟨_, rfl, ?_⟩; have n0_ := Aside0.mk (bqB (GS.bqX BK526.out) hb); have n1_ := Aside0.mk (lqT (GS.lB HB.out) hb); clear BK526; clear HB; have BK526 := n0_; have HB := n1_; clear n0_ n1_; (try clear hb); (try clear hb2); (try clear hk); (try clear hi)))
   go_ret
   exact ⟨by first | rfl | (simp [errW_none, errW_some] <;> rfl) | (simp [*, errW_none, errW_some] <;> rfl), GS.lB HB.out⟩
 ·replace c5 := Bool.eq_false_iff.mpr c5
  subst c5
  have H1 : (none) = some r := by rw [if_neg (show ¬ (false = true) by decide)] at H; exact H
  clear H
  have H := H1
  clear H1
  exact absurd H (by simp)

end Go.Proofs.Ytmcmbjkjilcmeaa.K
