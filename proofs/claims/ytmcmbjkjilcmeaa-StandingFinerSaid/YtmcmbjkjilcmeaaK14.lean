-- PRINTED by print.py (a twelfth state) out of the translation. Not trusted: Lean checks it.
import Derived.Test.YtmcmbjkjilcmeaaK0
import Derived.Test.YtmcmbjkjilcmeaaK14b
import Derived.Test.YtmcmbjkjilcmeaaK14a
import Derived.Test.YtmcmbjkjilcmeaaGShort
import Derived.Test.YtmcmbjkjilcmeaaGField
import Derived.Test.YtmcmbjkjilcmeaaGSym
import Derived.Test.YtmcmbjkjilcmeaaK1
import Derived.Test.YtmcmbjkjilcmeaaK2
import Derived.Test.YtmcmbjkjilcmeaaK10
import Derived.Test.YtmcmbjkjilcmeaaK11
import Derived.Test.YtmcmbjkjilcmeaaK13
import Derived.Test.YtmcmbjkjilcmeaaGAt
import Derived.Test.YtmcmbjkjilcmeaaGAt
import Derived.Test.YtmcmbjkjilcmeaaGSums
namespace Go.Proofs.Ytmcmbjkjilcmeaa.K
open Go.RowKit Go.Proofs.YtmcmbjkjilcmeaaW.PrintWords Go.Proofs.YtmcmbjkjilcmeaaW.PrintLast Go.Proofs.YtmcmbjkjilcmeaaW.PrintMore
attribute [local go_sem] max2_int min2_int max_two min_two max_three min_three max_four min_four   -- for this text's walks alone
set_option linter.unusedVariables false
set_option linter.unusedSimpArgs false

attribute [local go_sem high] eqA40
-- GIVEN: function 76 (profile_at)

/-! ### standing_Between: function 20 -/
def standing_Between.f (k : Nat) (a0_0 : ByteArray) (a0_1 : Int) (l0_2 : List (S33)) (a0_3 : Int) (l1 : List Int) : Option (Int × Int × Int) := (standing_Check.f k a0_0 a0_1 l0_2 a0_3 l1).bind fun t252 => (if t252 = 0 then ((sums42.f a0_0 a0_1 l0_2 a0_3 l1).bind fun t253 => (if 0 ≤ (wrap64 ((t253.length : Int) - 1)) then (if (wrap64 ((t253.length : Int) - 1)) < (t253.length : Int) then ((standing_space.f ((rd_T40 t253 (wrap64 ((t253.length : Int) - 1))).f0) ((rd_T40 t253 (wrap64 ((t253.length : Int) - 1))).f1)).bind fun bt257 => (some (bt257.1, bt257.2, 0))) else (none)) else (none))) else (some (0, 0, t252)))
theorem standing_Between.mono : ∀ a0 a1 a2 a3 a4 k, LeO (standing_Between.f k a0 a1 a2 a3 a4) (standing_Between.f (k + 1) a0 a1 a2 a3 a4) := by
 intro a0 a1 a2 a3 a4 k
 unfold standing_Between.f
 repeat' first
   | (with_reducible exact standing_Check.mono _ _ _ _ _ _)
   | (with_reducible exact LeO.refl _)
   | (with_reducible exact LeO.none _)
   | (with_reducible refine LeO.ite ?_ ?_)
   | (with_reducible refine LeO.bind ?_ (fun _ => ?_))
   | exact standing_Check.mono _ _ _ _ _ _
   | exact LeO.none _
   | refine LeO.ite ?_ ?_
   | refine LeO.bind ?_ (fun _ => ?_)
set_option maxHeartbeats 8000000 in
set_option maxRecDepth 100000 in
theorem standing_Between.calls (k : Nat) (a0_0 : ByteArray) (a0_1 : Int) (A0_2 : Option Addr) (c0_2 : Nat) (l0_2 : List (S33)) (a0_3 : Int) (A1 : Option Addr) (c1 : Nat) (l1 : List Int) (r1 : Int) (r2 : Int) (r3 : Int) (w : World) (hr0_2 : Kd.C k33 w A0_2 l0_2.length l0_2) (hc0_2 : l0_2.length ≤ c0_2) (hr1 : Kd.C (Kd.int .i64) w A1 l1.length l1) (hc1 : l1.length ≤ c1) (h : standing_Between.f k a0_0 a0_1 l0_2 a0_3 l1 = some (r1, r2, r3)) :
  Calls Try.prog 20 #[.agg #[.string a0_0, .int .i64 a0_1, .slice A0_2 l0_2.length c0_2, .int .i64 a0_3], .slice A1 l1.length c1] w fun e w' => e = .returned (.tuple #[.agg #[.int .i64 r1, .int .i64 r2], .int .i64 r3]) ∧ Below w.heap.size w w' := by
 have hu24 := Try.underlying24
 have hu40 := Try.underlying40
 have HR0_2 := Aside0.mk hr0_2
 have HC0_2 := Aside0.mk hc0_2
 clear hr0_2 hc0_2
 have HR1 := Aside0.mk hr1
 have HC1 := Aside0.mk hc1
 clear hr1 hc1
 have HB := Aside0.mk (Below.refl w.heap.size w)
 have H : ((standing_Check.f k a0_0 a0_1 l0_2 a0_3 l1).bind fun t252 => (if t252 = 0 then ((sums42.f a0_0 a0_1 l0_2 a0_3 l1).bind fun t253 => (if 0 ≤ (wrap64 ((t253.length : Int) - 1)) then (if (wrap64 ((t253.length : Int) - 1)) < (t253.length : Int) then ((standing_space.f ((rd_T40 t253 (wrap64 ((t253.length : Int) - 1))).f0) ((rd_T40 t253 (wrap64 ((t253.length : Int) - 1))).f1)).bind fun bt257 => (some (bt257.1, bt257.2, 0))) else (none)) else (none))) else (some (0, 0, t252)))) = some (r1, r2, r3) := h
 clear h
 replace H := Option.bind_eq_some_iff.mp H
 obtain ⟨t252, A30, H⟩ := H
 replace H : (if t252 = 0 then ((sums42.f a0_0 a0_1 l0_2 a0_3 l1).bind fun t253 => (if 0 ≤ (wrap64 ((t253.length : Int) - 1)) then (if (wrap64 ((t253.length : Int) - 1)) < (t253.length : Int) then ((standing_space.f ((rd_T40 t253 (wrap64 ((t253.length : Int) - 1))).f0) ((rd_T40 t253 (wrap64 ((t253.length : Int) - 1))).f1)).bind fun bt257 => (some (bt257.1, bt257.2, 0))) else (none)) else (none))) else (some (0, 0, t252))) = some (r1, r2, r3) := H
 have A3 := Aside0.mk A30
 clear A30
 by_cases c4 : t252 = 0
 ·rw [if_pos c4] at H
  have c4b0 : (t252 == 0) = true := beq_iff_eq.mpr c4
  try simp only [beq_self_eq_true, Bool.not_true, Bool.false_or, Bool.true_and] at c4b0
  have c4b1 : (t252 != 0) = false := bne_eq_false_iff_eq.mpr c4
  clear c4
  replace H := Option.bind_eq_some_iff.mp H
  obtain ⟨t253, A50, H⟩ := H
  replace H : (if 0 ≤ (wrap64 ((t253.length : Int) - 1)) then (if (wrap64 ((t253.length : Int) - 1)) < (t253.length : Int) then ((standing_space.f ((rd_T40 t253 (wrap64 ((t253.length : Int) - 1))).f0) ((rd_T40 t253 (wrap64 ((t253.length : Int) - 1))).f1)).bind fun bt257 => (some (bt257.1, bt257.2, 0))) else (none)) else (none)) = some (r1, r2, r3) := H
  have A5 := Aside0.mk A50
  clear A50
  obtain ⟨ji6, hji6⟩ : ∃ j_ : Int, (wrap64 ((t253.length : Int) - 1)) = j_ := ⟨_, rfl⟩
  replace H : (if 0 ≤ (ji6) then (if (ji6) < (t253.length : Int) then ((standing_space.f ((rd_T40 t253 (ji6)).f0) ((rd_T40 t253 (ji6)).f1)).bind fun bt257 => (some (bt257.1, bt257.2, 0))) else (none)) else (none)) = some (r1, r2, r3) := by first | (rw [hji6] at H; exact H) | (simp only [hji6] at H ⊢; exact H)
  (try rw [hji6] at A3)
  (try rw [hji6] at A5)
  have hji6w : (IntKind.i64.wrap ((t253.length : Int) - 1)) = ji6 := (i64_w _).trans hji6
  by_cases c7 : 0 ≤ (ji6)
  ·rw [if_pos c7] at H
   have c7b0 : decide (0 ≤ (ji6)) = true := decide_eq_true c7
   clear c7
   by_cases c8 : (ji6) < (t253.length : Int)
   ·rw [if_pos c8] at H
    have c8b0 : decide ((ji6) < (t253.length : Int)) = true := decide_eq_true c8
    clear c8
    replace H := Option.bind_eq_some_iff.mp H
    obtain ⟨⟨t257, t258⟩, A90, H⟩ := H
    replace H : (some (t257, t258, 0)) = some (r1, r2, r3) := H
    have A9 := Aside0.mk A90
    clear A90
    simp only [Option.some.injEq, Prod.mk.injEq] at H
    obtain ⟨rfl, rfl, rfl⟩ := H
    go_enter Try.func20, Try.ntmps20
    go_wp2_with (first | ((with_reducible refine gqD (N := 2) rfl ?_); refine GS.bx (N := 2) (cs := #[.string a0_0, .int .i64 a0_1, .slice A0_2 l0_2.length c0_2, .int .i64 a0_3]) (t := 24) ?_; intro gb250 hg w10 hbox hb; have n0_ := Aside0.mk (lqT (GS.lB HB.out) hb); have n1_ := Aside0.mk (hbox); have n2_ := Aside0.mk ((by rw [hg]; exact (lqZ (GS.lB HB.out)) : w.heap.size ≤ gb250)); have n3_ := Aside0.mk ((by rw [hg]; exact (lqZ (GS.lB HB.out)) : w.heap.size ≤ gb250)); clear HB; have HB := n0_; have BK250 := n1_; have GW250 := n2_; have GE250 := n3_; clear n0_ n1_ n2_ n3_; clear hb hbox hg) | ((with_reducible refine gqD (N := 4) rfl ?_); refine GS.bx (N := 4) (cs := #[.int .i64 0, .int .i64 0]) (t := 40) ?_; intro gb251 hg w11 hbox hb; have n0_ := Aside0.mk (bqB (GS.bqX BK250.out) hb); have n1_ := Aside0.mk (lqT (GS.lB HB.out) hb); have n2_ := Aside0.mk (hbox); have n3_ := Aside0.mk ((by rw [hg]; exact (lqZ (GS.lB HB.out)) : w.heap.size ≤ gb251)); have n4_ := Aside0.mk ((by rw [hg]; exact (lqZ (GS.lB HB.out)) : w.heap.size ≤ gb251)); have n5_ := Aside0.mk ((by rw [hg]; exact Nat.ne_of_lt (blk_lt (GS.bqX BK250.out)) : gb250 ≠ gb251)); have n6_ := Aside0.mk ((by rw [hg]; exact Nat.ne_of_gt (blk_lt (GS.bqX BK250.out)) : gb251 ≠ gb250)); clear BK250; clear HB; have BK250 := n0_; have HB := n1_; have BK251 := n2_; have GW251 := n3_; have GE251 := n4_; have NB250_251 := n5_; have NB251_250 := n6_; clear n0_ n1_ n2_ n3_ n4_ n5_ n6_; clear hb hbox hg; have hnb12 := NB250_251.out; have hnc12 := NB251_250.out; obtain ⟨hcz13_0, hcz13_1, hcz13_2, hcz13_3, hfz13_0, hfz13_1, hfz13_2, hfz13_3⟩ := GS.c4 BK250.out) | ((with_reducible refine gqC (f := 16) rfl ?_); refine GS.gL (some 10) Try.func16 #[.agg #[.string a0_0, .int .i64 a0_1, .slice A0_2 l0_2.length c0_2, .int .i64 a0_3], .slice A1 l1.length c1] ?_; (with_reducible refine (standing_Check.calls k a0_0 a0_1 _ _ l0_2 a0_3 _ _ l1 t252 _ ?side1 ?side2 ?side3 ?side4 A3.out).mono ?_); (case side1 => exact GS.rC (Kd.C_below HR0_2.out HB.out)); (case side2 => exact HC0_2.out); (case side3 => exact GS.rC (Kd.C_below HR1.out HB.out)); (case side4 => exact HC1.out); rintro e w14 ⟨rfl, hb⟩; refine ⟨_, rfl, ?_⟩; have n0_ := Aside0.mk (bqB (GS.bqX BK250.out) hb); have n1_ := Aside0.mk (bqB (GS.bqX BK251.out) hb); have n2_ := Aside0.mk (lqT (GS.lB HB.out) hb); clear BK250; clear BK251; clear HB; have BK250 := n0_; have BK251 := n1_; have HB := n2_; clear n0_ n1_ n2_; (try clear hb); (try clear hb2); (try clear hk); (try clear hi); obtain ⟨hcz15_0, hcz15_1, hcz15_2, hcz15_3, hfz15_0, hfz15_1, hfz15_2, hfz15_3⟩ := GS.c4 BK250.out) | ((with_reducible refine gqC (f := 42) rfl ?_); refine GS.gL (some 17) Try.func42 #[.agg #[.string a0_0, .int .i64 a0_1, .slice A0_2 l0_2.length c0_2, .int .i64 a0_3], .slice A1 l1.length c1] ?_; (with_reducible refine (sums42.calls a0_0 a0_1 _ _ l0_2 a0_3 _ _ l1 t253 _ ?side1 ?side2 ?side3 ?side4 A5.out).mono ?_); (case side1 => exact GS.rC (Kd.C_below HR0_2.out HB.out)); (case side2 => exact HC0_2.out); (case side3 => exact GS.rC (Kd.C_below HR1.out HB.out)); (case side4 => exact HC1.out); rintro e w16 ⟨v254, rfl, ho0, hb⟩; refine ⟨_, rfl, ?_⟩; have n0_ := Aside0.mk (Kd.R_lower (Kd.R_newB ho0 (GS.bqX BK251.out)) (lqZ (GS.lB HB.out))); have n1_ := Aside0.mk (bqB (GS.bqX BK250.out) hb); have n2_ := Aside0.mk (bqB (GS.bqX BK251.out) hb); have n3_ := Aside0.mk (lqT (GS.lB HB.out) hb); clear BK250; clear BK251; clear HB; have HO255 := n0_; have BK250 := n1_; have BK251 := n2_; have HB := n3_; clear n0_ n1_ n2_ n3_; (try clear hb); (try clear hb2); (try clear hk); (try clear hi); (try clear ho0); obtain ⟨Ao17, co17, eo17⟩ := Kd.R_slice HO255.out; subst eo17; have p256 : 0 ≤ ((ji6) : Int) := of_decide_eq_true (by first | (with_reducible assumption) | assumption); have q256 : (ji6) < (t253.length : Int) := of_decide_eq_true (by first | (with_reducible assumption) | assumption); obtain ⟨ad256, e256, hx256_0, hx256_1⟩ := at_T40 (Kd.R_reads' HO255.out).2.2 (ji6) p256 q256; cases e256; replace p256 := eq_true p256; replace q256 := eq_true q256) | ((with_reducible refine gqC (f := 43) rfl ?_); refine goesL_ (some 24) rfl rfl Try.func43 (by kernel_rfl) rfl #[.agg #[.int .i64 ((rd_T40 t253 (ji6)).f0), .int .i64 ((rd_T40 t253 (ji6)).f1)]] rfl (by (try simp only [List.map_toArray, List.map_cons, List.map_nil]); first | done | (simp only [hji6]; rfl) | rfl | (simp only [List.length_drop, List.length_take]; rfl)) ?_; (with_reducible refine (standing_space.calls ((rd_T40 t253 (ji6)).f0) ((rd_T40 t253 (ji6)).f1) t257 t258 _ A9.out).mono ?_); rintro e w18 ⟨rfl, hb⟩; refine ⟨_, rfl, ?_⟩; have n0_ := Aside0.mk (Kd.R_below (GS.rR HO255.out) hb); have n1_ := Aside0.mk (bqB (GS.bqX BK250.out) hb); have n2_ := Aside0.mk (bqB (GS.bqX BK251.out) hb); have n3_ := Aside0.mk (lqT (GS.lB HB.out) hb); clear HO255; clear BK250; clear BK251; clear HB; have HO255 := n0_; have BK250 := n1_; have BK251 := n2_; have HB := n3_; clear n0_ n1_ n2_ n3_; (try clear hb); (try clear hb2); (try clear hk); (try clear hi); obtain ⟨hcz19_0, hcz19_1, hfz19_0, hfz19_1⟩ := GS.c2 BK251.out))
    refine bodyPost_ret (results_ct rfl _ _ gb251 40 #[.int .i64 t257, .int .i64 t258] (0, 0) _ rfl (GS.bqZ BK251.out) Try.underlying40 rfl (by kernel_rfl)) rfl ?_
    exact ⟨by first | rfl | (simp [errW_none, errW_some] <;> rfl) | (simp only [← hji6]; first | rfl | (simp [errW_none, errW_some] <;> rfl)) | (simp [*, errW_none, errW_some] <;> rfl), GS.lB HB.out⟩
   ·rw [if_neg c8] at H
    exact absurd H (by simp)
  ·rw [if_neg c7] at H
   exact absurd H (by simp)
 ·rw [if_neg c4] at H
  have c4b0 : (t252 == 0) = false := beq_eq_false_iff_ne.mpr c4
  try simp only [beq_self_eq_true, Bool.not_true, Bool.false_or, Bool.true_and] at c4b0
  have c4b1 : (t252 != 0) = true := bne_iff_ne.mpr c4
  simp only [Option.some.injEq, Prod.mk.injEq] at H
  obtain ⟨rfl, rfl, rfl⟩ := H
  go_enter Try.func20, Try.ntmps20
  go_wp2_with (first | ((with_reducible refine gqD (N := 2) rfl ?_); refine GS.bx (N := 2) (cs := #[.string a0_0, .int .i64 a0_1, .slice A0_2 l0_2.length c0_2, .int .i64 a0_3]) (t := 24) ?_; intro gb250 hg w20 hbox hb; have n0_ := Aside0.mk (lqT (GS.lB HB.out) hb); have n1_ := Aside0.mk (hbox); have n2_ := Aside0.mk ((by rw [hg]; exact (lqZ (GS.lB HB.out)) : w.heap.size ≤ gb250)); have n3_ := Aside0.mk ((by rw [hg]; exact (lqZ (GS.lB HB.out)) : w.heap.size ≤ gb250)); clear HB; have HB := n0_; have BK250 := n1_; have GW250 := n2_; have GE250 := n3_; clear n0_ n1_ n2_ n3_; clear hb hbox hg) | ((with_reducible refine gqD (N := 4) rfl ?_); refine GS.bx (N := 4) (cs := #[.int .i64 0, .int .i64 0]) (t := 40) ?_; intro gb251 hg w21 hbox hb; have n0_ := Aside0.mk (bqB (GS.bqX BK250.out) hb); have n1_ := Aside0.mk (lqT (GS.lB HB.out) hb); have n2_ := Aside0.mk (hbox); have n3_ := Aside0.mk ((by rw [hg]; exact (lqZ (GS.lB HB.out)) : w.heap.size ≤ gb251)); have n4_ := Aside0.mk ((by rw [hg]; exact (lqZ (GS.lB HB.out)) : w.heap.size ≤ gb251)); have n5_ := Aside0.mk ((by rw [hg]; exact Nat.ne_of_lt (blk_lt (GS.bqX BK250.out)) : gb250 ≠ gb251)); have n6_ := Aside0.mk ((by rw [hg]; exact Nat.ne_of_gt (blk_lt (GS.bqX BK250.out)) : gb251 ≠ gb250)); clear BK250; clear HB; have BK250 := n0_; have HB := n1_; have BK251 := n2_; have GW251 := n3_; have GE251 := n4_; have NB250_251 := n5_; have NB251_250 := n6_; clear n0_ n1_ n2_ n3_ n4_ n5_ n6_; clear hb hbox hg; have hnb22 := NB250_251.out; have hnc22 := NB251_250.out; obtain ⟨hcz23_0, hcz23_1, hcz23_2, hcz23_3, hfz23_0, hfz23_1, hfz23_2, hfz23_3⟩ := GS.c4 BK250.out) | ((with_reducible refine gqC (f := 16) rfl ?_); refine GS.gL (some 10) Try.func16 #[.agg #[.string a0_0, .int .i64 a0_1, .slice A0_2 l0_2.length c0_2, .int .i64 a0_3], .slice A1 l1.length c1] ?_; (with_reducible refine (standing_Check.calls k a0_0 a0_1 _ _ l0_2 a0_3 _ _ l1 t252 _ ?side1 ?side2 ?side3 ?side4 A3.out).mono ?_); (case side1 => exact GS.rC (Kd.C_below HR0_2.out HB.out)); (case side2 => exact HC0_2.out); (case side3 => exact GS.rC (Kd.C_below HR1.out HB.out)); (case side4 => exact HC1.out); rintro e w24 ⟨rfl, hb⟩; refine ⟨_, rfl, ?_⟩; have n0_ := Aside0.mk (bqB (GS.bqX BK250.out) hb); have n1_ := Aside0.mk (bqB (GS.bqX BK251.out) hb); have n2_ := Aside0.mk (lqT (GS.lB HB.out) hb); clear BK250; clear BK251; clear HB; have BK250 := n0_; have BK251 := n1_; have HB := n2_; clear n0_ n1_ n2_; (try clear hb); (try clear hb2); (try clear hk); (try clear hi); obtain ⟨hcz25_0, hcz25_1, hfz25_0, hfz25_1⟩ := GS.c2 BK251.out))
  refine bodyPost_ret (results_ct rfl _ _ gb251 40 #[.int .i64 0, .int .i64 0] (0, 0) _ rfl (GS.bqZ BK251.out) Try.underlying40 rfl (by kernel_rfl)) rfl ?_
  exact ⟨by first | rfl | (simp [errW_none, errW_some] <;> rfl) | (simp [*, errW_none, errW_some] <;> rfl), GS.lB HB.out⟩

/-! ### standing_Sums: function 22 -/
def standing_Sums.f (k : Nat) (a0_0 : ByteArray) (a0_1 : Int) (l0_2 : List (S33)) (a0_3 : Int) (l1 : List Int) : Option ((List (S40)) × Int) := (standing_Check.f k a0_0 a0_1 l0_2 a0_3 l1).bind fun t260 => (if t260 = 0 then ((sums42.f a0_0 a0_1 l0_2 a0_3 l1).bind fun t261 => (some (t261, 0))) else (some (([] : List (S40)), t260)))
theorem standing_Sums.mono : ∀ a0 a1 a2 a3 a4 k, LeO (standing_Sums.f k a0 a1 a2 a3 a4) (standing_Sums.f (k + 1) a0 a1 a2 a3 a4) := by
 intro a0 a1 a2 a3 a4 k
 unfold standing_Sums.f
 repeat' first
   | (with_reducible exact standing_Check.mono _ _ _ _ _ _)
   | (with_reducible exact LeO.refl _)
   | (with_reducible exact LeO.none _)
   | (with_reducible refine LeO.ite ?_ ?_)
   | (with_reducible refine LeO.bind ?_ (fun _ => ?_))
   | exact standing_Check.mono _ _ _ _ _ _
   | exact LeO.none _
   | refine LeO.ite ?_ ?_
   | refine LeO.bind ?_ (fun _ => ?_)
set_option maxHeartbeats 8000000 in
set_option maxRecDepth 100000 in
theorem standing_Sums.calls (k : Nat) (a0_0 : ByteArray) (a0_1 : Int) (A0_2 : Option Addr) (c0_2 : Nat) (l0_2 : List (S33)) (a0_3 : Int) (A1 : Option Addr) (c1 : Nat) (l1 : List Int) (r1 : List (S40)) (r2 : Int) (w : World) (hr0_2 : Kd.C k33 w A0_2 l0_2.length l0_2) (hc0_2 : l0_2.length ≤ c0_2) (hr1 : Kd.C (Kd.int .i64) w A1 l1.length l1) (hc1 : l1.length ≤ c1) (h : standing_Sums.f k a0_0 a0_1 l0_2 a0_3 l1 = some (r1, r2)) :
  Calls Try.prog 22 #[.agg #[.string a0_0, .int .i64 a0_1, .slice A0_2 l0_2.length c0_2, .int .i64 a0_3], .slice A1 l1.length c1] w fun e w' => ∃ v0_ : Value, e = .returned (.tuple #[v0_, .int .i64 r2]) ∧ Kd.R k40 40 w' w.heap.size (fun _ => True) v0_ r1 ∧ Below w.heap.size w w' := by
 have hu24 := Try.underlying24
 have HR0_2 := Aside0.mk hr0_2
 have HC0_2 := Aside0.mk hc0_2
 clear hr0_2 hc0_2
 have HR1 := Aside0.mk hr1
 have HC1 := Aside0.mk hc1
 clear hr1 hc1
 have HB := Aside0.mk (Below.refl w.heap.size w)
 have H : ((standing_Check.f k a0_0 a0_1 l0_2 a0_3 l1).bind fun t260 => (if t260 = 0 then ((sums42.f a0_0 a0_1 l0_2 a0_3 l1).bind fun t261 => (some (t261, 0))) else (some (([] : List (S40)), t260)))) = some (r1, r2) := h
 clear h
 replace H := Option.bind_eq_some_iff.mp H
 obtain ⟨t260, A30, H⟩ := H
 replace H : (if t260 = 0 then ((sums42.f a0_0 a0_1 l0_2 a0_3 l1).bind fun t261 => (some (t261, 0))) else (some (([] : List (S40)), t260))) = some (r1, r2) := H
 have A3 := Aside0.mk A30
 clear A30
 by_cases c4 : t260 = 0
 ·rw [if_pos c4] at H
  have c4b0 : (t260 == 0) = true := beq_iff_eq.mpr c4
  try simp only [beq_self_eq_true, Bool.not_true, Bool.false_or, Bool.true_and] at c4b0
  have c4b1 : (t260 != 0) = false := bne_eq_false_iff_eq.mpr c4
  clear c4
  replace H := Option.bind_eq_some_iff.mp H
  obtain ⟨t261, A50, H⟩ := H
  replace H : (some (t261, 0)) = some (r1, r2) := H
  have A5 := Aside0.mk A50
  clear A50
  simp only [Option.some.injEq, Prod.mk.injEq] at H
  obtain ⟨rfl, rfl⟩ := H
  go_enter Try.func22, Try.ntmps22
  go_wp2_with (first | ((with_reducible refine gqD (N := 2) rfl ?_); refine GS.bx (N := 2) (cs := #[.string a0_0, .int .i64 a0_1, .slice A0_2 l0_2.length c0_2, .int .i64 a0_3]) (t := 24) ?_; intro gb259 hg w6 hbox hb; have n0_ := Aside0.mk (lqT (GS.lB HB.out) hb); have n1_ := Aside0.mk (hbox); have n2_ := Aside0.mk ((by rw [hg]; exact (lqZ (GS.lB HB.out)) : w.heap.size ≤ gb259)); have n3_ := Aside0.mk ((by rw [hg]; exact (lqZ (GS.lB HB.out)) : w.heap.size ≤ gb259)); clear HB; have HB := n0_; have BK259 := n1_; have GW259 := n2_; have GE259 := n3_; clear n0_ n1_ n2_ n3_; clear hb hbox hg; obtain ⟨hcz7_0, hcz7_1, hcz7_2, hcz7_3, hfz7_0, hfz7_1, hfz7_2, hfz7_3⟩ := GS.c4 BK259.out) | ((with_reducible refine gqC (f := 16) rfl ?_); refine GS.gL (some 9) Try.func16 #[.agg #[.string a0_0, .int .i64 a0_1, .slice A0_2 l0_2.length c0_2, .int .i64 a0_3], .slice A1 l1.length c1] ?_; (with_reducible refine (standing_Check.calls k a0_0 a0_1 _ _ l0_2 a0_3 _ _ l1 t260 _ ?side1 ?side2 ?side3 ?side4 A3.out).mono ?_); (case side1 => exact GS.rC (Kd.C_below HR0_2.out HB.out)); (case side2 => exact HC0_2.out); (case side3 => exact GS.rC (Kd.C_below HR1.out HB.out)); (case side4 => exact HC1.out); rintro e w8 ⟨rfl, hb⟩; refine ⟨_, rfl, ?_⟩; have n0_ := Aside0.mk (bqB (GS.bqX BK259.out) hb); have n1_ := Aside0.mk (lqT (GS.lB HB.out) hb); clear BK259; clear HB; have BK259 := n0_; have HB := n1_; clear n0_ n1_; (try clear hb); (try clear hb2); (try clear hk); (try clear hi); obtain ⟨hcz9_0, hcz9_1, hcz9_2, hcz9_3, hfz9_0, hfz9_1, hfz9_2, hfz9_3⟩ := GS.c4 BK259.out) | ((with_reducible refine gqC (f := 42) rfl ?_); refine GS.gL (some 15) Try.func42 #[.agg #[.string a0_0, .int .i64 a0_1, .slice A0_2 l0_2.length c0_2, .int .i64 a0_3], .slice A1 l1.length c1] ?_; (with_reducible refine (sums42.calls a0_0 a0_1 _ _ l0_2 a0_3 _ _ l1 t261 _ ?side1 ?side2 ?side3 ?side4 A5.out).mono ?_); (case side1 => exact GS.rC (Kd.C_below HR0_2.out HB.out)); (case side2 => exact HC0_2.out); (case side3 => exact GS.rC (Kd.C_below HR1.out HB.out)); (case side4 => exact HC1.out); rintro e w10 ⟨v262, rfl, ho0, hb⟩; refine ⟨_, rfl, ?_⟩; have n0_ := Aside0.mk (Kd.R_lower ho0 (lqZ (GS.lB HB.out))); have n1_ := Aside0.mk (bqB (GS.bqX BK259.out) hb); have n2_ := Aside0.mk (lqT (GS.lB HB.out) hb); clear BK259; clear HB; have HO263 := n0_; have BK259 := n1_; have HB := n2_; clear n0_ n1_ n2_; (try clear hb); (try clear hb2); (try clear hk); (try clear hi); (try clear ho0)))
  go_ret2
  exact ⟨_, by first | rfl | (simp [errW_none, errW_some] <;> rfl) | (simp [*, errW_none, errW_some] <;> rfl), by (with_reducible repeat (first | apply Kd.R_alloc | apply Kd.R_drewN | apply Kd.R_drew)); exact HO263.out, GS.lB HB.out⟩
 ·rw [if_neg c4] at H
  have c4b0 : (t260 == 0) = false := beq_eq_false_iff_ne.mpr c4
  try simp only [beq_self_eq_true, Bool.not_true, Bool.false_or, Bool.true_and] at c4b0
  have c4b1 : (t260 != 0) = true := bne_iff_ne.mpr c4
  simp only [Option.some.injEq, Prod.mk.injEq] at H
  obtain ⟨rfl, rfl⟩ := H
  go_enter Try.func22, Try.ntmps22
  go_wp2_with (first | ((with_reducible refine gqD (N := 2) rfl ?_); refine GS.bx (N := 2) (cs := #[.string a0_0, .int .i64 a0_1, .slice A0_2 l0_2.length c0_2, .int .i64 a0_3]) (t := 24) ?_; intro gb259 hg w11 hbox hb; have n0_ := Aside0.mk (lqT (GS.lB HB.out) hb); have n1_ := Aside0.mk (hbox); have n2_ := Aside0.mk ((by rw [hg]; exact (lqZ (GS.lB HB.out)) : w.heap.size ≤ gb259)); have n3_ := Aside0.mk ((by rw [hg]; exact (lqZ (GS.lB HB.out)) : w.heap.size ≤ gb259)); clear HB; have HB := n0_; have BK259 := n1_; have GW259 := n2_; have GE259 := n3_; clear n0_ n1_ n2_ n3_; clear hb hbox hg; obtain ⟨hcz12_0, hcz12_1, hcz12_2, hcz12_3, hfz12_0, hfz12_1, hfz12_2, hfz12_3⟩ := GS.c4 BK259.out) | ((with_reducible refine gqC (f := 16) rfl ?_); refine GS.gL (some 9) Try.func16 #[.agg #[.string a0_0, .int .i64 a0_1, .slice A0_2 l0_2.length c0_2, .int .i64 a0_3], .slice A1 l1.length c1] ?_; (with_reducible refine (standing_Check.calls k a0_0 a0_1 _ _ l0_2 a0_3 _ _ l1 t260 _ ?side1 ?side2 ?side3 ?side4 A3.out).mono ?_); (case side1 => exact GS.rC (Kd.C_below HR0_2.out HB.out)); (case side2 => exact HC0_2.out); (case side3 => exact GS.rC (Kd.C_below HR1.out HB.out)); (case side4 => exact HC1.out); rintro e w13 ⟨rfl, hb⟩; refine ⟨_, rfl, ?_⟩; have n0_ := Aside0.mk (bqB (GS.bqX BK259.out) hb); have n1_ := Aside0.mk (lqT (GS.lB HB.out) hb); clear BK259; clear HB; have BK259 := n0_; have HB := n1_; clear n0_ n1_; (try clear hb); (try clear hb2); (try clear hk); (try clear hi)))
  go_ret2
  exact ⟨_, by first | rfl | (simp [errW_none, errW_some] <;> rfl) | (simp [*, errW_none, errW_some] <;> rfl), by first | exact Kd.R_nil _ _ _ _ _ | exact Kd.N_nil _ _ _ _ _ | exact Kd.V_nil _ _ _ _ _ | exact Kd.Q_nil _ _ _ _ _ | exact Kd.S_nil _ _ _ _ _, GS.lB HB.out⟩

/-! ### api_Bounds: function 24 -/
def api_Bounds.l0 : Nat → List (S40) → List (S40) → Int → Int → Option (Bool)
 | 0, _, _, _, _ => none
 | k + 1, x0, x1, x12, x13 => if x13 < x12 then (if 0 ≤ x13 then (if x13 < (x0.length : Int) then (if x13 < (x1.length : Int) then (if (!(((rd_T40 x0 x13).f0) == ((rd_T40 x1 x13).f0)) || (!(((rd_T40 x0 x13).f1) == ((rd_T40 x1 x13).f1)))) = true then (some false) else (api_Bounds.l0 k x0 x1 x12 (wrap64 (x13 + 1)))) else (none)) else (none)) else (none)) else (some true)
def api_Bounds.f (k : Nat) (l0 : List (S40)) (l1 : List (S40)) : Option (Bool) := if (l0.length : Int) = (l1.length : Int) then (api_Bounds.l0 k l0 l1 (l0.length : Int) 0) else (some false)
theorem api_Bounds.mono_l : ∀ k, (∀ y0 y1 y2 y3, LeO (api_Bounds.l0 k y0 y1 y2 y3) (api_Bounds.l0 (k + 1) y0 y1 y2 y3))
 | 0 => fun _ _ _ _ r h => by simp [api_Bounds.l0] at h
 | k + 1 => by
  have ih0 := api_Bounds.mono_l k
  ·intro y0 y1 y2 y3
   unfold api_Bounds.l0
   repeat' first
   | (with_reducible exact ih0 _ _ _ _)
   | (with_reducible exact LeO.refl _)
   | (with_reducible exact LeO.none _)
   | (with_reducible refine LeO.ite ?_ ?_)
   | (with_reducible refine LeO.bind ?_ (fun _ => ?_))
   | exact ih0 _ _ _ _
   | exact LeO.none _
   | refine LeO.ite ?_ ?_
   | refine LeO.bind ?_ (fun _ => ?_)
theorem api_Bounds.mono : ∀ a0 a1 k, LeO (api_Bounds.f k a0 a1) (api_Bounds.f (k + 1) a0 a1) := by
 intro a0 a1 k
 have ih0 := api_Bounds.mono_l k
 unfold api_Bounds.f
 repeat' first
   | (with_reducible exact ih0 _ _ _ _)
   | (with_reducible exact LeO.refl _)
   | (with_reducible exact LeO.none _)
   | (with_reducible refine LeO.ite ?_ ?_)
   | (with_reducible refine LeO.bind ?_ (fun _ => ?_))
   | exact ih0 _ _ _ _
   | exact LeO.none _
   | refine LeO.ite ?_ ?_
   | refine LeO.bind ?_ (fun _ => ?_)
set_option maxHeartbeats 8000000 in
set_option maxRecDepth 100000 in
theorem api_Bounds.calls (k : Nat) (A0 : Option Addr) (c0 : Nat) (l0 : List (S40)) (A1 : Option Addr) (c1 : Nat) (l1 : List (S40)) (r : Bool) (w : World) (hr0 : Kd.C k40 w A0 l0.length l0) (hc0 : l0.length ≤ c0) (hr1 : Kd.C k40 w A1 l1.length l1) (hc1 : l1.length ≤ c1) (h : api_Bounds.f k l0 l1 = some r) :
  Calls Try.prog 24 #[.slice A0 l0.length c0, .slice A1 l1.length c1] w fun e w' => e = .returned (.bool r) ∧ Drawn0 w w' := by
 have hu40 := Try.underlying40
 have HR0 := Aside0.mk hr0
 have HC0 := Aside0.mk hc0
 clear hr0 hc0
 have HR1 := Aside0.mk hr1
 have HC1 := Aside0.mk hc1
 clear hr1 hc1
 have H : (if (l0.length : Int) = (l1.length : Int) then (api_Bounds.l0 k l0 l1 (l0.length : Int) 0) else (some false)) = some r := h
 clear h
 by_cases c3 : (l0.length : Int) = (l1.length : Int)
 ·rw [if_pos c3] at H
  have c3b0 : ((l0.length : Int) == (l1.length : Int)) = true := beq_iff_eq.mpr c3
  try simp only [beq_self_eq_true, Bool.not_true, Bool.false_or, Bool.true_and] at c3b0
  have c3b1 : ((l0.length : Int) != (l1.length : Int)) = false := bne_eq_false_iff_eq.mpr c3
  have c3b2 : (l0.length == l1.length) = true := by first | simpa using c3 | (simp at c3 ⊢; omega)
  clear c3
  have H' := Aside0.mk H
  clear H
  go_enter Try.func24, Try.ntmps24
  go_wp2
  repeat (go_quiet (fail); try go_wp2)
  go_loopg [13] k (fun kq v13 w' => ∃ (x13_1 : Int), v13 = .int .i64 x13_1 ∧ Aside0 (api_Bounds.l0 kq l0 l1 (l0.length : Int) x13_1 = some r) ∧ Aside0 (kq ≤ k) ∧ Drawn0 w w')
  case atStart => exact ⟨(0), (by first | rfl | (simp; done) | (simp [*]; done)), H', ⟨Nat.le_refl _⟩, by repeat (first | exact Drawn0.refl _ | apply Drawn0.step)⟩
  case round =>
   clear H'
   try clear c1
   try clear c2
   try clear p2
   try clear c3
   try clear c3b0
   try clear c3b1
   try clear c3b2
   obtain ⟨x13_1, rfl, HA, HK1, ⟨m1, rfl⟩⟩ := hrel
   cases gk with
   | zero => exact absurd HA.out (by simp [api_Bounds.l0])
   | succ k1 =>
    have H := HA.out
    clear HA
    simp only [api_Bounds.l0] at H
    by_cases c4 : x13_1 < (l0.length : Int)
    ·rw [if_pos c4] at H
     have c4b0 : decide (x13_1 < (l0.length : Int)) = true := decide_eq_true c4
     clear c4
     by_cases c5 : 0 ≤ x13_1
     ·rw [if_pos c5] at H
      have c5b0 : decide (0 ≤ x13_1) = true := decide_eq_true c5
      clear c5
      by_cases c6 : x13_1 < (l0.length : Int)
      ·rw [if_pos c6] at H
       have c6b0 : decide (x13_1 < (l0.length : Int)) = true := decide_eq_true c6
       clear c6
       by_cases c7 : x13_1 < (l1.length : Int)
       ·rw [if_pos c7] at H
        have c7b0 : decide (x13_1 < (l1.length : Int)) = true := decide_eq_true c7
        clear c7
        by_cases c8 : (!(((rd_T40 l0 x13_1).f0) == ((rd_T40 l1 x13_1).f0)) || (!(((rd_T40 l0 x13_1).f1) == ((rd_T40 l1 x13_1).f1)))) = true
        ·rw [if_pos c8] at H
         have c8b0 : (!(((rd_T40 l0 x13_1).f0) == ((rd_T40 l1 x13_1).f0)) || (!(((rd_T40 l0 x13_1).f1) == ((rd_T40 l1 x13_1).f1)))) = true := c8
         try simp only [beq_self_eq_true, Bool.not_true, Bool.false_or, Bool.true_and] at c8b0
         clear c8
         obtain rfl := Option.some.inj H
         have p264 : 0 ≤ (x13_1 : Int) := of_decide_eq_true (by first | (with_reducible assumption) | assumption)
         have q264 : x13_1 < (l0.length : Int) := of_decide_eq_true (by first | (with_reducible assumption) | assumption)
         obtain ⟨ad264, e264, hx264_0, hx264_1⟩ := at_T40 HR0.out x13_1 p264 q264
         cases e264
         replace p264 := eq_true p264
         replace q264 := eq_true q264
         have p265 : 0 ≤ (x13_1 : Int) := of_decide_eq_true (by first | (with_reducible assumption) | assumption)
         have q265 : x13_1 < (l1.length : Int) := of_decide_eq_true (by first | (with_reducible assumption) | assumption)
         obtain ⟨ad265, e265, hx265_0, hx265_1⟩ := at_T40 HR1.out x13_1 p265 q265
         cases e265
         replace p265 := eq_true p265
         replace q265 := eq_true q265
         go_wp2
         repeat (go_quiet (fail); try go_wp2)
         go_ret
         exact ⟨by first | rfl | (simp; done) | (simp [*]; done), by repeat (first | exact Drawn0.refl _ | apply Drawn0.step)⟩
        ·rw [if_neg c8] at H
         have c8b0 : (!(((rd_T40 l0 x13_1).f0) == ((rd_T40 l1 x13_1).f0)) || (!(((rd_T40 l0 x13_1).f1) == ((rd_T40 l1 x13_1).f1)))) = false := by simpa using c8
         try simp only [beq_self_eq_true, Bool.not_true, Bool.false_or, Bool.true_and] at c8b0
         clear c8
         have H' := Aside0.mk H
         clear H
         have p264 : 0 ≤ (x13_1 : Int) := of_decide_eq_true (by first | (with_reducible assumption) | assumption)
         have q264 : x13_1 < (l0.length : Int) := of_decide_eq_true (by first | (with_reducible assumption) | assumption)
         obtain ⟨ad264, e264, hx264_0, hx264_1⟩ := at_T40 HR0.out x13_1 p264 q264
         cases e264
         replace p264 := eq_true p264
         replace q264 := eq_true q264
         have p265 : 0 ≤ (x13_1 : Int) := of_decide_eq_true (by first | (with_reducible assumption) | assumption)
         have q265 : x13_1 < (l1.length : Int) := of_decide_eq_true (by first | (with_reducible assumption) | assumption)
         obtain ⟨ad265, e265, hx265_0, hx265_1⟩ := at_T40 HR1.out x13_1 p265 q265
         cases e265
         replace p265 := eq_true p265
         replace q265 := eq_true q265
         go_wp2
         repeat (go_quiet (fail); try go_wp2)
         go_roundg k1
         case measure => have := HK1.out; omega
         case rel => exact ⟨(wrap64 (x13_1 + 1)), (by first | rfl | (simp; done) | (simp [*]; done)), H', ⟨by have := HK1.out; omega⟩, by repeat (first | exact Drawn0.refl _ | apply Drawn0.step)⟩
       ·rw [if_neg c7] at H
        exact absurd H (by simp)
      ·rw [if_neg c6] at H
       exact absurd H (by simp)
     ·rw [if_neg c5] at H
      exact absurd H (by simp)
    ·rw [if_neg c4] at H
     have c4b0 : decide (x13_1 < (l0.length : Int)) = false := decide_eq_false c4
     clear c4
     obtain rfl := Option.some.inj H
     go_wp2
     repeat (go_quiet (fail); try go_wp2)
     go_ret
     exact ⟨by first | rfl | (simp; done) | (simp [*]; done), by repeat (first | exact Drawn0.refl _ | apply Drawn0.step)⟩
 ·rw [if_neg c3] at H
  have c3b0 : ((l0.length : Int) == (l1.length : Int)) = false := beq_eq_false_iff_ne.mpr c3
  try simp only [beq_self_eq_true, Bool.not_true, Bool.false_or, Bool.true_and] at c3b0
  have c3b1 : ((l0.length : Int) != (l1.length : Int)) = true := bne_iff_ne.mpr c3
  have c3b2 : (l0.length == l1.length) = false := by first | simpa using c3 | (simp at c3 ⊢; omega)
  obtain rfl := Option.some.inj H
  go_enter Try.func24, Try.ntmps24
  go_wp2
  repeat (go_quiet (fail); try go_wp2)
  go_ret
  exact ⟨by first | rfl | (simp; done) | (simp [*]; done), by repeat (first | exact Drawn0.refl _ | apply Drawn0.step)⟩

/-! ### standing_Wet: function 25 -/
def standing_Wet.f (k : Nat) (a0_0 : ByteArray) (a0_1 : Int) (l0_2 : List (S33)) (a0_3 : Int) (a1 : Int) (a2 : Int) : Option (Int × Int × Int) := (standing_stands.f k a0_0 a0_1 l0_2 a0_3).bind fun t268 => (if t268 = 0 then ((standing_Levels.f k l0_2 a1 a2).bind fun bt269 => (if bt269.2 = 0 then (if a1 = 0 then (some (0, 0, bt269.2)) else ((standing_Between.f k a0_0 a0_1 l0_2 a0_3 bt269.1).bind fun bt273 => (some (bt273.1, bt273.2.1, bt273.2.2)))) else (some (0, 0, bt269.2)))) else (some (0, 0, t268)))
theorem standing_Wet.mono : ∀ a0 a1 a2 a3 a4 a5 k, LeO (standing_Wet.f k a0 a1 a2 a3 a4 a5) (standing_Wet.f (k + 1) a0 a1 a2 a3 a4 a5) := by
 intro a0 a1 a2 a3 a4 a5 k
 unfold standing_Wet.f
 repeat' first
   | (with_reducible exact standing_Between.mono _ _ _ _ _ _)
   | (with_reducible exact standing_Levels.mono _ _ _ _)
   | (with_reducible exact standing_stands.mono _ _ _ _ _)
   | (with_reducible exact LeO.refl _)
   | (with_reducible exact LeO.none _)
   | (with_reducible refine LeO.ite ?_ ?_)
   | (with_reducible refine LeO.bind ?_ (fun _ => ?_))
   | exact standing_Between.mono _ _ _ _ _ _
   | exact standing_Levels.mono _ _ _ _
   | exact standing_stands.mono _ _ _ _ _
   | exact LeO.none _
   | refine LeO.ite ?_ ?_
   | refine LeO.bind ?_ (fun _ => ?_)
set_option maxHeartbeats 8000000 in
set_option maxRecDepth 100000 in
theorem standing_Wet.calls (k : Nat) (a0_0 : ByteArray) (a0_1 : Int) (A0_2 : Option Addr) (c0_2 : Nat) (l0_2 : List (S33)) (a0_3 : Int) (a1 : Int) (a2 : Int) (r1 : Int) (r2 : Int) (r3 : Int) (w : World) (hr0_2 : Kd.C k33 w A0_2 l0_2.length l0_2) (hc0_2 : l0_2.length ≤ c0_2) (h : standing_Wet.f k a0_0 a0_1 l0_2 a0_3 a1 a2 = some (r1, r2, r3)) :
  Calls Try.prog 25 #[.agg #[.string a0_0, .int .i64 a0_1, .slice A0_2 l0_2.length c0_2, .int .i64 a0_3], .int .i64 a1, .int .i64 a2] w fun e w' => e = .returned (.tuple #[.agg #[.int .i64 r1, .int .i64 r2], .int .i64 r3]) ∧ Below w.heap.size w w' := by
 have hu24 := Try.underlying24
 have hu40 := Try.underlying40
 have HR0_2 := Aside0.mk hr0_2
 have HC0_2 := Aside0.mk hc0_2
 clear hr0_2 hc0_2
 have HB := Aside0.mk (Below.refl w.heap.size w)
 have H : ((standing_stands.f k a0_0 a0_1 l0_2 a0_3).bind fun t268 => (if t268 = 0 then ((standing_Levels.f k l0_2 a1 a2).bind fun bt269 => (if bt269.2 = 0 then (if a1 = 0 then (some (0, 0, bt269.2)) else ((standing_Between.f k a0_0 a0_1 l0_2 a0_3 bt269.1).bind fun bt273 => (some (bt273.1, bt273.2.1, bt273.2.2)))) else (some (0, 0, bt269.2)))) else (some (0, 0, t268)))) = some (r1, r2, r3) := h
 clear h
 replace H := Option.bind_eq_some_iff.mp H
 obtain ⟨t268, A40, H⟩ := H
 replace H : (if t268 = 0 then ((standing_Levels.f k l0_2 a1 a2).bind fun bt269 => (if bt269.2 = 0 then (if a1 = 0 then (some (0, 0, bt269.2)) else ((standing_Between.f k a0_0 a0_1 l0_2 a0_3 bt269.1).bind fun bt273 => (some (bt273.1, bt273.2.1, bt273.2.2)))) else (some (0, 0, bt269.2)))) else (some (0, 0, t268))) = some (r1, r2, r3) := H
 have A4 := Aside0.mk A40
 clear A40
 by_cases c5 : t268 = 0
 ·rw [if_pos c5] at H
  have c5b0 : (t268 == 0) = true := beq_iff_eq.mpr c5
  try simp only [beq_self_eq_true, Bool.not_true, Bool.false_or, Bool.true_and] at c5b0
  have c5b1 : (t268 != 0) = false := bne_eq_false_iff_eq.mpr c5
  clear c5
  replace H := Option.bind_eq_some_iff.mp H
  obtain ⟨⟨t269, t270⟩, A60, H⟩ := H
  replace H : (if t270 = 0 then (if a1 = 0 then (some (0, 0, t270)) else ((standing_Between.f k a0_0 a0_1 l0_2 a0_3 t269).bind fun bt273 => (some (bt273.1, bt273.2.1, bt273.2.2)))) else (some (0, 0, t270))) = some (r1, r2, r3) := H
  have A6 := Aside0.mk A60
  clear A60
  by_cases c7 : t270 = 0
  ·rw [if_pos c7] at H
   have c7b0 : (t270 == 0) = true := beq_iff_eq.mpr c7
   try simp only [beq_self_eq_true, Bool.not_true, Bool.false_or, Bool.true_and] at c7b0
   have c7b1 : (t270 != 0) = false := bne_eq_false_iff_eq.mpr c7
   clear c7
   by_cases c8 : a1 = 0
   ·rw [if_pos c8] at H
    have c8b0 : (a1 == 0) = true := beq_iff_eq.mpr c8
    try simp only [beq_self_eq_true, Bool.not_true, Bool.false_or, Bool.true_and] at c8b0
    have c8b1 : (a1 != 0) = false := bne_eq_false_iff_eq.mpr c8
    clear c8
    simp only [Option.some.injEq, Prod.mk.injEq] at H
    obtain ⟨rfl, rfl, rfl⟩ := H
    go_enter Try.func25, Try.ntmps25
    go_wp2_with (first | ((with_reducible refine gqD (N := 3) rfl ?_); refine GS.bx (N := 3) (cs := #[.string a0_0, .int .i64 a0_1, .slice A0_2 l0_2.length c0_2, .int .i64 a0_3]) (t := 24) ?_; intro gb266 hg w9 hbox hb; have n0_ := Aside0.mk (lqT (GS.lB HB.out) hb); have n1_ := Aside0.mk (hbox); have n2_ := Aside0.mk ((by rw [hg]; exact (lqZ (GS.lB HB.out)) : w.heap.size ≤ gb266)); have n3_ := Aside0.mk ((by rw [hg]; exact (lqZ (GS.lB HB.out)) : w.heap.size ≤ gb266)); clear HB; have HB := n0_; have BK266 := n1_; have GW266 := n2_; have GE266 := n3_; clear n0_ n1_ n2_ n3_; clear hb hbox hg) | ((with_reducible refine gqD (N := 6) rfl ?_); refine GS.bx (N := 6) (cs := #[.int .i64 0, .int .i64 0]) (t := 40) ?_; intro gb267 hg w10 hbox hb; have n0_ := Aside0.mk (bqB (GS.bqX BK266.out) hb); have n1_ := Aside0.mk (lqT (GS.lB HB.out) hb); have n2_ := Aside0.mk (hbox); have n3_ := Aside0.mk ((by rw [hg]; exact (lqZ (GS.lB HB.out)) : w.heap.size ≤ gb267)); have n4_ := Aside0.mk ((by rw [hg]; exact (lqZ (GS.lB HB.out)) : w.heap.size ≤ gb267)); have n5_ := Aside0.mk ((by rw [hg]; exact Nat.ne_of_lt (blk_lt (GS.bqX BK266.out)) : gb266 ≠ gb267)); have n6_ := Aside0.mk ((by rw [hg]; exact Nat.ne_of_gt (blk_lt (GS.bqX BK266.out)) : gb267 ≠ gb266)); clear BK266; clear HB; have BK266 := n0_; have HB := n1_; have BK267 := n2_; have GW267 := n3_; have GE267 := n4_; have NB266_267 := n5_; have NB267_266 := n6_; clear n0_ n1_ n2_ n3_ n4_ n5_ n6_; clear hb hbox hg; have hnb11 := NB266_267.out; have hnc11 := NB267_266.out; obtain ⟨hcz12_0, hcz12_1, hcz12_2, hcz12_3, hfz12_0, hfz12_1, hfz12_2, hfz12_3⟩ := GS.c4 BK266.out) | ((with_reducible refine gqC (f := 37) rfl ?_); refine GS.gL (some 12) Try.func37 #[.agg #[.string a0_0, .int .i64 a0_1, .slice A0_2 l0_2.length c0_2, .int .i64 a0_3]] ?_; (with_reducible refine (standing_stands.calls k a0_0 a0_1 _ _ l0_2 a0_3 t268 _ ?side1 ?side2 A4.out).mono ?_); (case side1 => exact GS.rC (Kd.C_below HR0_2.out HB.out)); (case side2 => exact HC0_2.out); rintro e w13 ⟨rfl, hb⟩; refine ⟨_, rfl, ?_⟩; have n0_ := Aside0.mk (bqB (GS.bqX BK266.out) hb); have n1_ := Aside0.mk (bqB (GS.bqX BK267.out) hb); have n2_ := Aside0.mk (lqT (GS.lB HB.out) hb); clear BK266; clear BK267; clear HB; have BK266 := n0_; have BK267 := n1_; have HB := n2_; clear n0_ n1_ n2_; (try clear hb); (try clear hb2); (try clear hk); (try clear hi); obtain ⟨hcz14_0, hcz14_1, hcz14_2, hcz14_3, hfz14_0, hfz14_1, hfz14_2, hfz14_3⟩ := GS.c4 BK266.out) | ((with_reducible refine gqC (f := 12) rfl ?_); refine GS.gL (some 22) Try.func12 #[.slice A0_2 l0_2.length c0_2, .int .i64 a1, .int .i64 a2] ?_; (with_reducible refine (standing_Levels.calls k _ _ l0_2 a1 a2 t269 t270 _ ?side1 ?side2 A6.out).mono ?_); (case side1 => exact GS.rC (Kd.C_below HR0_2.out HB.out)); (case side2 => exact HC0_2.out); rintro e w15 ⟨v271, rfl, ho0, hb⟩; refine ⟨_, rfl, ?_⟩; have n0_ := Aside0.mk (Kd.R_lower ho0 (lqZ (GS.lB HB.out))); have n1_ := Aside0.mk (bqB (GS.bqX BK266.out) hb); have n2_ := Aside0.mk (bqB (GS.bqX BK267.out) hb); have n3_ := Aside0.mk (lqT (GS.lB HB.out) hb); clear BK266; clear BK267; clear HB; have HO272 := n0_; have BK266 := n1_; have BK267 := n2_; have HB := n3_; clear n0_ n1_ n2_ n3_; (try clear hb); (try clear hb2); (try clear hk); (try clear hi); (try clear ho0); obtain ⟨hcz16_0, hcz16_1, hfz16_0, hfz16_1⟩ := GS.c2 BK267.out))
    refine bodyPost_ret (results_ct rfl _ _ gb267 40 #[.int .i64 0, .int .i64 0] (0, 0) _ rfl (GS.bqZ BK267.out) Try.underlying40 rfl (by kernel_rfl)) rfl ?_
    exact ⟨by first | rfl | (simp [errW_none, errW_some] <;> rfl) | (simp [*, errW_none, errW_some] <;> rfl), GS.lB HB.out⟩
   ·rw [if_neg c8] at H
    have c8b0 : (a1 == 0) = false := beq_eq_false_iff_ne.mpr c8
    try simp only [beq_self_eq_true, Bool.not_true, Bool.false_or, Bool.true_and] at c8b0
    have c8b1 : (a1 != 0) = true := bne_iff_ne.mpr c8
    replace H := Option.bind_eq_some_iff.mp H
    obtain ⟨⟨t273, t274, t275⟩, A170, H⟩ := H
    replace H : (some (t273, t274, t275)) = some (r1, r2, r3) := H
    have A17 := Aside0.mk A170
    clear A170
    simp only [Option.some.injEq, Prod.mk.injEq] at H
    obtain ⟨rfl, rfl, rfl⟩ := H
    go_enter Try.func25, Try.ntmps25
    go_wp2_with (first | ((with_reducible refine gqD (N := 3) rfl ?_); refine GS.bx (N := 3) (cs := #[.string a0_0, .int .i64 a0_1, .slice A0_2 l0_2.length c0_2, .int .i64 a0_3]) (t := 24) ?_; intro gb266 hg w18 hbox hb; have n0_ := Aside0.mk (lqT (GS.lB HB.out) hb); have n1_ := Aside0.mk (hbox); have n2_ := Aside0.mk ((by rw [hg]; exact (lqZ (GS.lB HB.out)) : w.heap.size ≤ gb266)); have n3_ := Aside0.mk ((by rw [hg]; exact (lqZ (GS.lB HB.out)) : w.heap.size ≤ gb266)); clear HB; have HB := n0_; have BK266 := n1_; have GW266 := n2_; have GE266 := n3_; clear n0_ n1_ n2_ n3_; clear hb hbox hg) | ((with_reducible refine gqD (N := 6) rfl ?_); refine GS.bx (N := 6) (cs := #[.int .i64 0, .int .i64 0]) (t := 40) ?_; intro gb267 hg w19 hbox hb; have n0_ := Aside0.mk (bqB (GS.bqX BK266.out) hb); have n1_ := Aside0.mk (lqT (GS.lB HB.out) hb); have n2_ := Aside0.mk (hbox); have n3_ := Aside0.mk ((by rw [hg]; exact (lqZ (GS.lB HB.out)) : w.heap.size ≤ gb267)); have n4_ := Aside0.mk ((by rw [hg]; exact (lqZ (GS.lB HB.out)) : w.heap.size ≤ gb267)); have n5_ := Aside0.mk ((by rw [hg]; exact Nat.ne_of_lt (blk_lt (GS.bqX BK266.out)) : gb266 ≠ gb267)); have n6_ := Aside0.mk ((by rw [hg]; exact Nat.ne_of_gt (blk_lt (GS.bqX BK266.out)) : gb267 ≠ gb266)); clear BK266; clear HB; have BK266 := n0_; have HB := n1_; have BK267 := n2_; have GW267 := n3_; have GE267 := n4_; have NB266_267 := n5_; have NB267_266 := n6_; clear n0_ n1_ n2_ n3_ n4_ n5_ n6_; clear hb hbox hg; have hnb20 := NB266_267.out; have hnc20 := NB267_266.out; obtain ⟨hcz21_0, hcz21_1, hcz21_2, hcz21_3, hfz21_0, hfz21_1, hfz21_2, hfz21_3⟩ := GS.c4 BK266.out) | ((with_reducible refine gqC (f := 37) rfl ?_); refine GS.gL (some 12) Try.func37 #[.agg #[.string a0_0, .int .i64 a0_1, .slice A0_2 l0_2.length c0_2, .int .i64 a0_3]] ?_; (with_reducible refine (standing_stands.calls k a0_0 a0_1 _ _ l0_2 a0_3 t268 _ ?side1 ?side2 A4.out).mono ?_); (case side1 => exact GS.rC (Kd.C_below HR0_2.out HB.out)); (case side2 => exact HC0_2.out); rintro e w22 ⟨rfl, hb⟩; refine ⟨_, rfl, ?_⟩; have n0_ := Aside0.mk (bqB (GS.bqX BK266.out) hb); have n1_ := Aside0.mk (bqB (GS.bqX BK267.out) hb); have n2_ := Aside0.mk (lqT (GS.lB HB.out) hb); clear BK266; clear BK267; clear HB; have BK266 := n0_; have BK267 := n1_; have HB := n2_; clear n0_ n1_ n2_; (try clear hb); (try clear hb2); (try clear hk); (try clear hi); obtain ⟨hcz23_0, hcz23_1, hcz23_2, hcz23_3, hfz23_0, hfz23_1, hfz23_2, hfz23_3⟩ := GS.c4 BK266.out) | ((with_reducible refine gqC (f := 12) rfl ?_); refine GS.gL (some 22) Try.func12 #[.slice A0_2 l0_2.length c0_2, .int .i64 a1, .int .i64 a2] ?_; (with_reducible refine (standing_Levels.calls k _ _ l0_2 a1 a2 t269 t270 _ ?side1 ?side2 A6.out).mono ?_); (case side1 => exact GS.rC (Kd.C_below HR0_2.out HB.out)); (case side2 => exact HC0_2.out); rintro e w24 ⟨v271, rfl, ho0, hb⟩; refine ⟨_, rfl, ?_⟩; have n0_ := Aside0.mk (Kd.R_lower ho0 (lqZ (GS.lB HB.out))); have n1_ := Aside0.mk (bqB (GS.bqX BK266.out) hb); have n2_ := Aside0.mk (bqB (GS.bqX BK267.out) hb); have n3_ := Aside0.mk (lqT (GS.lB HB.out) hb); clear BK266; clear BK267; clear HB; have HO272 := n0_; have BK266 := n1_; have BK267 := n2_; have HB := n3_; clear n0_ n1_ n2_ n3_; (try clear hb); (try clear hb2); (try clear hk); (try clear hi); (try clear ho0); obtain ⟨hcz25_0, hcz25_1, hcz25_2, hcz25_3, hfz25_0, hfz25_1, hfz25_2, hfz25_3⟩ := GS.c4 BK266.out; obtain ⟨Ao26, co26, eo26⟩ := Kd.R_slice HO272.out; subst eo26) | ((with_reducible refine gqC (f := 20) rfl ?_); refine GS.gL (some 35) Try.func20 #[.agg #[.string a0_0, .int .i64 a0_1, .slice A0_2 l0_2.length c0_2, .int .i64 a0_3], .slice Ao26 t269.length co26] ?_; (with_reducible refine (standing_Between.calls k a0_0 a0_1 _ _ l0_2 a0_3 _ _ t269 t273 t274 t275 _ ?side1 ?side2 ?side3 ?side4 A17.out).mono ?_); (case side1 => exact GS.rC (Kd.C_below HR0_2.out HB.out)); (case side2 => exact HC0_2.out); (case side3 => repeat (first | exact (Kd.R_reads' HO272.out).2.2 | (with_reducible refine Kd.C_alloc ?_ _) | (with_reducible refine Kd.C_drewN ?_ _) | (with_reducible refine Kd.C_drew ?_))); (case side4 => exact (Kd.R_reads' HO272.out).2.1); rintro e w27 ⟨rfl, hb⟩; refine ⟨_, rfl, ?_⟩; have n0_ := Aside0.mk (Kd.R_below (GS.rR HO272.out) hb); have n1_ := Aside0.mk (bqB (GS.bqX BK266.out) hb); have n2_ := Aside0.mk (bqB (GS.bqX BK267.out) hb); have n3_ := Aside0.mk (lqT (GS.lB HB.out) hb); clear HO272; clear BK266; clear BK267; clear HB; have HO272 := n0_; have BK266 := n1_; have BK267 := n2_; have HB := n3_; clear n0_ n1_ n2_ n3_; (try clear hb); (try clear hb2); (try clear hk); (try clear hi); obtain ⟨hcz28_0, hcz28_1, hfz28_0, hfz28_1⟩ := GS.c2 BK267.out))
    refine bodyPost_ret (results_ct rfl _ _ gb267 40 #[.int .i64 t273, .int .i64 t274] (0, 0) _ rfl (GS.bqZ BK267.out) Try.underlying40 rfl (by kernel_rfl)) rfl ?_
    exact ⟨by first | rfl | (simp [errW_none, errW_some] <;> rfl) | (simp [*, errW_none, errW_some] <;> rfl), GS.lB HB.out⟩
  ·rw [if_neg c7] at H
   have c7b0 : (t270 == 0) = false := beq_eq_false_iff_ne.mpr c7
   try simp only [beq_self_eq_true, Bool.not_true, Bool.false_or, Bool.true_and] at c7b0
   have c7b1 : (t270 != 0) = true := bne_iff_ne.mpr c7
   simp only [Option.some.injEq, Prod.mk.injEq] at H
   obtain ⟨rfl, rfl, rfl⟩ := H
   go_enter Try.func25, Try.ntmps25
   go_wp2_with (first | ((with_reducible refine gqD (N := 3) rfl ?_); refine GS.bx (N := 3) (cs := #[.string a0_0, .int .i64 a0_1, .slice A0_2 l0_2.length c0_2, .int .i64 a0_3]) (t := 24) ?_; intro gb266 hg w29 hbox hb; have n0_ := Aside0.mk (lqT (GS.lB HB.out) hb); have n1_ := Aside0.mk (hbox); have n2_ := Aside0.mk ((by rw [hg]; exact (lqZ (GS.lB HB.out)) : w.heap.size ≤ gb266)); have n3_ := Aside0.mk ((by rw [hg]; exact (lqZ (GS.lB HB.out)) : w.heap.size ≤ gb266)); clear HB; have HB := n0_; have BK266 := n1_; have GW266 := n2_; have GE266 := n3_; clear n0_ n1_ n2_ n3_; clear hb hbox hg) | ((with_reducible refine gqD (N := 6) rfl ?_); refine GS.bx (N := 6) (cs := #[.int .i64 0, .int .i64 0]) (t := 40) ?_; intro gb267 hg w30 hbox hb; have n0_ := Aside0.mk (bqB (GS.bqX BK266.out) hb); have n1_ := Aside0.mk (lqT (GS.lB HB.out) hb); have n2_ := Aside0.mk (hbox); have n3_ := Aside0.mk ((by rw [hg]; exact (lqZ (GS.lB HB.out)) : w.heap.size ≤ gb267)); have n4_ := Aside0.mk ((by rw [hg]; exact (lqZ (GS.lB HB.out)) : w.heap.size ≤ gb267)); have n5_ := Aside0.mk ((by rw [hg]; exact Nat.ne_of_lt (blk_lt (GS.bqX BK266.out)) : gb266 ≠ gb267)); have n6_ := Aside0.mk ((by rw [hg]; exact Nat.ne_of_gt (blk_lt (GS.bqX BK266.out)) : gb267 ≠ gb266)); clear BK266; clear HB; have BK266 := n0_; have HB := n1_; have BK267 := n2_; have GW267 := n3_; have GE267 := n4_; have NB266_267 := n5_; have NB267_266 := n6_; clear n0_ n1_ n2_ n3_ n4_ n5_ n6_; clear hb hbox hg; have hnb31 := NB266_267.out; have hnc31 := NB267_266.out; obtain ⟨hcz32_0, hcz32_1, hcz32_2, hcz32_3, hfz32_0, hfz32_1, hfz32_2, hfz32_3⟩ := GS.c4 BK266.out) | ((with_reducible refine gqC (f := 37) rfl ?_); refine GS.gL (some 12) Try.func37 #[.agg #[.string a0_0, .int .i64 a0_1, .slice A0_2 l0_2.length c0_2, .int .i64 a0_3]] ?_; (with_reducible refine (standing_stands.calls k a0_0 a0_1 _ _ l0_2 a0_3 t268 _ ?side1 ?side2 A4.out).mono ?_); (case side1 => exact GS.rC (Kd.C_below HR0_2.out HB.out)); (case side2 => exact HC0_2.out); rintro e w33 ⟨rfl, hb⟩; refine ⟨_, rfl, ?_⟩; have n0_ := Aside0.mk (bqB (GS.bqX BK266.out) hb); have n1_ := Aside0.mk (bqB (GS.bqX BK267.out) hb); have n2_ := Aside0.mk (lqT (GS.lB HB.out) hb); clear BK266; clear BK267; clear HB; have BK266 := n0_; have BK267 := n1_; have HB := n2_; clear n0_ n1_ n2_; (try clear hb); (try clear hb2); (try clear hk); (try clear hi); obtain ⟨hcz34_0, hcz34_1, hcz34_2, hcz34_3, hfz34_0, hfz34_1, hfz34_2, hfz34_3⟩ := GS.c4 BK266.out) | ((with_reducible refine gqC (f := 12) rfl ?_); refine GS.gL (some 22) Try.func12 #[.slice A0_2 l0_2.length c0_2, .int .i64 a1, .int .i64 a2] ?_; (with_reducible refine (standing_Levels.calls k _ _ l0_2 a1 a2 t269 t270 _ ?side1 ?side2 A6.out).mono ?_); (case side1 => exact GS.rC (Kd.C_below HR0_2.out HB.out)); (case side2 => exact HC0_2.out); rintro e w35 ⟨v271, rfl, ho0, hb⟩; refine ⟨_, rfl, ?_⟩; have n0_ := Aside0.mk (Kd.R_lower ho0 (lqZ (GS.lB HB.out))); have n1_ := Aside0.mk (bqB (GS.bqX BK266.out) hb); have n2_ := Aside0.mk (bqB (GS.bqX BK267.out) hb); have n3_ := Aside0.mk (lqT (GS.lB HB.out) hb); clear BK266; clear BK267; clear HB; have HO272 := n0_; have BK266 := n1_; have BK267 := n2_; have HB := n3_; clear n0_ n1_ n2_ n3_; (try clear hb); (try clear hb2); (try clear hk); (try clear hi); (try clear ho0); obtain ⟨hcz36_0, hcz36_1, hfz36_0, hfz36_1⟩ := GS.c2 BK267.out))
   refine bodyPost_ret (results_ct rfl _ _ gb267 40 #[.int .i64 0, .int .i64 0] (0, 0) _ rfl (GS.bqZ BK267.out) Try.underlying40 rfl (by kernel_rfl)) rfl ?_
   exact ⟨by first | rfl | (simp [errW_none, errW_some] <;> rfl) | (simp [*, errW_none, errW_some] <;> rfl), GS.lB HB.out⟩
 ·rw [if_neg c5] at H
  have c5b0 : (t268 == 0) = false := beq_eq_false_iff_ne.mpr c5
  try simp only [beq_self_eq_true, Bool.not_true, Bool.false_or, Bool.true_and] at c5b0
  have c5b1 : (t268 != 0) = true := bne_iff_ne.mpr c5
  simp only [Option.some.injEq, Prod.mk.injEq] at H
  obtain ⟨rfl, rfl, rfl⟩ := H
  go_enter Try.func25, Try.ntmps25
  go_wp2_with (first | ((with_reducible refine gqD (N := 3) rfl ?_); refine GS.bx (N := 3) (cs := #[.string a0_0, .int .i64 a0_1, .slice A0_2 l0_2.length c0_2, .int .i64 a0_3]) (t := 24) ?_; intro gb266 hg w37 hbox hb; have n0_ := Aside0.mk (lqT (GS.lB HB.out) hb); have n1_ := Aside0.mk (hbox); have n2_ := Aside0.mk ((by rw [hg]; exact (lqZ (GS.lB HB.out)) : w.heap.size ≤ gb266)); have n3_ := Aside0.mk ((by rw [hg]; exact (lqZ (GS.lB HB.out)) : w.heap.size ≤ gb266)); clear HB; have HB := n0_; have BK266 := n1_; have GW266 := n2_; have GE266 := n3_; clear n0_ n1_ n2_ n3_; clear hb hbox hg) | ((with_reducible refine gqD (N := 6) rfl ?_); refine GS.bx (N := 6) (cs := #[.int .i64 0, .int .i64 0]) (t := 40) ?_; intro gb267 hg w38 hbox hb; have n0_ := Aside0.mk (bqB (GS.bqX BK266.out) hb); have n1_ := Aside0.mk (lqT (GS.lB HB.out) hb); have n2_ := Aside0.mk (hbox); have n3_ := Aside0.mk ((by rw [hg]; exact (lqZ (GS.lB HB.out)) : w.heap.size ≤ gb267)); have n4_ := Aside0.mk ((by rw [hg]; exact (lqZ (GS.lB HB.out)) : w.heap.size ≤ gb267)); have n5_ := Aside0.mk ((by rw [hg]; exact Nat.ne_of_lt (blk_lt (GS.bqX BK266.out)) : gb266 ≠ gb267)); have n6_ := Aside0.mk ((by rw [hg]; exact Nat.ne_of_gt (blk_lt (GS.bqX BK266.out)) : gb267 ≠ gb266)); clear BK266; clear HB; have BK266 := n0_; have HB := n1_; have BK267 := n2_; have GW267 := n3_; have GE267 := n4_; have NB266_267 := n5_; have NB267_266 := n6_; clear n0_ n1_ n2_ n3_ n4_ n5_ n6_; clear hb hbox hg; have hnb39 := NB266_267.out; have hnc39 := NB267_266.out; obtain ⟨hcz40_0, hcz40_1, hcz40_2, hcz40_3, hfz40_0, hfz40_1, hfz40_2, hfz40_3⟩ := GS.c4 BK266.out) | ((with_reducible refine gqC (f := 37) rfl ?_); refine GS.gL (some 12) Try.func37 #[.agg #[.string a0_0, .int .i64 a0_1, .slice A0_2 l0_2.length c0_2, .int .i64 a0_3]] ?_; (with_reducible refine (standing_stands.calls k a0_0 a0_1 _ _ l0_2 a0_3 t268 _ ?side1 ?side2 A4.out).mono ?_); (case side1 => exact GS.rC (Kd.C_below HR0_2.out HB.out)); (case side2 => exact HC0_2.out); rintro e w41 ⟨rfl, hb⟩; refine ⟨_, rfl, ?_⟩; have n0_ := Aside0.mk (bqB (GS.bqX BK266.out) hb); have n1_ := Aside0.mk (bqB (GS.bqX BK267.out) hb); have n2_ := Aside0.mk (lqT (GS.lB HB.out) hb); clear BK266; clear BK267; clear HB; have BK266 := n0_; have BK267 := n1_; have HB := n2_; clear n0_ n1_ n2_; (try clear hb); (try clear hb2); (try clear hk); (try clear hi); obtain ⟨hcz42_0, hcz42_1, hfz42_0, hfz42_1⟩ := GS.c2 BK267.out))
  refine bodyPost_ret (results_ct rfl _ _ gb267 40 #[.int .i64 0, .int .i64 0] (0, 0) _ rfl (GS.bqZ BK267.out) Try.underlying40 rfl (by kernel_rfl)) rfl ?_
  exact ⟨by first | rfl | (simp [errW_none, errW_some] <;> rfl) | (simp [*, errW_none, errW_some] <;> rfl), GS.lB HB.out⟩

/-! ### spilelaw12_Pail: function 32 -/
def spilelaw12_Pail.f  : Option (ByteArray × Int × (List (S33)) × Int) := some ((⟨#[112]⟩ : ByteArray), 2, (([(⟨0, 2⟩ : S33), (⟨4, 4⟩ : S33)] : List (S33))), 0)
set_option maxHeartbeats 8000000 in
set_option maxRecDepth 100000 in
theorem spilelaw12_Pail.calls  (r1 : ByteArray) (r2 : Int) (r3 : List (S33)) (r4 : Int) (w : World) (h : spilelaw12_Pail.f  = some (r1, r2, r3, r4)) :
  Calls Try.prog 32 #[] w fun e w' => ∃ v2_ : Value, e = .returned (.agg #[.string r1, .int .i64 r2, v2_, .int .i64 r4]) ∧ Kd.R k33 33 w' w.heap.size (fun _ => True) v2_ r3 ∧ Below w.heap.size w w' := by
 have hu24 := Try.underlying24
 have hu33 := Try.underlying33
 have HB := Aside0.mk (Below.refl w.heap.size w)
 have H : (some ((⟨#[112]⟩ : ByteArray), 2, (([(⟨0, 2⟩ : S33), (⟨4, 4⟩ : S33)] : List (S33))), 0)) = some (r1, r2, r3, r4) := h
 clear h
 obtain ⟨y277, hy277⟩ : ∃ y_ : List (S33), y_ = (([(⟨0, 2⟩ : S33), (⟨4, 4⟩ : S33)] : List (S33))) := ⟨_, rfl⟩
 replace H : (some ((⟨#[112]⟩ : ByteArray), 2, y277, 0)) = some (r1, r2, r3, r4) := by first | (rw [hy277]; with_reducible exact H) | (have H2_ := (Option.bind_some _ _).symm.trans H; rw [hy277]; with_reducible exact H2_) | (have H2_ := (Option.bind_some _ _).symm.trans H; with_reducible exact H2_) | with_reducible exact H | (rw [hy277]; exact H) | exact H
 have Ny277 := Aside0.mk hy277
 clear hy277
 simp only [Option.some.injEq, Prod.mk.injEq] at H
 obtain ⟨rfl, rfl, rfl, rfl⟩ := H
 go_enter Try.func32, Try.ntmps32
 go_wp2_with (first | ((with_reducible refine gqD (N := 0) rfl ?_); refine box_event ?hg (N := 0) ?hd (cs := #[.string (⟨#[]⟩ : ByteArray), .int .i64 0, .slice none 0 0, .int .i64 0]) (t := 24) ?hr ?_; (case hd => rfl); (case hg => rfl); (case hr => first | (go_simp; done) | (go_simp; rfl)); intro gb276 hg w1 hbox hb; have n0_ := Aside0.mk (lqT (GS.lB HB.out) hb); have n1_ := Aside0.mk (hbox); have n2_ := Aside0.mk ((by rw [hg]; exact (lqZ (GS.lB HB.out)) : w.heap.size ≤ gb276)); have n3_ := Aside0.mk ((by rw [hg]; exact (lqZ (GS.lB HB.out)) : w.heap.size ≤ gb276)); clear HB; have HB := n0_; have BK276 := n1_; have GW276 := n2_; have GE276 := n3_; clear n0_ n1_ n2_ n3_; clear hb hbox hg) | ((with_reducible refine gqD (N := 3) rfl ?_); refine Kd.R_lit k33 _ 33 ?hg (N := 3) ?hd (xs := ([(⟨0, 2⟩ : S33), (⟨4, 4⟩ : S33)] : List (S33))) (inner := [.int .i64 0, .int .i64 2, .int .i64 4, .int .i64 4]) (ok := fun _ => True) (okp := fun _ => True) ?hr ?hp (fun _ hk => hk) trivial (Below.refl _ _) (Nat.le_refl _) (by simp) ?_; (case hd => rfl); (case hg => rfl); (case hr => first | (go_simp; done) | (go_simp; rfl)); (case hp => exact (Reps.c2 (show Kd.M k33 _ _ _ (⟨0, 2⟩ : S33) [.int .i64 0, .int .i64 2] from (k33_mkM _ _ _ (⟨0, 2⟩ : S33) )) (Reps.c2 (show Kd.M k33 _ _ _ (⟨4, 4⟩ : S33) [.int .i64 4, .int .i64 4] from (k33_mkM _ _ _ (⟨4, 4⟩ : S33) )) (Reps.none _ _)))); intro v278 w2 ho3 hb hg_ hnew_; clear hg_ hnew_; (first | rw [← Ny277.out] at ho3 | (simp only [Int.reduceToNat] at ho3; rw [← Ny277.out] at ho3)); have n0_ := Aside0.mk (Kd.R_lower ho3 (lqZ (GS.lB HB.out))); have n1_ := Aside0.mk (bqB (g := gb276) (o := .cells #[.string (⟨#[]⟩ : ByteArray), .int .i64 0, .slice none 0 0, .int .i64 0] 24 (0, 0)) (GS.bqX BK276.out) hb); have n2_ := Aside0.mk (lqT (GS.lB HB.out) hb); clear BK276; clear HB; have HO279 := n0_; have BK276 := n1_; have HB := n2_; clear n0_ n1_ n2_; clear hb ho3; obtain ⟨Ao4, co4, eo4⟩ := Kd.R_slice HO279.out; subst eo4; obtain ⟨hcz5_0, hcz5_1, hcz5_2, hcz5_3, hfz5_0, hfz5_1, hfz5_2, hfz5_3⟩ := GS.c4 BK276.out))
 refine bodyPost_ret (results_cell_row rfl _ _ gb276 24 #[.string (⟨#[112]⟩ : ByteArray), .int .i64 2, .slice Ao4 y277.length co4, .int .i64 0] (0, 0) _ rfl (by (with_reducible repeat (first | refine bqN ?_ _ | refine bqD ?_ | refine bqA ?_ _)); refine bqP (cs := #[.string (⟨#[112]⟩ : ByteArray), .int .i64 2, .slice Ao4 y277.length co4, .int .i64 0]) ?_ 3 _ rfl; (with_reducible repeat (first | refine bqN ?_ _ | refine bqD ?_ | refine bqA ?_ _)); refine bqP (cs := #[.string (⟨#[112]⟩ : ByteArray), .int .i64 2, .slice none 0 0, .int .i64 0]) ?_ 2 _ rfl; (with_reducible repeat (first | refine bqN ?_ _ | refine bqD ?_ | refine bqA ?_ _)); refine bqP (cs := #[.string (⟨#[112]⟩ : ByteArray), .int .i64 0, .slice none 0 0, .int .i64 0]) ?_ 1 _ rfl; (with_reducible repeat (first | refine bqN ?_ _ | refine bqD ?_ | refine bqA ?_ _)); refine bqP (cs := #[.string (⟨#[]⟩ : ByteArray), .int .i64 0, .slice none 0 0, .int .i64 0]) ?_ 0 _ rfl; (with_reducible repeat (first | refine bqN ?_ _ | refine bqD ?_ | refine bqA ?_ _)); exact BK276.out) Try.underlying24 rfl (by kernel_rfl)) rfl ?_
 exact ⟨_, by first | rfl | (simp [errW_none, errW_some] <;> rfl) | (simp [*, errW_none, errW_some] <;> rfl), by (with_reducible repeat (first | apply Kd.R_alloc | apply Kd.R_drewN | apply Kd.R_drew)); exact Kd.R_mono (Kd.R_far (p := ⟨gb276, 3, none⟩) (Kd.R_far (p := ⟨gb276, 2, none⟩) (Kd.R_far (p := ⟨gb276, 1, none⟩) (Kd.R_far (p := ⟨gb276, 0, none⟩) (Kd.R_types HO279.out BK276.out (by decide)) (fun _ hk => hk.2) (.string (⟨#[112]⟩ : ByteArray))) (fun _ hk => hk.2) (.int .i64 2)) (fun _ hk => hk.2) (.slice Ao4 y277.length co4)) (fun _ hk => hk.2) (.int .i64 0)) (fun _ hk => trivial), GS.lB HB.out⟩

/-! ### spilelaw12_awake: function 10 -/
def spilelaw12_awake.f (k : Nat)  : Option (Bool) := (spilelaw12_Pail.f).bind fun bt280 => ((standing_Sums.f k bt280.1 bt280.2.1 bt280.2.2.1 bt280.2.2.2 (([0, 2, 4] : List Int))).bind fun bt289 => ((some (([(⟨0, 3⟩ : S33), (⟨10, 3⟩ : S33)] : List (S33)) : List (S33))).bind fun y293 => ((standing_Wet.f k (⟨#[100]⟩ : ByteArray) 2 y293 0 10 3).bind fun bt297 => ((spilelaw12_Pail.f).bind fun bt301 => ((standing_Levels.f k bt301.2.2.1 4 3).bind fun bt307 => ((standing_Between.f k (⟨#[100]⟩ : ByteArray) 2 y293 0 (([0, 10] : List Int))).bind fun bt314 => (if bt289.2 = 0 then (if bt297.2.2 = 0 then (if bt307.2 = 0 then (if bt314.2.2 = 0 then ((api_Bounds.f k bt289.1 (([(⟨24, 54⟩ : S40), (⟨78, 150⟩ : S40)] : List (S40)))).bind fun t321 => (if t321 = true then (if (bt297.1 == 282 && (bt297.2.1 == 283)) = true then ((slices_Equal_int_int.f k bt307.1 (([0, 1, 2, 4] : List Int))).bind fun t325 => (if t325 = true then (if (bt314.1 == bt297.1 && (bt314.2.1 == bt297.2.1)) = true then ((spilelaw12_Pail.f).bind fun bt326 => ((standing_Check.f k bt326.1 bt326.2.1 bt326.2.2.1 bt326.2.2.2 bt307.1).bind fun t332 => (some (t332 == 0)))) else (none)) else (none))) else (none)) else (none))) else (none)) else (none)) else (none)) else (none))))))))
theorem spilelaw12_awake.mono : ∀ k, LeO (spilelaw12_awake.f k ) (spilelaw12_awake.f (k + 1) ) := by
 intro  k
 unfold spilelaw12_awake.f
 repeat' first
   | (with_reducible exact api_Bounds.mono _ _ _)
   | (with_reducible exact slices_Equal_int_int.mono _ _ _)
   | (with_reducible exact standing_Between.mono _ _ _ _ _ _)
   | (with_reducible exact standing_Check.mono _ _ _ _ _ _)
   | (with_reducible exact standing_Levels.mono _ _ _ _)
   | (with_reducible exact standing_Sums.mono _ _ _ _ _ _)
   | (with_reducible exact standing_Wet.mono _ _ _ _ _ _ _)
   | (with_reducible exact LeO.refl _)
   | (with_reducible exact LeO.none _)
   | (with_reducible refine LeO.ite ?_ ?_)
   | (with_reducible refine LeO.bind ?_ (fun _ => ?_))
   | exact api_Bounds.mono _ _ _
   | exact slices_Equal_int_int.mono _ _ _
   | exact standing_Between.mono _ _ _ _ _ _
   | exact standing_Check.mono _ _ _ _ _ _
   | exact standing_Levels.mono _ _ _ _
   | exact standing_Sums.mono _ _ _ _ _ _
   | exact standing_Wet.mono _ _ _ _ _ _ _
   | exact LeO.none _
   | refine LeO.ite ?_ ?_
   | refine LeO.bind ?_ (fun _ => ?_)
set_option maxHeartbeats 8000000 in
set_option maxRecDepth 100000 in
theorem spilelaw12_awake.calls (k : Nat)  (r : Bool) (w : World) (h : spilelaw12_awake.f k  = some r) :
  Calls Try.prog 10 #[] w fun e w' => e = .returned (.bool r) ∧ Below w.heap.size w w' := by
 have hf24 := field24
 have hu33 := Try.underlying33
 have hu24 := Try.underlying24
 have hu40 := Try.underlying40
 have HB := Aside0.mk (Below.refl w.heap.size w)
 have H : ((spilelaw12_Pail.f).bind fun bt280 => ((standing_Sums.f k bt280.1 bt280.2.1 bt280.2.2.1 bt280.2.2.2 (([0, 2, 4] : List Int))).bind fun bt289 => ((some (([(⟨0, 3⟩ : S33), (⟨10, 3⟩ : S33)] : List (S33)) : List (S33))).bind fun y293 => ((standing_Wet.f k (⟨#[100]⟩ : ByteArray) 2 y293 0 10 3).bind fun bt297 => ((spilelaw12_Pail.f).bind fun bt301 => ((standing_Levels.f k bt301.2.2.1 4 3).bind fun bt307 => ((standing_Between.f k (⟨#[100]⟩ : ByteArray) 2 y293 0 (([0, 10] : List Int))).bind fun bt314 => (if bt289.2 = 0 then (if bt297.2.2 = 0 then (if bt307.2 = 0 then (if bt314.2.2 = 0 then ((api_Bounds.f k bt289.1 (([(⟨24, 54⟩ : S40), (⟨78, 150⟩ : S40)] : List (S40)))).bind fun t321 => (if t321 = true then (if (bt297.1 == 282 && (bt297.2.1 == 283)) = true then ((slices_Equal_int_int.f k bt307.1 (([0, 1, 2, 4] : List Int))).bind fun t325 => (if t325 = true then (if (bt314.1 == bt297.1 && (bt314.2.1 == bt297.2.1)) = true then ((spilelaw12_Pail.f).bind fun bt326 => ((standing_Check.f k bt326.1 bt326.2.1 bt326.2.2.1 bt326.2.2.2 bt307.1).bind fun t332 => (some (t332 == 0)))) else (none)) else (none))) else (none)) else (none))) else (none)) else (none)) else (none)) else (none))))))))) = some r := h
 clear h
 replace H := Option.bind_eq_some_iff.mp H
 obtain ⟨⟨t280, t281, t282, t285⟩, A10, H⟩ := H
 replace H : ((standing_Sums.f k t280 t281 t282 t285 (([0, 2, 4] : List Int))).bind fun bt289 => ((some (([(⟨0, 3⟩ : S33), (⟨10, 3⟩ : S33)] : List (S33)) : List (S33))).bind fun y293 => ((standing_Wet.f k (⟨#[100]⟩ : ByteArray) 2 y293 0 10 3).bind fun bt297 => ((spilelaw12_Pail.f).bind fun bt301 => ((standing_Levels.f k bt301.2.2.1 4 3).bind fun bt307 => ((standing_Between.f k (⟨#[100]⟩ : ByteArray) 2 y293 0 (([0, 10] : List Int))).bind fun bt314 => (if bt289.2 = 0 then (if bt297.2.2 = 0 then (if bt307.2 = 0 then (if bt314.2.2 = 0 then ((api_Bounds.f k bt289.1 (([(⟨24, 54⟩ : S40), (⟨78, 150⟩ : S40)] : List (S40)))).bind fun t321 => (if t321 = true then (if (bt297.1 == 282 && (bt297.2.1 == 283)) = true then ((slices_Equal_int_int.f k bt307.1 (([0, 1, 2, 4] : List Int))).bind fun t325 => (if t325 = true then (if (bt314.1 == bt297.1 && (bt314.2.1 == bt297.2.1)) = true then ((spilelaw12_Pail.f).bind fun bt326 => ((standing_Check.f k bt326.1 bt326.2.1 bt326.2.2.1 bt326.2.2.2 bt307.1).bind fun t332 => (some (t332 == 0)))) else (none)) else (none))) else (none)) else (none))) else (none)) else (none)) else (none)) else (none)))))))) = some r := H
 have A1 := Aside0.mk A10
 clear A10
 obtain ⟨y286, hy286⟩ : ∃ y_ : List Int, y_ = (([0, 2, 4] : List Int)) := ⟨_, rfl⟩
 replace H : ((standing_Sums.f k t280 t281 t282 t285 y286).bind fun bt289 => ((some (([(⟨0, 3⟩ : S33), (⟨10, 3⟩ : S33)] : List (S33)) : List (S33))).bind fun y293 => ((standing_Wet.f k (⟨#[100]⟩ : ByteArray) 2 y293 0 10 3).bind fun bt297 => ((spilelaw12_Pail.f).bind fun bt301 => ((standing_Levels.f k bt301.2.2.1 4 3).bind fun bt307 => ((standing_Between.f k (⟨#[100]⟩ : ByteArray) 2 y293 0 (([0, 10] : List Int))).bind fun bt314 => (if bt289.2 = 0 then (if bt297.2.2 = 0 then (if bt307.2 = 0 then (if bt314.2.2 = 0 then ((api_Bounds.f k bt289.1 (([(⟨24, 54⟩ : S40), (⟨78, 150⟩ : S40)] : List (S40)))).bind fun t321 => (if t321 = true then (if (bt297.1 == 282 && (bt297.2.1 == 283)) = true then ((slices_Equal_int_int.f k bt307.1 (([0, 1, 2, 4] : List Int))).bind fun t325 => (if t325 = true then (if (bt314.1 == bt297.1 && (bt314.2.1 == bt297.2.1)) = true then ((spilelaw12_Pail.f).bind fun bt326 => ((standing_Check.f k bt326.1 bt326.2.1 bt326.2.2.1 bt326.2.2.2 bt307.1).bind fun t332 => (some (t332 == 0)))) else (none)) else (none))) else (none)) else (none))) else (none)) else (none)) else (none)) else (none)))))))) = some r := by first | (rw [hy286]; with_reducible exact H) | (have H2_ := (Option.bind_some _ _).symm.trans H; rw [hy286]; with_reducible exact H2_) | (have H2_ := (Option.bind_some _ _).symm.trans H; with_reducible exact H2_) | with_reducible exact H | (rw [hy286]; exact H) | exact H
 have Ny286 := Aside0.mk hy286
 clear hy286
 replace H := Option.bind_eq_some_iff.mp H
 obtain ⟨⟨t289, t292⟩, A20, H⟩ := H
 replace H : ((some (([(⟨0, 3⟩ : S33), (⟨10, 3⟩ : S33)] : List (S33)) : List (S33))).bind fun y293 => ((standing_Wet.f k (⟨#[100]⟩ : ByteArray) 2 y293 0 10 3).bind fun bt297 => ((spilelaw12_Pail.f).bind fun bt301 => ((standing_Levels.f k bt301.2.2.1 4 3).bind fun bt307 => ((standing_Between.f k (⟨#[100]⟩ : ByteArray) 2 y293 0 (([0, 10] : List Int))).bind fun bt314 => (if t292 = 0 then (if bt297.2.2 = 0 then (if bt307.2 = 0 then (if bt314.2.2 = 0 then ((api_Bounds.f k t289 (([(⟨24, 54⟩ : S40), (⟨78, 150⟩ : S40)] : List (S40)))).bind fun t321 => (if t321 = true then (if (bt297.1 == 282 && (bt297.2.1 == 283)) = true then ((slices_Equal_int_int.f k bt307.1 (([0, 1, 2, 4] : List Int))).bind fun t325 => (if t325 = true then (if (bt314.1 == bt297.1 && (bt314.2.1 == bt297.2.1)) = true then ((spilelaw12_Pail.f).bind fun bt326 => ((standing_Check.f k bt326.1 bt326.2.1 bt326.2.2.1 bt326.2.2.2 bt307.1).bind fun t332 => (some (t332 == 0)))) else (none)) else (none))) else (none)) else (none))) else (none)) else (none)) else (none)) else (none))))))) = some r := H
 have A2 := Aside0.mk A20
 clear A20
 obtain ⟨y293, hy293⟩ : ∃ y_ : List (S33), y_ = (([(⟨0, 3⟩ : S33), (⟨10, 3⟩ : S33)] : List (S33))) := ⟨_, rfl⟩
 replace H : ((standing_Wet.f k (⟨#[100]⟩ : ByteArray) 2 y293 0 10 3).bind fun bt297 => ((spilelaw12_Pail.f).bind fun bt301 => ((standing_Levels.f k bt301.2.2.1 4 3).bind fun bt307 => ((standing_Between.f k (⟨#[100]⟩ : ByteArray) 2 y293 0 (([0, 10] : List Int))).bind fun bt314 => (if t292 = 0 then (if bt297.2.2 = 0 then (if bt307.2 = 0 then (if bt314.2.2 = 0 then ((api_Bounds.f k t289 (([(⟨24, 54⟩ : S40), (⟨78, 150⟩ : S40)] : List (S40)))).bind fun t321 => (if t321 = true then (if (bt297.1 == 282 && (bt297.2.1 == 283)) = true then ((slices_Equal_int_int.f k bt307.1 (([0, 1, 2, 4] : List Int))).bind fun t325 => (if t325 = true then (if (bt314.1 == bt297.1 && (bt314.2.1 == bt297.2.1)) = true then ((spilelaw12_Pail.f).bind fun bt326 => ((standing_Check.f k bt326.1 bt326.2.1 bt326.2.2.1 bt326.2.2.2 bt307.1).bind fun t332 => (some (t332 == 0)))) else (none)) else (none))) else (none)) else (none))) else (none)) else (none)) else (none)) else (none)))))) = some r := by first | (rw [hy293]; with_reducible exact H) | (have H2_ := (Option.bind_some _ _).symm.trans H; rw [hy293]; with_reducible exact H2_) | (have H2_ := (Option.bind_some _ _).symm.trans H; with_reducible exact H2_) | with_reducible exact H | (rw [hy293]; exact H) | exact H
 have Ny293 := Aside0.mk hy293
 clear hy293
 replace H := Option.bind_eq_some_iff.mp H
 obtain ⟨⟨t297, t298, t299⟩, A30, H⟩ := H
 replace H : ((spilelaw12_Pail.f).bind fun bt301 => ((standing_Levels.f k bt301.2.2.1 4 3).bind fun bt307 => ((standing_Between.f k (⟨#[100]⟩ : ByteArray) 2 y293 0 (([0, 10] : List Int))).bind fun bt314 => (if t292 = 0 then (if t299 = 0 then (if bt307.2 = 0 then (if bt314.2.2 = 0 then ((api_Bounds.f k t289 (([(⟨24, 54⟩ : S40), (⟨78, 150⟩ : S40)] : List (S40)))).bind fun t321 => (if t321 = true then (if (t297 == 282 && (t298 == 283)) = true then ((slices_Equal_int_int.f k bt307.1 (([0, 1, 2, 4] : List Int))).bind fun t325 => (if t325 = true then (if (bt314.1 == t297 && (bt314.2.1 == t298)) = true then ((spilelaw12_Pail.f).bind fun bt326 => ((standing_Check.f k bt326.1 bt326.2.1 bt326.2.2.1 bt326.2.2.2 bt307.1).bind fun t332 => (some (t332 == 0)))) else (none)) else (none))) else (none)) else (none))) else (none)) else (none)) else (none)) else (none))))) = some r := H
 have A3 := Aside0.mk A30
 clear A30
 replace H := Option.bind_eq_some_iff.mp H
 obtain ⟨⟨t301, t302, t303, t306⟩, A40, H⟩ := H
 replace H : ((standing_Levels.f k t303 4 3).bind fun bt307 => ((standing_Between.f k (⟨#[100]⟩ : ByteArray) 2 y293 0 (([0, 10] : List Int))).bind fun bt314 => (if t292 = 0 then (if t299 = 0 then (if bt307.2 = 0 then (if bt314.2.2 = 0 then ((api_Bounds.f k t289 (([(⟨24, 54⟩ : S40), (⟨78, 150⟩ : S40)] : List (S40)))).bind fun t321 => (if t321 = true then (if (t297 == 282 && (t298 == 283)) = true then ((slices_Equal_int_int.f k bt307.1 (([0, 1, 2, 4] : List Int))).bind fun t325 => (if t325 = true then (if (bt314.1 == t297 && (bt314.2.1 == t298)) = true then ((spilelaw12_Pail.f).bind fun bt326 => ((standing_Check.f k bt326.1 bt326.2.1 bt326.2.2.1 bt326.2.2.2 bt307.1).bind fun t332 => (some (t332 == 0)))) else (none)) else (none))) else (none)) else (none))) else (none)) else (none)) else (none)) else (none)))) = some r := H
 have A4 := Aside0.mk A40
 clear A40
 replace H := Option.bind_eq_some_iff.mp H
 obtain ⟨⟨t307, t308⟩, A50, H⟩ := H
 replace H : ((standing_Between.f k (⟨#[100]⟩ : ByteArray) 2 y293 0 (([0, 10] : List Int))).bind fun bt314 => (if t292 = 0 then (if t299 = 0 then (if t308 = 0 then (if bt314.2.2 = 0 then ((api_Bounds.f k t289 (([(⟨24, 54⟩ : S40), (⟨78, 150⟩ : S40)] : List (S40)))).bind fun t321 => (if t321 = true then (if (t297 == 282 && (t298 == 283)) = true then ((slices_Equal_int_int.f k t307 (([0, 1, 2, 4] : List Int))).bind fun t325 => (if t325 = true then (if (bt314.1 == t297 && (bt314.2.1 == t298)) = true then ((spilelaw12_Pail.f).bind fun bt326 => ((standing_Check.f k bt326.1 bt326.2.1 bt326.2.2.1 bt326.2.2.2 t307).bind fun t332 => (some (t332 == 0)))) else (none)) else (none))) else (none)) else (none))) else (none)) else (none)) else (none)) else (none))) = some r := H
 have A5 := Aside0.mk A50
 clear A50
 obtain ⟨y311, hy311⟩ : ∃ y_ : List Int, y_ = (([0, 10] : List Int)) := ⟨_, rfl⟩
 replace H : ((standing_Between.f k (⟨#[100]⟩ : ByteArray) 2 y293 0 y311).bind fun bt314 => (if t292 = 0 then (if t299 = 0 then (if t308 = 0 then (if bt314.2.2 = 0 then ((api_Bounds.f k t289 (([(⟨24, 54⟩ : S40), (⟨78, 150⟩ : S40)] : List (S40)))).bind fun t321 => (if t321 = true then (if (t297 == 282 && (t298 == 283)) = true then ((slices_Equal_int_int.f k t307 (([0, 1, 2, 4] : List Int))).bind fun t325 => (if t325 = true then (if (bt314.1 == t297 && (bt314.2.1 == t298)) = true then ((spilelaw12_Pail.f).bind fun bt326 => ((standing_Check.f k bt326.1 bt326.2.1 bt326.2.2.1 bt326.2.2.2 t307).bind fun t332 => (some (t332 == 0)))) else (none)) else (none))) else (none)) else (none))) else (none)) else (none)) else (none)) else (none))) = some r := by first | (rw [hy311]; with_reducible exact H) | (have H2_ := (Option.bind_some _ _).symm.trans H; rw [hy311]; with_reducible exact H2_) | (have H2_ := (Option.bind_some _ _).symm.trans H; with_reducible exact H2_) | with_reducible exact H | (rw [hy311]; exact H) | exact H
 have Ny311 := Aside0.mk hy311
 clear hy311
 replace H := Option.bind_eq_some_iff.mp H
 obtain ⟨⟨t314, t315, t316⟩, A60, H⟩ := H
 replace H : (if t292 = 0 then (if t299 = 0 then (if t308 = 0 then (if t316 = 0 then ((api_Bounds.f k t289 (([(⟨24, 54⟩ : S40), (⟨78, 150⟩ : S40)] : List (S40)))).bind fun t321 => (if t321 = true then (if (t297 == 282 && (t298 == 283)) = true then ((slices_Equal_int_int.f k t307 (([0, 1, 2, 4] : List Int))).bind fun t325 => (if t325 = true then (if (t314 == t297 && (t315 == t298)) = true then ((spilelaw12_Pail.f).bind fun bt326 => ((standing_Check.f k bt326.1 bt326.2.1 bt326.2.2.1 bt326.2.2.2 t307).bind fun t332 => (some (t332 == 0)))) else (none)) else (none))) else (none)) else (none))) else (none)) else (none)) else (none)) else (none)) = some r := H
 have A6 := Aside0.mk A60
 clear A60
 by_cases c7 : t292 = 0
 ·rw [if_pos c7] at H
  have c7b0 : (t292 == 0) = true := beq_iff_eq.mpr c7
  try simp only [beq_self_eq_true, Bool.not_true, Bool.false_or, Bool.true_and] at c7b0
  have c7b1 : (t292 != 0) = false := bne_eq_false_iff_eq.mpr c7
  clear c7
  by_cases c8 : t299 = 0
  ·rw [if_pos c8] at H
   have c8b0 : (t299 == 0) = true := beq_iff_eq.mpr c8
   try simp only [beq_self_eq_true, Bool.not_true, Bool.false_or, Bool.true_and] at c8b0
   have c8b1 : (t299 != 0) = false := bne_eq_false_iff_eq.mpr c8
   clear c8
   by_cases c9 : t308 = 0
   ·rw [if_pos c9] at H
    have c9b0 : (t308 == 0) = true := beq_iff_eq.mpr c9
    try simp only [beq_self_eq_true, Bool.not_true, Bool.false_or, Bool.true_and] at c9b0
    have c9b1 : (t308 != 0) = false := bne_eq_false_iff_eq.mpr c9
    clear c9
    by_cases c10 : t316 = 0
    ·rw [if_pos c10] at H
     have c10b0 : (t316 == 0) = true := beq_iff_eq.mpr c10
     try simp only [beq_self_eq_true, Bool.not_true, Bool.false_or, Bool.true_and] at c10b0
     have c10b1 : (t316 != 0) = false := bne_eq_false_iff_eq.mpr c10
     clear c10
     obtain ⟨y318, hy318⟩ : ∃ y_ : List (S40), y_ = (([(⟨24, 54⟩ : S40), (⟨78, 150⟩ : S40)] : List (S40))) := ⟨_, rfl⟩
     replace H : ((api_Bounds.f k t289 y318).bind fun t321 => (if t321 = true then (if (t297 == 282 && (t298 == 283)) = true then ((slices_Equal_int_int.f k t307 (([0, 1, 2, 4] : List Int))).bind fun t325 => (if t325 = true then (if (t314 == t297 && (t315 == t298)) = true then ((spilelaw12_Pail.f).bind fun bt326 => ((standing_Check.f k bt326.1 bt326.2.1 bt326.2.2.1 bt326.2.2.2 t307).bind fun t332 => (some (t332 == 0)))) else (none)) else (none))) else (none)) else (none))) = some r := by first | (rw [hy318]; with_reducible exact H) | (have H2_ := (Option.bind_some _ _).symm.trans H; rw [hy318]; with_reducible exact H2_) | (have H2_ := (Option.bind_some _ _).symm.trans H; with_reducible exact H2_) | with_reducible exact H | (rw [hy318]; exact H) | exact H
     have Ny318 := Aside0.mk hy318
     clear hy318
     replace H := Option.bind_eq_some_iff.mp H
     obtain ⟨t321, A110, H⟩ := H
     replace H : (if t321 = true then (if (t297 == 282 && (t298 == 283)) = true then ((slices_Equal_int_int.f k t307 (([0, 1, 2, 4] : List Int))).bind fun t325 => (if t325 = true then (if (t314 == t297 && (t315 == t298)) = true then ((spilelaw12_Pail.f).bind fun bt326 => ((standing_Check.f k bt326.1 bt326.2.1 bt326.2.2.1 bt326.2.2.2 t307).bind fun t332 => (some (t332 == 0)))) else (none)) else (none))) else (none)) else (none)) = some r := H
     have A11 := Aside0.mk A110
     clear A110
     by_cases c12 : t321 = true
     ·subst c12
      have H1 : (if (t297 == 282 && (t298 == 283)) = true then ((slices_Equal_int_int.f k t307 (([0, 1, 2, 4] : List Int))).bind fun t325 => (if t325 = true then (if (t314 == t297 && (t315 == t298)) = true then ((spilelaw12_Pail.f).bind fun bt326 => ((standing_Check.f k bt326.1 bt326.2.1 bt326.2.2.1 bt326.2.2.2 t307).bind fun t332 => (some (t332 == 0)))) else (none)) else (none))) else (none)) = some r := by rw [if_pos rfl] at H; exact H
      clear H
      have H := H1
      clear H1
      by_cases c13 : (t297 == 282 && (t298 == 283)) = true
      ·rw [if_pos c13] at H
       have c13b0 : (t297 == 282 && (t298 == 283)) = true := c13
       try simp only [beq_self_eq_true, Bool.not_true, Bool.false_or, Bool.true_and] at c13b0
       (try (have c13b1 : decide (t297 = 282 && (t298 == 283)) = true := by simpa using c13))
       (try (have c13b2 : (t297 == 282 && (t298 == 283)) = true := by simpa using c13))
       clear c13
       obtain ⟨y322, hy322⟩ : ∃ y_ : List Int, y_ = (([0, 1, 2, 4] : List Int)) := ⟨_, rfl⟩
       replace H : ((slices_Equal_int_int.f k t307 y322).bind fun t325 => (if t325 = true then (if (t314 == t297 && (t315 == t298)) = true then ((spilelaw12_Pail.f).bind fun bt326 => ((standing_Check.f k bt326.1 bt326.2.1 bt326.2.2.1 bt326.2.2.2 t307).bind fun t332 => (some (t332 == 0)))) else (none)) else (none))) = some r := by first | (rw [hy322]; with_reducible exact H) | (have H2_ := (Option.bind_some _ _).symm.trans H; rw [hy322]; with_reducible exact H2_) | (have H2_ := (Option.bind_some _ _).symm.trans H; with_reducible exact H2_) | with_reducible exact H | (rw [hy322]; exact H) | exact H
       have Ny322 := Aside0.mk hy322
       clear hy322
       replace H := Option.bind_eq_some_iff.mp H
       obtain ⟨t325, A140, H⟩ := H
       replace H : (if t325 = true then (if (t314 == t297 && (t315 == t298)) = true then ((spilelaw12_Pail.f).bind fun bt326 => ((standing_Check.f k bt326.1 bt326.2.1 bt326.2.2.1 bt326.2.2.2 t307).bind fun t332 => (some (t332 == 0)))) else (none)) else (none)) = some r := H
       have A14 := Aside0.mk A140
       clear A140
       by_cases c15 : t325 = true
       ·subst c15
        have H1 : (if (t314 == t297 && (t315 == t298)) = true then ((spilelaw12_Pail.f).bind fun bt326 => ((standing_Check.f k bt326.1 bt326.2.1 bt326.2.2.1 bt326.2.2.2 t307).bind fun t332 => (some (t332 == 0)))) else (none)) = some r := by rw [if_pos rfl] at H; exact H
        clear H
        have H := H1
        clear H1
        by_cases c16 : (t314 == t297 && (t315 == t298)) = true
        ·rw [if_pos c16] at H
         have c16b0 : (t314 == t297 && (t315 == t298)) = true := c16
         try simp only [beq_self_eq_true, Bool.not_true, Bool.false_or, Bool.true_and] at c16b0
         (try (have c16b1 : decide (t314 = t297 && (t315 == t298)) = true := by simpa using c16))
         (try (have c16b2 : (t314 == t297 && (t315 == t298)) = true := by simpa using c16))
         clear c16
         replace H := Option.bind_eq_some_iff.mp H
         obtain ⟨⟨t326, t327, t328, t331⟩, A170, H⟩ := H
         replace H : ((standing_Check.f k t326 t327 t328 t331 t307).bind fun t332 => (some (t332 == 0))) = some r := H
         have A17 := Aside0.mk A170
         clear A170
         replace H := Option.bind_eq_some_iff.mp H
         obtain ⟨t332, A180, H⟩ := H
         replace H : (some (t332 == 0)) = some r := H
         have A18 := Aside0.mk A180
         clear A180
         obtain rfl := Option.some.inj H
         go_enter Try.func10, Try.ntmps10
         go_wp2_with (first | ((with_reducible refine gqC (f := 32) rfl ?_); refine GS.gL (some 11) Try.func32 #[] ?_; (with_reducible refine (spilelaw12_Pail.calls  t280 t281 t282 t285 _ A1.out).mono ?_); rintro e w19 ⟨v283, rfl, ho0, hb⟩; refine ⟨_, rfl, ?_⟩; have n0_ := Aside0.mk (Kd.R_lower ho0 (lqZ (GS.lB HB.out))); have n1_ := Aside0.mk (lqT (GS.lB HB.out) hb); clear HB; have HO284 := n0_; have HB := n1_; clear n0_ n1_; (try clear hb); (try clear hb2); (try clear hk); (try clear hi); (try clear ho0)) | ((with_reducible refine gqD (N := 12) rfl ?_); (try (refine gate_guard (by rfl) ?_; dsimp only)); refine Kd.R_lit (Kd.int .i64) _ 3 ?hg (N := 12) ?hd (xs := ([0, 2, 4] : List Int)) (inner := [.int .i64 0, .int .i64 2, .int .i64 4]) (ok := fun _ => True) (okp := fun _ => True) ?hr ?hp (fun _ hk => hk) trivial (Below.refl _ _) (Nat.le_refl _) (by simp) ?_; (case hd => rfl); (case hg => rfl); (case hr => first | (go_simp; done) | (go_simp; rfl)); (case hp => exact (Reps.one (show Kd.M (Kd.int .i64) _ _ _ 0 [.int .i64 0] from rfl) (Reps.one (show Kd.M (Kd.int .i64) _ _ _ 2 [.int .i64 2] from rfl) (Reps.one (show Kd.M (Kd.int .i64) _ _ _ 4 [.int .i64 4] from rfl) (Reps.none _ _))))); intro v287 w20 ho21 hb hg_ hnew_; clear hg_ hnew_; (first | rw [← Ny286.out] at ho21 | (simp only [Int.reduceToNat] at ho21; rw [← Ny286.out] at ho21)); have n0_ := Aside0.mk (Kd.R_below (GS.rR HO284.out) hb); have n1_ := Aside0.mk (Kd.R_lower ho21 (lqZ (GS.lB HB.out))); have n2_ := Aside0.mk (lqT (GS.lB HB.out) hb); clear HO284; clear HB; have HO284 := n0_; have HO288 := n1_; have HB := n2_; clear n0_ n1_ n2_; clear hb ho21; obtain ⟨Ao22, co22, eo22⟩ := Kd.R_slice HO284.out; subst eo22; obtain ⟨Ao23, co23, eo23⟩ := Kd.R_slice HO288.out; subst eo23) | ((with_reducible refine gqC (f := 22) rfl ?_); refine GS.gL (some 13) Try.func22 #[.agg #[.string t280, .int .i64 t281, .slice Ao22 t282.length co22, .int .i64 t285], .slice Ao23 y286.length co23] ?_; (with_reducible refine (standing_Sums.calls k t280 t281 _ _ t282 t285 _ _ y286 t289 t292 _ ?side1 ?side2 ?side3 ?side4 A2.out).mono ?_); (case side1 => repeat (first | exact (Kd.R_reads' HO284.out).2.2 | (with_reducible refine Kd.C_alloc ?_ _) | (with_reducible refine Kd.C_drewN ?_ _) | (with_reducible refine Kd.C_drew ?_))); (case side2 => exact (Kd.R_reads' HO284.out).2.1); (case side3 => repeat (first | exact (Kd.R_reads' HO288.out).2.2 | (with_reducible refine Kd.C_alloc ?_ _) | (with_reducible refine Kd.C_drewN ?_ _) | (with_reducible refine Kd.C_drew ?_))); (case side4 => exact (Kd.R_reads' HO288.out).2.1); rintro e w24 ⟨v290, rfl, ho0, hb⟩; refine ⟨_, rfl, ?_⟩; have n0_ := Aside0.mk (Kd.R_below (GS.rR HO284.out) hb); have n1_ := Aside0.mk (Kd.R_below (GS.rR HO288.out) hb); have n2_ := Aside0.mk (Kd.R_lower ho0 (lqZ (GS.lB HB.out))); have n3_ := Aside0.mk (lqT (GS.lB HB.out) hb); clear HO284; clear HO288; clear HB; have HO284 := n0_; have HO288 := n1_; have HO291 := n2_; have HB := n3_; clear n0_ n1_ n2_ n3_; (try clear hb); (try clear hb2); (try clear hk); (try clear hi); (try clear ho0)) | ((with_reducible refine gqD (N := 18) rfl ?_); (try (refine gate_guard (by rfl) ?_; dsimp only)); refine Kd.R_lit k33 _ 33 ?hg (N := 18) ?hd (xs := ([(⟨0, 3⟩ : S33), (⟨10, 3⟩ : S33)] : List (S33))) (inner := [.int .i64 0, .int .i64 3, .int .i64 10, .int .i64 3]) (ok := fun _ => True) (okp := fun _ => True) ?hr ?hp (fun _ hk => hk) trivial (Below.refl _ _) (Nat.le_refl _) (by simp) ?_; (case hd => rfl); (case hg => rfl); (case hr => first | (go_simp; done) | (go_simp; rfl)); (case hp => exact (Reps.c2 (show Kd.M k33 _ _ _ (⟨0, 3⟩ : S33) [.int .i64 0, .int .i64 3] from (k33_mkM _ _ _ (⟨0, 3⟩ : S33) )) (Reps.c2 (show Kd.M k33 _ _ _ (⟨10, 3⟩ : S33) [.int .i64 10, .int .i64 3] from (k33_mkM _ _ _ (⟨10, 3⟩ : S33) )) (Reps.none _ _)))); intro v294 w25 ho26 hb hg_ hnew_; clear hg_ hnew_; (first | rw [← Ny293.out] at ho26 | (simp only [Int.reduceToNat] at ho26; rw [← Ny293.out] at ho26)); have n0_ := Aside0.mk (Kd.R_elder' (GS.rR HO284.out) (Kd.R_base ho26) hb); have n1_ := Aside0.mk (Kd.R_below (GS.rR HO288.out) hb); have n2_ := Aside0.mk (Kd.R_below (GS.rR HO291.out) hb); have n3_ := Aside0.mk (Kd.R_lower (Kd.R_new' ho26 (Kd.R_lt (GS.rR HO284.out))) (lqZ (GS.lB HB.out))); have n4_ := Aside0.mk (lqT (GS.lB HB.out) hb); clear HO284; clear HO288; clear HO291; clear HB; have HO284 := n0_; have HO288 := n1_; have HO291 := n2_; have HO295 := n3_; have HB := n4_; clear n0_ n1_ n2_ n3_ n4_; clear hb ho26; obtain ⟨Ao27, co27, eo27⟩ := Kd.R_slice HO295.out; subst eo27) | ((with_reducible refine gqD (N := 3) rfl ?_); (try (refine gate_guard (by rfl) ?_; dsimp only)); refine box_event ?hg (N := 3) ?hd (cs := #[.string (⟨#[]⟩ : ByteArray), .int .i64 0, .slice none 0 0, .int .i64 0]) (t := 24) ?hr ?_; (case hd => rfl); (case hg => rfl); (case hr => first | (go_simp; done) | (go_simp; rfl)); intro gb296 hg w28 hbox hb; have n0_ := Aside0.mk (Kd.R_below (GS.rR HO284.out) hb); have n1_ := Aside0.mk (Kd.R_below (GS.rR HO288.out) hb); have n2_ := Aside0.mk (Kd.R_below (GS.rR HO291.out) hb); have n3_ := Aside0.mk (Kd.R_below (GS.rR HO295.out) hb); have n4_ := Aside0.mk (lqT (GS.lB HB.out) hb); have n5_ := Aside0.mk (hbox); have n6_ := Aside0.mk ((by rw [hg]; exact (lqZ (GS.lB HB.out)) : w.heap.size ≤ gb296)); have n7_ := Aside0.mk ((by rw [hg]; exact (lqZ (GS.lB HB.out)) : w.heap.size ≤ gb296)); clear HO284; clear HO288; clear HO291; clear HO295; clear HB; have HO284 := n0_; have HO288 := n1_; have HO291 := n2_; have HO295 := n3_; have HB := n4_; have BK296 := n5_; have GW296 := n6_; have GE296 := n7_; clear n0_ n1_ n2_ n3_ n4_ n5_ n6_ n7_; clear hb hbox hg; obtain ⟨hcz29_0, hcz29_1, hcz29_2, hcz29_3, hfz29_0, hfz29_1, hfz29_2, hfz29_3⟩ := GS.c4 BK296.out) | ((with_reducible refine gqC (f := 25) rfl ?_); refine goesL_ (some 22) rfl rfl Try.func25 (by kernel_rfl) rfl #[.agg #[.string (⟨#[100]⟩ : ByteArray), .int .i64 2, .slice Ao27 y293.length co27, .int .i64 0], .int .i64 10, .int .i64 3] rfl (by (try simp only [List.map_toArray, List.map_cons, List.map_nil]); first | done | rfl | (simp only [List.length_drop, List.length_take]; rfl)) ?_; (with_reducible refine (standing_Wet.calls k (⟨#[100]⟩ : ByteArray) 2 _ _ y293 0 10 3 t297 t298 t299 _ ?side1 ?side2 A3.out).mono ?_); (case side1 => refine (Kd.R_reads' (e := 33) (base := w.heap.size) (ok := fun k_ => (True ∧ some k_ ≠ (.slice Ao22 t282.length co22 : Value).ownBlock)) (n := y293.length) (c := co27) ?_).2.2; exact (by (with_reducible repeat (first | apply Kd.R_alloc | apply Kd.R_drewN | apply Kd.R_drew)); exact (Kd.R_mono (Kd.R_far (p := ⟨gb296, 3, none⟩) (Kd.R_far (p := ⟨gb296, 2, none⟩) (Kd.R_far (p := ⟨gb296, 1, none⟩) (Kd.R_far (p := ⟨gb296, 0, none⟩) (Kd.R_types HO295.out BK296.out (by decide)) (fun _ hk => hk.2) (.string (⟨#[100]⟩ : ByteArray))) (fun _ hk => hk.2) (.int .i64 2)) (fun _ hk => hk.2) (.slice Ao27 y293.length co27)) (fun _ hk => hk.2) (.int .i64 0)) (fun _ h_ => h_.1)))); (case side2 => exact (Kd.R_reads' HO295.out).2.1); rintro e w30 ⟨rfl, hb⟩; refine ⟨_, rfl, ?_⟩; have n0_ := Aside0.mk (Kd.R_below (by (with_reducible repeat (first | apply Kd.R_alloc | apply Kd.R_drewN | apply Kd.R_drew)); exact (Kd.R_mono (Kd.R_far (p := ⟨gb296, 3, none⟩) (Kd.R_far (p := ⟨gb296, 2, none⟩) (Kd.R_far (p := ⟨gb296, 1, none⟩) (Kd.R_far (p := ⟨gb296, 0, none⟩) (Kd.R_types HO284.out BK296.out (by decide)) (fun _ hk => hk.2) (.string (⟨#[100]⟩ : ByteArray))) (fun _ hk => hk.2) (.int .i64 2)) (fun _ hk => hk.2) (.slice Ao27 y293.length co27)) (fun _ hk => hk.2) (.int .i64 0)) (fun _ h_ => h_.1))) hb); have n1_ := Aside0.mk (Kd.R_below (by (with_reducible repeat (first | apply Kd.R_alloc | apply Kd.R_drewN | apply Kd.R_drew)); exact (Kd.R_mono (Kd.R_far (p := ⟨gb296, 3, none⟩) (Kd.R_far (p := ⟨gb296, 2, none⟩) (Kd.R_far (p := ⟨gb296, 1, none⟩) (Kd.R_far (p := ⟨gb296, 0, none⟩) (Kd.R_types HO288.out BK296.out (by decide)) (fun _ hk => hk.2) (.string (⟨#[100]⟩ : ByteArray))) (fun _ hk => hk.2) (.int .i64 2)) (fun _ hk => hk.2) (.slice Ao27 y293.length co27)) (fun _ hk => hk.2) (.int .i64 0)) (fun _ h_ => h_.1))) hb); have n2_ := Aside0.mk (Kd.R_below (by (with_reducible repeat (first | apply Kd.R_alloc | apply Kd.R_drewN | apply Kd.R_drew)); exact (Kd.R_mono (Kd.R_far (p := ⟨gb296, 3, none⟩) (Kd.R_far (p := ⟨gb296, 2, none⟩) (Kd.R_far (p := ⟨gb296, 1, none⟩) (Kd.R_far (p := ⟨gb296, 0, none⟩) (Kd.R_types HO291.out BK296.out (by decide)) (fun _ hk => hk.2) (.string (⟨#[100]⟩ : ByteArray))) (fun _ hk => hk.2) (.int .i64 2)) (fun _ hk => hk.2) (.slice Ao27 y293.length co27)) (fun _ hk => hk.2) (.int .i64 0)) (fun _ h_ => h_.1))) hb); have n3_ := Aside0.mk (Kd.R_below (by (with_reducible repeat (first | apply Kd.R_alloc | apply Kd.R_drewN | apply Kd.R_drew)); exact (Kd.R_mono (Kd.R_far (p := ⟨gb296, 3, none⟩) (Kd.R_far (p := ⟨gb296, 2, none⟩) (Kd.R_far (p := ⟨gb296, 1, none⟩) (Kd.R_far (p := ⟨gb296, 0, none⟩) (Kd.R_types HO295.out BK296.out (by decide)) (fun _ hk => hk.2) (.string (⟨#[100]⟩ : ByteArray))) (fun _ hk => hk.2) (.int .i64 2)) (fun _ hk => hk.2) (.slice Ao27 y293.length co27)) (fun _ hk => hk.2) (.int .i64 0)) (fun _ h_ => h_.1))) hb); have n4_ := Aside0.mk (bqB (g := gb296) (o := .cells #[.string (⟨#[100]⟩ : ByteArray), .int .i64 2, .slice Ao27 y293.length co27, .int .i64 0] 24 (0, 0)) (by (with_reducible repeat (first | refine bqN ?_ _ | refine bqD ?_ | refine bqA ?_ _)); refine bqP (cs := #[.string (⟨#[100]⟩ : ByteArray), .int .i64 2, .slice Ao27 y293.length co27, .int .i64 0]) ?_ 3 _ rfl; (with_reducible repeat (first | refine bqN ?_ _ | refine bqD ?_ | refine bqA ?_ _)); refine bqP (cs := #[.string (⟨#[100]⟩ : ByteArray), .int .i64 2, .slice none 0 0, .int .i64 0]) ?_ 2 _ rfl; (with_reducible repeat (first | refine bqN ?_ _ | refine bqD ?_ | refine bqA ?_ _)); refine bqP (cs := #[.string (⟨#[100]⟩ : ByteArray), .int .i64 0, .slice none 0 0, .int .i64 0]) ?_ 1 _ rfl; (with_reducible repeat (first | refine bqN ?_ _ | refine bqD ?_ | refine bqA ?_ _)); refine bqP (cs := #[.string (⟨#[]⟩ : ByteArray), .int .i64 0, .slice none 0 0, .int .i64 0]) ?_ 0 _ rfl; (with_reducible repeat (first | refine bqN ?_ _ | refine bqD ?_ | refine bqA ?_ _)); exact BK296.out) hb); have n5_ := Aside0.mk (lqT (GS.lB HB.out) hb); clear HO284; clear HO288; clear HO291; clear HO295; clear BK296; clear HB; have HO284 := n0_; have HO288 := n1_; have HO291 := n2_; have HO295 := n3_; have BK296 := n4_; have HB := n5_; clear n0_ n1_ n2_ n3_ n4_ n5_; (try clear hb); (try clear hb2); (try clear hk); (try clear hi)) | ((with_reducible refine gqD (N := 4) rfl ?_); (try (refine gate_guard (by rfl) ?_; dsimp only)); refine GS.bx (N := 4) (cs := #[.int .i64 0, .int .i64 0]) (t := 40) ?_; intro gb300 hg w31 hbox hb; have n0_ := Aside0.mk (Kd.R_below (GS.rR HO284.out) hb); have n1_ := Aside0.mk (Kd.R_below (GS.rR HO288.out) hb); have n2_ := Aside0.mk (Kd.R_below (Kd.R_elderB (GS.rR HO291.out) gb300 (Nat.le_of_eq hg.symm)) hb); have n3_ := Aside0.mk (Kd.R_below (GS.rR HO295.out) hb); have n4_ := Aside0.mk (bqB (g := gb296) (o := .cells #[.string (⟨#[100]⟩ : ByteArray), .int .i64 2, .slice Ao27 y293.length co27, .int .i64 0] 24 (0, 0)) (GS.bqX BK296.out) hb); have n5_ := Aside0.mk (lqT (GS.lB HB.out) hb); have n6_ := Aside0.mk (hbox); have n7_ := Aside0.mk ((by rw [hg]; exact (lqZ (GS.lB HB.out)) : w.heap.size ≤ gb300)); have n8_ := Aside0.mk ((by rw [hg]; exact (lqZ (GS.lB HB.out)) : w.heap.size ≤ gb300)); have n9_ := Aside0.mk ((by rw [hg]; exact Nat.ne_of_lt (blk_lt (g := gb296) (o := .cells #[.string (⟨#[100]⟩ : ByteArray), .int .i64 2, .slice Ao27 y293.length co27, .int .i64 0] 24 (0, 0)) (GS.bqX BK296.out)) : gb296 ≠ gb300)); have n10_ := Aside0.mk ((by rw [hg]; exact Nat.ne_of_gt (blk_lt (g := gb296) (o := .cells #[.string (⟨#[100]⟩ : ByteArray), .int .i64 2, .slice Ao27 y293.length co27, .int .i64 0] 24 (0, 0)) (GS.bqX BK296.out)) : gb300 ≠ gb296)); clear HO284; clear HO288; clear HO291; clear HO295; clear BK296; clear HB; have HO284 := n0_; have HO288 := n1_; have HO291 := n2_; have HO295 := n3_; have BK296 := n4_; have HB := n5_; have BK300 := n6_; have GW300 := n7_; have GE300 := n8_; have NB296_300 := n9_; have NB300_296 := n10_; clear n0_ n1_ n2_ n3_ n4_ n5_ n6_ n7_ n8_ n9_ n10_; clear hb hbox hg; have hnb32 := NB300_296.out; have hnc32 := NB296_300.out; obtain ⟨hcz33_0, hcz33_1, hfz33_0, hfz33_1⟩ := GS.c2 BK300.out) | ((with_reducible refine gqC (f := 32) rfl ?_); refine GS.gL (some 26) Try.func32 #[] ?_; (with_reducible refine (spilelaw12_Pail.calls  t301 t302 t303 t306 _ A4.out).mono ?_); rintro e w34 ⟨v304, rfl, ho0, hb⟩; refine ⟨_, rfl, ?_⟩; have n0_ := Aside0.mk (Kd.R_elder' (by (with_reducible repeat (first | apply Kd.R_alloc | apply Kd.R_drewN | apply Kd.R_drew)); exact (Kd.R_mono (Kd.R_far (p := ⟨gb300, 1, none⟩) (Kd.R_far (p := ⟨gb300, 0, none⟩) (Kd.R_types HO284.out BK300.out (by decide)) (fun _ hk => hk.2) (.int .i64 t297)) (fun _ hk => hk.2) (.int .i64 t298)) (fun _ h_ => h_.1))) (Kd.R_base ho0) hb); have n1_ := Aside0.mk (Kd.R_below (by (with_reducible repeat (first | apply Kd.R_alloc | apply Kd.R_drewN | apply Kd.R_drew)); exact (Kd.R_mono (Kd.R_far (p := ⟨gb300, 1, none⟩) (Kd.R_far (p := ⟨gb300, 0, none⟩) (Kd.R_types HO288.out BK300.out (by decide)) (fun _ hk => hk.2) (.int .i64 t297)) (fun _ hk => hk.2) (.int .i64 t298)) (fun _ h_ => h_.1))) hb); have n2_ := Aside0.mk (Kd.R_below (by (with_reducible repeat (first | apply Kd.R_alloc | apply Kd.R_drewN | apply Kd.R_drew)); exact (Kd.R_mono (Kd.R_far (p := ⟨gb300, 1, none⟩) (Kd.R_far (p := ⟨gb300, 0, none⟩) (Kd.R_mono HO291.out (fun k_ hk => (⟨hk, GS.cj hk⟩ : _ ∧ k_ ≠ gb300))) (fun _ hk => hk.2) (.int .i64 t297)) (fun _ hk => hk.2) (.int .i64 t298)) (fun _ h_ => h_.1))) hb); have n3_ := Aside0.mk (Kd.R_elder' (by (with_reducible repeat (first | apply Kd.R_alloc | apply Kd.R_drewN | apply Kd.R_drew)); exact (Kd.R_mono (Kd.R_far (p := ⟨gb300, 1, none⟩) (Kd.R_far (p := ⟨gb300, 0, none⟩) (Kd.R_types HO295.out BK300.out (by decide)) (fun _ hk => hk.2) (.int .i64 t297)) (fun _ hk => hk.2) (.int .i64 t298)) (fun _ h_ => h_.1))) (Kd.R_base ho0) hb); have n4_ := Aside0.mk (Kd.R_lower (Kd.R_new' (Kd.R_new' ho0 (Kd.R_lt (by (with_reducible repeat (first | apply Kd.R_alloc | apply Kd.R_drewN | apply Kd.R_drew)); exact (Kd.R_mono (Kd.R_far (p := ⟨gb300, 1, none⟩) (Kd.R_far (p := ⟨gb300, 0, none⟩) (Kd.R_types HO284.out BK300.out (by decide)) (fun _ hk => hk.2) (.int .i64 t297)) (fun _ hk => hk.2) (.int .i64 t298)) (fun _ h_ => h_.1))))) (Kd.R_lt (by (with_reducible repeat (first | apply Kd.R_alloc | apply Kd.R_drewN | apply Kd.R_drew)); exact (Kd.R_mono (Kd.R_far (p := ⟨gb300, 1, none⟩) (Kd.R_far (p := ⟨gb300, 0, none⟩) (Kd.R_types HO295.out BK300.out (by decide)) (fun _ hk => hk.2) (.int .i64 t297)) (fun _ hk => hk.2) (.int .i64 t298)) (fun _ h_ => h_.1))))) (lqZ (GS.lB HB.out))); have n5_ := Aside0.mk (bqB (g := gb296) (o := .cells #[.string (⟨#[100]⟩ : ByteArray), .int .i64 2, .slice Ao27 y293.length co27, .int .i64 0] 24 (0, 0)) (GS.bqX BK296.out) hb); have n6_ := Aside0.mk (bqB (g := gb300) (o := .cells #[.int .i64 t297, .int .i64 t298] 40 (0, 0)) (GS.bqZ BK300.out) hb); have n7_ := Aside0.mk (lqT (GS.lB HB.out) hb); clear HO284; clear HO288; clear HO291; clear HO295; clear BK296; clear BK300; clear HB; have HO284 := n0_; have HO288 := n1_; have HO291 := n2_; have HO295 := n3_; have HO305 := n4_; have BK296 := n5_; have BK300 := n6_; have HB := n7_; clear n0_ n1_ n2_ n3_ n4_ n5_ n6_ n7_; (try clear hb); (try clear hb2); (try clear hk); (try clear hi); (try clear ho0); obtain ⟨Ao35, co35, eo35⟩ := Kd.R_slice HO305.out; subst eo35) | ((with_reducible refine gqC (f := 12) rfl ?_); refine GS.gL (some 28) Try.func12 #[.slice Ao35 t303.length co35, .int .i64 4, .int .i64 3] ?_; (with_reducible refine (standing_Levels.calls k _ _ t303 4 3 t307 t308 _ ?side1 ?side2 A5.out).mono ?_); (case side1 => repeat (first | exact (Kd.R_reads' HO305.out).2.2 | (with_reducible refine Kd.C_alloc ?_ _) | (with_reducible refine Kd.C_drewN ?_ _) | (with_reducible refine Kd.C_drew ?_))); (case side2 => exact (Kd.R_reads' HO305.out).2.1); rintro e w36 ⟨v309, rfl, ho0, hb⟩; refine ⟨_, rfl, ?_⟩; have n0_ := Aside0.mk (Kd.R_below (GS.rR HO284.out) hb); have n1_ := Aside0.mk (Kd.R_elder' (GS.rR HO288.out) (Kd.R_base ho0) hb); have n2_ := Aside0.mk (Kd.R_below (GS.rR HO291.out) hb); have n3_ := Aside0.mk (Kd.R_below (GS.rR HO295.out) hb); have n4_ := Aside0.mk (Kd.R_below (GS.rR HO305.out) hb); have n5_ := Aside0.mk (Kd.R_lower (Kd.R_new' ho0 (Kd.R_lt (GS.rR HO288.out))) (lqZ (GS.lB HB.out))); have n6_ := Aside0.mk (bqB (g := gb296) (o := .cells #[.string (⟨#[100]⟩ : ByteArray), .int .i64 2, .slice Ao27 y293.length co27, .int .i64 0] 24 (0, 0)) (GS.bqX BK296.out) hb); have n7_ := Aside0.mk (bqB (GS.bqX BK300.out) hb); have n8_ := Aside0.mk (lqT (GS.lB HB.out) hb); clear HO284; clear HO288; clear HO291; clear HO295; clear HO305; clear BK296; clear BK300; clear HB; have HO284 := n0_; have HO288 := n1_; have HO291 := n2_; have HO295 := n3_; have HO305 := n4_; have HO310 := n5_; have BK296 := n6_; have BK300 := n7_; have HB := n8_; clear n0_ n1_ n2_ n3_ n4_ n5_ n6_ n7_ n8_; (try clear hb); (try clear hb2); (try clear hk); (try clear hi); (try clear ho0); obtain ⟨hcz37_0, hcz37_1, hcz37_2, hcz37_3, hfz37_0, hfz37_1, hfz37_2, hfz37_3⟩ := GS.c4 BK296.out) | ((with_reducible refine gqD (N := 33) rfl ?_); (try (refine gate_guard (by rfl) ?_; dsimp only)); refine Kd.R_lit (Kd.int .i64) _ 3 ?hg (N := 33) ?hd (xs := ([0, 10] : List Int)) (inner := [.int .i64 0, .int .i64 10]) (ok := fun _ => True) (okp := fun _ => True) ?hr ?hp (fun _ hk => hk) trivial (Below.refl _ _) (Nat.le_refl _) (by simp) ?_; (case hd => rfl); (case hg => rfl); (case hr => first | (go_simp; done) | (go_simp; rfl)); (case hp => exact (Reps.one (show Kd.M (Kd.int .i64) _ _ _ 0 [.int .i64 0] from rfl) (Reps.one (show Kd.M (Kd.int .i64) _ _ _ 10 [.int .i64 10] from rfl) (Reps.none _ _)))); intro v312 w38 ho39 hb hg_ hnew_; clear hg_ hnew_; (first | rw [← Ny311.out] at ho39 | (simp only [Int.reduceToNat] at ho39; rw [← Ny311.out] at ho39)); have n0_ := Aside0.mk (Kd.R_below (GS.rR HO284.out) hb); have n1_ := Aside0.mk (Kd.R_elder' (GS.rR HO288.out) (Kd.R_base ho39) hb); have n2_ := Aside0.mk (Kd.R_below (GS.rR HO291.out) hb); have n3_ := Aside0.mk (Kd.R_below (GS.rR HO295.out) hb); have n4_ := Aside0.mk (Kd.R_below (GS.rR HO305.out) hb); have n5_ := Aside0.mk (Kd.R_elder' (GS.rR HO310.out) (Kd.R_base ho39) hb); have n6_ := Aside0.mk (Kd.R_lower (Kd.R_new' (Kd.R_new' ho39 (Kd.R_lt (GS.rR HO288.out))) (Kd.R_lt (GS.rR HO310.out))) (lqZ (GS.lB HB.out))); have n7_ := Aside0.mk (bqB (g := gb296) (o := .cells #[.string (⟨#[100]⟩ : ByteArray), .int .i64 2, .slice Ao27 y293.length co27, .int .i64 0] 24 (0, 0)) (GS.bqX BK296.out) hb); have n8_ := Aside0.mk (bqB (GS.bqX BK300.out) hb); have n9_ := Aside0.mk (lqT (GS.lB HB.out) hb); clear HO284; clear HO288; clear HO291; clear HO295; clear HO305; clear HO310; clear BK296; clear BK300; clear HB; have HO284 := n0_; have HO288 := n1_; have HO291 := n2_; have HO295 := n3_; have HO305 := n4_; have HO310 := n5_; have HO313 := n6_; have BK296 := n7_; have BK300 := n8_; have HB := n9_; clear n0_ n1_ n2_ n3_ n4_ n5_ n6_ n7_ n8_ n9_; clear hb ho39; obtain ⟨Ao40, co40, eo40⟩ := Kd.R_slice HO313.out; subst eo40) | ((with_reducible refine gqC (f := 20) rfl ?_); refine goesL_ (some 34) rfl rfl Try.func20 (by kernel_rfl) rfl #[.agg #[.string (⟨#[100]⟩ : ByteArray), .int .i64 2, .slice Ao27 y293.length co27, .int .i64 0], .slice Ao40 y311.length co40] rfl (by (try simp only [List.map_toArray, List.map_cons, List.map_nil]); first | done | rfl | (simp only [List.length_drop, List.length_take]; rfl)) ?_; (with_reducible refine (standing_Between.calls k (⟨#[100]⟩ : ByteArray) 2 _ _ y293 0 _ _ y311 t314 t315 t316 _ ?side1 ?side2 ?side3 ?side4 A6.out).mono ?_); (case side1 => repeat (first | exact (Kd.R_reads' HO295.out).2.2 | (with_reducible refine Kd.C_alloc ?_ _) | (with_reducible refine Kd.C_drewN ?_ _) | (with_reducible refine Kd.C_drew ?_))); (case side2 => exact (Kd.R_reads' HO295.out).2.1); (case side3 => repeat (first | exact (Kd.R_reads' HO313.out).2.2 | (with_reducible refine Kd.C_alloc ?_ _) | (with_reducible refine Kd.C_drewN ?_ _) | (with_reducible refine Kd.C_drew ?_))); (case side4 => exact (Kd.R_reads' HO313.out).2.1); rintro e w41 ⟨rfl, hb⟩; refine ⟨_, rfl, ?_⟩; have n0_ := Aside0.mk (Kd.R_below (GS.rR HO284.out) hb); have n1_ := Aside0.mk (Kd.R_below (GS.rR HO288.out) hb); have n2_ := Aside0.mk (Kd.R_below (GS.rR HO291.out) hb); have n3_ := Aside0.mk (Kd.R_below (GS.rR HO295.out) hb); have n4_ := Aside0.mk (Kd.R_below (GS.rR HO305.out) hb); have n5_ := Aside0.mk (Kd.R_below (GS.rR HO310.out) hb); have n6_ := Aside0.mk (Kd.R_below (GS.rR HO313.out) hb); have n7_ := Aside0.mk (bqB (g := gb296) (o := .cells #[.string (⟨#[100]⟩ : ByteArray), .int .i64 2, .slice Ao27 y293.length co27, .int .i64 0] 24 (0, 0)) (GS.bqX BK296.out) hb); have n8_ := Aside0.mk (bqB (GS.bqX BK300.out) hb); have n9_ := Aside0.mk (lqT (GS.lB HB.out) hb); clear HO284; clear HO288; clear HO291; clear HO295; clear HO305; clear HO310; clear HO313; clear BK296; clear BK300; clear HB; have HO284 := n0_; have HO288 := n1_; have HO291 := n2_; have HO295 := n3_; have HO305 := n4_; have HO310 := n5_; have HO313 := n6_; have BK296 := n7_; have BK300 := n8_; have HB := n9_; clear n0_ n1_ n2_ n3_ n4_ n5_ n6_ n7_ n8_ n9_; (try clear hb); (try clear hb2); (try clear hk); (try clear hi)) | ((with_reducible refine gqD (N := 8) rfl ?_); (try (refine gate_guard (by rfl) ?_; dsimp only)); refine GS.bx (N := 8) (cs := #[.int .i64 0, .int .i64 0]) (t := 40) ?_; intro gb317 hg w42 hbox hb; have n0_ := Aside0.mk (Kd.R_below (GS.rR HO284.out) hb); have n1_ := Aside0.mk (Kd.R_below (GS.rR HO288.out) hb); have n2_ := Aside0.mk (Kd.R_below (Kd.R_elderB (GS.rR HO291.out) gb317 (Nat.le_of_eq hg.symm)) hb); have n3_ := Aside0.mk (Kd.R_below (GS.rR HO295.out) hb); have n4_ := Aside0.mk (Kd.R_below (GS.rR HO305.out) hb); have n5_ := Aside0.mk (Kd.R_below (GS.rR HO310.out) hb); have n6_ := Aside0.mk (Kd.R_below (GS.rR HO313.out) hb); have n7_ := Aside0.mk (bqB (g := gb296) (o := .cells #[.string (⟨#[100]⟩ : ByteArray), .int .i64 2, .slice Ao27 y293.length co27, .int .i64 0] 24 (0, 0)) (GS.bqX BK296.out) hb); have n8_ := Aside0.mk (bqB (GS.bqX BK300.out) hb); have n9_ := Aside0.mk (lqT (GS.lB HB.out) hb); have n10_ := Aside0.mk (hbox); have n11_ := Aside0.mk ((by rw [hg]; exact (lqZ (GS.lB HB.out)) : w.heap.size ≤ gb317)); have n12_ := Aside0.mk ((by rw [hg]; exact (lqZ (GS.lB HB.out)) : w.heap.size ≤ gb317)); have n13_ := Aside0.mk ((by rw [hg]; exact Nat.ne_of_lt (blk_lt (g := gb296) (o := .cells #[.string (⟨#[100]⟩ : ByteArray), .int .i64 2, .slice Ao27 y293.length co27, .int .i64 0] 24 (0, 0)) (GS.bqX BK296.out)) : gb296 ≠ gb317)); have n14_ := Aside0.mk ((by rw [hg]; exact Nat.ne_of_gt (blk_lt (g := gb296) (o := .cells #[.string (⟨#[100]⟩ : ByteArray), .int .i64 2, .slice Ao27 y293.length co27, .int .i64 0] 24 (0, 0)) (GS.bqX BK296.out)) : gb317 ≠ gb296)); have n15_ := Aside0.mk ((by rw [hg]; exact Nat.ne_of_lt (blk_lt (GS.bqX BK300.out)) : gb300 ≠ gb317)); have n16_ := Aside0.mk ((by rw [hg]; exact Nat.ne_of_gt (blk_lt (GS.bqX BK300.out)) : gb317 ≠ gb300)); clear HO284; clear HO288; clear HO291; clear HO295; clear HO305; clear HO310; clear HO313; clear BK296; clear BK300; clear HB; have HO284 := n0_; have HO288 := n1_; have HO291 := n2_; have HO295 := n3_; have HO305 := n4_; have HO310 := n5_; have HO313 := n6_; have BK296 := n7_; have BK300 := n8_; have HB := n9_; have BK317 := n10_; have GW317 := n11_; have GE317 := n12_; have NB296_317 := n13_; have NB317_296 := n14_; have NB300_317 := n15_; have NB317_300 := n16_; clear n0_ n1_ n2_ n3_ n4_ n5_ n6_ n7_ n8_ n9_ n10_ n11_ n12_ n13_ n14_ n15_ n16_; clear hb hbox hg; have hnb43 := NB317_296.out; have hnc43 := NB296_317.out; have hnb44 := NB317_300.out; have hnc44 := NB300_317.out; obtain ⟨hcz45_0, hcz45_1, hfz45_0, hfz45_1⟩ := GS.c2 BK317.out) | ((with_reducible refine gqD (N := 55) rfl ?_); (try (refine gate_guard (by rfl) ?_; dsimp only)); refine Kd.R_lit k40 _ 40 ?hg (N := 55) ?hd (xs := ([(⟨24, 54⟩ : S40), (⟨78, 150⟩ : S40)] : List (S40))) (inner := [.int .i64 24, .int .i64 54, .int .i64 78, .int .i64 150]) (ok := fun _ => True) (okp := fun _ => True) ?hr ?hp (fun _ hk => hk) trivial (Below.refl _ _) (Nat.le_refl _) (by simp) ?_; (case hd => rfl); (case hg => rfl); (case hr => first | (go_simp; done) | (go_simp; rfl)); (case hp => exact (Reps.c2 (show Kd.M k40 _ _ _ (⟨24, 54⟩ : S40) [.int .i64 24, .int .i64 54] from (k40_mkM _ _ _ (⟨24, 54⟩ : S40) )) (Reps.c2 (show Kd.M k40 _ _ _ (⟨78, 150⟩ : S40) [.int .i64 78, .int .i64 150] from (k40_mkM _ _ _ (⟨78, 150⟩ : S40) )) (Reps.none _ _)))); intro v319 w46 ho47 hb hg_ hnew_; clear hg_ hnew_; (first | rw [← Ny318.out] at ho47 | (simp only [Int.reduceToNat] at ho47; rw [← Ny318.out] at ho47)); have n0_ := Aside0.mk (Kd.R_below (by (with_reducible repeat (first | apply Kd.R_alloc | apply Kd.R_drewN | apply Kd.R_drew)); exact (Kd.R_mono (Kd.R_far (p := ⟨gb317, 1, none⟩) (Kd.R_far (p := ⟨gb317, 0, none⟩) (Kd.R_types HO284.out BK317.out (by decide)) (fun _ hk => hk.2) (.int .i64 t314)) (fun _ hk => hk.2) (.int .i64 t315)) (fun _ h_ => h_.1))) hb); have n1_ := Aside0.mk (Kd.R_below (by (with_reducible repeat (first | apply Kd.R_alloc | apply Kd.R_drewN | apply Kd.R_drew)); exact (Kd.R_mono (Kd.R_far (p := ⟨gb317, 1, none⟩) (Kd.R_far (p := ⟨gb317, 0, none⟩) (Kd.R_types HO288.out BK317.out (by decide)) (fun _ hk => hk.2) (.int .i64 t314)) (fun _ hk => hk.2) (.int .i64 t315)) (fun _ h_ => h_.1))) hb); have n2_ := Aside0.mk (Kd.R_elder' (by (with_reducible repeat (first | apply Kd.R_alloc | apply Kd.R_drewN | apply Kd.R_drew)); exact (Kd.R_mono (Kd.R_far (p := ⟨gb317, 1, none⟩) (Kd.R_far (p := ⟨gb317, 0, none⟩) (Kd.R_mono HO291.out (fun k_ hk => (⟨hk, GS.cj hk⟩ : _ ∧ k_ ≠ gb317))) (fun _ hk => hk.2) (.int .i64 t314)) (fun _ hk => hk.2) (.int .i64 t315)) (fun _ h_ => h_.1))) (Kd.R_base ho47) hb); have n3_ := Aside0.mk (Kd.R_below (by (with_reducible repeat (first | apply Kd.R_alloc | apply Kd.R_drewN | apply Kd.R_drew)); exact (Kd.R_mono (Kd.R_far (p := ⟨gb317, 1, none⟩) (Kd.R_far (p := ⟨gb317, 0, none⟩) (Kd.R_types HO295.out BK317.out (by decide)) (fun _ hk => hk.2) (.int .i64 t314)) (fun _ hk => hk.2) (.int .i64 t315)) (fun _ h_ => h_.1))) hb); have n4_ := Aside0.mk (Kd.R_below (by (with_reducible repeat (first | apply Kd.R_alloc | apply Kd.R_drewN | apply Kd.R_drew)); exact (Kd.R_mono (Kd.R_far (p := ⟨gb317, 1, none⟩) (Kd.R_far (p := ⟨gb317, 0, none⟩) (Kd.R_types HO305.out BK317.out (by decide)) (fun _ hk => hk.2) (.int .i64 t314)) (fun _ hk => hk.2) (.int .i64 t315)) (fun _ h_ => h_.1))) hb); have n5_ := Aside0.mk (Kd.R_below (by (with_reducible repeat (first | apply Kd.R_alloc | apply Kd.R_drewN | apply Kd.R_drew)); exact (Kd.R_mono (Kd.R_far (p := ⟨gb317, 1, none⟩) (Kd.R_far (p := ⟨gb317, 0, none⟩) (Kd.R_types HO310.out BK317.out (by decide)) (fun _ hk => hk.2) (.int .i64 t314)) (fun _ hk => hk.2) (.int .i64 t315)) (fun _ h_ => h_.1))) hb); have n6_ := Aside0.mk (Kd.R_below (by (with_reducible repeat (first | apply Kd.R_alloc | apply Kd.R_drewN | apply Kd.R_drew)); exact (Kd.R_mono (Kd.R_far (p := ⟨gb317, 1, none⟩) (Kd.R_far (p := ⟨gb317, 0, none⟩) (Kd.R_types HO313.out BK317.out (by decide)) (fun _ hk => hk.2) (.int .i64 t314)) (fun _ hk => hk.2) (.int .i64 t315)) (fun _ h_ => h_.1))) hb); have n7_ := Aside0.mk (Kd.R_lower (Kd.R_newB (Kd.R_newB (Kd.R_new' ho47 (Kd.R_lt (by (with_reducible repeat (first | apply Kd.R_alloc | apply Kd.R_drewN | apply Kd.R_drew)); exact (Kd.R_mono (Kd.R_far (p := ⟨gb317, 1, none⟩) (Kd.R_far (p := ⟨gb317, 0, none⟩) (Kd.R_mono HO291.out (fun k_ hk => (⟨hk, GS.cj hk⟩ : _ ∧ k_ ≠ gb317))) (fun _ hk => hk.2) (.int .i64 t314)) (fun _ hk => hk.2) (.int .i64 t315)) (fun _ h_ => h_.1))))) (GS.bqX BK300.out)) (g := gb317) (o := .cells #[.int .i64 t314, .int .i64 t315] 40 (0, 0)) (GS.bqZ BK317.out)) (lqZ (GS.lB HB.out))); have n8_ := Aside0.mk (bqB (g := gb296) (o := .cells #[.string (⟨#[100]⟩ : ByteArray), .int .i64 2, .slice Ao27 y293.length co27, .int .i64 0] 24 (0, 0)) (GS.bqX BK296.out) hb); have n9_ := Aside0.mk (bqB (GS.bqX BK300.out) hb); have n10_ := Aside0.mk (bqB (g := gb317) (o := .cells #[.int .i64 t314, .int .i64 t315] 40 (0, 0)) (GS.bqZ BK317.out) hb); have n11_ := Aside0.mk (lqT (GS.lB HB.out) hb); clear HO284; clear HO288; clear HO291; clear HO295; clear HO305; clear HO310; clear HO313; clear BK296; clear BK300; clear BK317; clear HB; have HO284 := n0_; have HO288 := n1_; have HO291 := n2_; have HO295 := n3_; have HO305 := n4_; have HO310 := n5_; have HO313 := n6_; have HO320 := n7_; have BK296 := n8_; have BK300 := n9_; have BK317 := n10_; have HB := n11_; clear n0_ n1_ n2_ n3_ n4_ n5_ n6_ n7_ n8_ n9_ n10_ n11_; clear hb ho47; obtain ⟨Ao48, co48, eo48⟩ := Kd.R_slice HO291.out; subst eo48; obtain ⟨Ao49, co49, eo49⟩ := Kd.R_slice HO320.out; subst eo49) | (go_at_call 24; (with_reducible refine (api_Bounds.calls k _ _ t289 _ _ y318 true _ ?side1 ?side2 ?side3 ?side4 A11.out).mono ?_); (case side1 => repeat (first | exact (Kd.R_reads' HO291.out).2.2 | (with_reducible refine Kd.C_alloc ?_ _) | (with_reducible refine Kd.C_drewN ?_ _) | (with_reducible refine Kd.C_drew ?_))); (case side2 => exact (Kd.R_reads' HO291.out).2.1); (case side3 => repeat (first | exact (Kd.R_reads' HO320.out).2.2 | (with_reducible refine Kd.C_alloc ?_ _) | (with_reducible refine Kd.C_drewN ?_ _) | (with_reducible refine Kd.C_drew ?_))); (case side4 => exact (Kd.R_reads' HO320.out).2.1); rintro e w' ⟨rfl, ⟨nd, rfl⟩⟩; obtain ⟨hcz50_0, hcz50_1, hfz50_0, hfz50_1⟩ := GS.c2 BK300.out) | ((with_reducible refine gqD (N := 65) rfl ?_); (try (refine gate_guard (by rfl) ?_; dsimp only)); refine Kd.R_lit (Kd.int .i64) _ 3 ?hg (N := 65) ?hd (xs := ([0, 1, 2, 4] : List Int)) (inner := [.int .i64 0, .int .i64 1, .int .i64 2, .int .i64 4]) (ok := fun _ => True) (okp := fun _ => True) ?hr ?hp (fun _ hk => hk) trivial (Below.refl _ _) (Nat.le_refl _) (by simp) ?_; (case hd => rfl); (case hg => rfl); (case hr => first | (go_simp; done) | (go_simp; rfl)); (case hp => exact (Reps.one (show Kd.M (Kd.int .i64) _ _ _ 0 [.int .i64 0] from rfl) (Reps.one (show Kd.M (Kd.int .i64) _ _ _ 1 [.int .i64 1] from rfl) (Reps.one (show Kd.M (Kd.int .i64) _ _ _ 2 [.int .i64 2] from rfl) (Reps.one (show Kd.M (Kd.int .i64) _ _ _ 4 [.int .i64 4] from rfl) (Reps.none _ _)))))); intro v323 w51 ho52 hb hg_ hnew_; clear hg_ hnew_; (first | rw [← Ny322.out] at ho52 | (simp only [Int.reduceToNat] at ho52; rw [← Ny322.out] at ho52)); have n0_ := Aside0.mk (Kd.R_below (GS.rR HO284.out) hb); have n1_ := Aside0.mk (Kd.R_elder' (GS.rR HO288.out) (Kd.R_base ho52) hb); have n2_ := Aside0.mk (Kd.R_below (GS.rR HO291.out) hb); have n3_ := Aside0.mk (Kd.R_below (GS.rR HO295.out) hb); have n4_ := Aside0.mk (Kd.R_below (GS.rR HO305.out) hb); have n5_ := Aside0.mk (Kd.R_elder' (GS.rR HO310.out) (Kd.R_base ho52) hb); have n6_ := Aside0.mk (Kd.R_elder' (GS.rR HO313.out) (Kd.R_base ho52) hb); have n7_ := Aside0.mk (Kd.R_below (GS.rR HO320.out) hb); have n8_ := Aside0.mk (Kd.R_lower (Kd.R_new' (Kd.R_new' (Kd.R_new' ho52 (Kd.R_lt (GS.rR HO288.out))) (Kd.R_lt (GS.rR HO310.out))) (Kd.R_lt (GS.rR HO313.out))) (lqZ (GS.lB HB.out))); have n9_ := Aside0.mk (bqB (g := gb296) (o := .cells #[.string (⟨#[100]⟩ : ByteArray), .int .i64 2, .slice Ao27 y293.length co27, .int .i64 0] 24 (0, 0)) (GS.bqX BK296.out) hb); have n10_ := Aside0.mk (bqB (GS.bqX BK300.out) hb); have n11_ := Aside0.mk (bqB (GS.bqX BK317.out) hb); have n12_ := Aside0.mk (lqT (GS.lB HB.out) hb); clear HO284; clear HO288; clear HO291; clear HO295; clear HO305; clear HO310; clear HO313; clear HO320; clear BK296; clear BK300; clear BK317; clear HB; have HO284 := n0_; have HO288 := n1_; have HO291 := n2_; have HO295 := n3_; have HO305 := n4_; have HO310 := n5_; have HO313 := n6_; have HO320 := n7_; have HO324 := n8_; have BK296 := n9_; have BK300 := n10_; have BK317 := n11_; have HB := n12_; clear n0_ n1_ n2_ n3_ n4_ n5_ n6_ n7_ n8_ n9_ n10_ n11_ n12_; clear hb ho52; obtain ⟨Ao53, co53, eo53⟩ := Kd.R_slice HO310.out; subst eo53; obtain ⟨Ao54, co54, eo54⟩ := Kd.R_slice HO324.out; subst eo54) | (go_at_call 15; (with_reducible refine (slices_Equal_int_int.calls k _ _ t307 _ _ y322 true _ ?side1 ?side2 ?side3 ?side4 A14.out).mono ?_); (case side1 => repeat (first | exact (Kd.R_reads' HO310.out).2.2 | (with_reducible refine Kd.C_alloc ?_ _) | (with_reducible refine Kd.C_drewN ?_ _) | (with_reducible refine Kd.C_drew ?_))); (case side2 => exact (Kd.R_reads' HO310.out).2.1); (case side3 => repeat (first | exact (Kd.R_reads' HO324.out).2.2 | (with_reducible refine Kd.C_alloc ?_ _) | (with_reducible refine Kd.C_drewN ?_ _) | (with_reducible refine Kd.C_drew ?_))); (case side4 => exact (Kd.R_reads' HO324.out).2.1); rintro e w' ⟨rfl, ⟨nd, rfl⟩⟩; obtain ⟨hcz55_0, hcz55_1, hfz55_0, hfz55_1⟩ := GS.c2 BK317.out; obtain ⟨hcz56_0, hcz56_1, hfz56_0, hfz56_1⟩ := GS.c2 BK300.out) | (go_at_call 32; (with_reducible refine (spilelaw12_Pail.calls  t326 t327 t328 t331 _ A17.out).mono ?_); rintro e w57 ⟨v329, rfl, ho0, hb⟩; have n0_ := Aside0.mk (Kd.R_elder' (GS.rR HO284.out) (Kd.R_base ho0) hb); have n1_ := Aside0.mk (Kd.R_below (GS.rR HO288.out) hb); have n2_ := Aside0.mk (Kd.R_below (GS.rR HO291.out) hb); have n3_ := Aside0.mk (Kd.R_elder' (GS.rR HO295.out) (Kd.R_base ho0) hb); have n4_ := Aside0.mk (Kd.R_elder' (GS.rR HO305.out) (Kd.R_base ho0) hb); have n5_ := Aside0.mk (Kd.R_below (GS.rR HO310.out) hb); have n6_ := Aside0.mk (Kd.R_below (GS.rR HO313.out) hb); have n7_ := Aside0.mk (Kd.R_below (GS.rR HO320.out) hb); have n8_ := Aside0.mk (Kd.R_below (GS.rR HO324.out) hb); have n9_ := Aside0.mk (Kd.R_lower (Kd.R_new' (Kd.R_new' (Kd.R_new' ho0 (Kd.R_lt (GS.rR HO284.out))) (Kd.R_lt (GS.rR HO295.out))) (Kd.R_lt (GS.rR HO305.out))) (lqZ (GS.lB HB.out))); have n10_ := Aside0.mk (bqB (g := gb296) (o := .cells #[.string (⟨#[100]⟩ : ByteArray), .int .i64 2, .slice Ao27 y293.length co27, .int .i64 0] 24 (0, 0)) (GS.bqX BK296.out) hb); have n11_ := Aside0.mk (bqB (GS.bqX BK300.out) hb); have n12_ := Aside0.mk (bqB (GS.bqX BK317.out) hb); have n13_ := Aside0.mk (lqT (GS.lB HB.out) hb); clear HO284; clear HO288; clear HO291; clear HO295; clear HO305; clear HO310; clear HO313; clear HO320; clear HO324; clear BK296; clear BK300; clear BK317; clear HB; have HO284 := n0_; have HO288 := n1_; have HO291 := n2_; have HO295 := n3_; have HO305 := n4_; have HO310 := n5_; have HO313 := n6_; have HO320 := n7_; have HO324 := n8_; have HO330 := n9_; have BK296 := n10_; have BK300 := n11_; have BK317 := n12_; have HB := n13_; clear n0_ n1_ n2_ n3_ n4_ n5_ n6_ n7_ n8_ n9_ n10_ n11_ n12_ n13_; (try clear hb); (try clear hb2); (try clear hk); (try clear hi); (try clear ho0); obtain ⟨Ao58, co58, eo58⟩ := Kd.R_slice HO330.out; subst eo58) | (go_at_call 16; (with_reducible refine (standing_Check.calls k t326 t327 _ _ t328 t331 _ _ t307 t332 _ ?side1 ?side2 ?side3 ?side4 A18.out).mono ?_); (case side1 => repeat (first | exact (Kd.R_reads' HO330.out).2.2 | (with_reducible refine Kd.C_alloc ?_ _) | (with_reducible refine Kd.C_drewN ?_ _) | (with_reducible refine Kd.C_drew ?_))); (case side2 => exact (Kd.R_reads' HO330.out).2.1); (case side3 => repeat (first | exact (Kd.R_reads' HO310.out).2.2 | (with_reducible refine Kd.C_alloc ?_ _) | (with_reducible refine Kd.C_drewN ?_ _) | (with_reducible refine Kd.C_drew ?_))); (case side4 => exact (Kd.R_reads' HO310.out).2.1); rintro e w59 ⟨rfl, hb⟩; have n0_ := Aside0.mk (Kd.R_below (GS.rR HO284.out) hb); have n1_ := Aside0.mk (Kd.R_below (GS.rR HO288.out) hb); have n2_ := Aside0.mk (Kd.R_below (GS.rR HO291.out) hb); have n3_ := Aside0.mk (Kd.R_below (GS.rR HO295.out) hb); have n4_ := Aside0.mk (Kd.R_below (GS.rR HO305.out) hb); have n5_ := Aside0.mk (Kd.R_below (GS.rR HO310.out) hb); have n6_ := Aside0.mk (Kd.R_below (GS.rR HO313.out) hb); have n7_ := Aside0.mk (Kd.R_below (GS.rR HO320.out) hb); have n8_ := Aside0.mk (Kd.R_below (GS.rR HO324.out) hb); have n9_ := Aside0.mk (Kd.R_below (GS.rR HO330.out) hb); have n10_ := Aside0.mk (bqB (g := gb296) (o := .cells #[.string (⟨#[100]⟩ : ByteArray), .int .i64 2, .slice Ao27 y293.length co27, .int .i64 0] 24 (0, 0)) (GS.bqX BK296.out) hb); have n11_ := Aside0.mk (bqB (GS.bqX BK300.out) hb); have n12_ := Aside0.mk (bqB (GS.bqX BK317.out) hb); have n13_ := Aside0.mk (lqT (GS.lB HB.out) hb); clear HO284; clear HO288; clear HO291; clear HO295; clear HO305; clear HO310; clear HO313; clear HO320; clear HO324; clear HO330; clear BK296; clear BK300; clear BK317; clear HB; have HO284 := n0_; have HO288 := n1_; have HO291 := n2_; have HO295 := n3_; have HO305 := n4_; have HO310 := n5_; have HO313 := n6_; have HO320 := n7_; have HO324 := n8_; have HO330 := n9_; have BK296 := n10_; have BK300 := n11_; have BK317 := n12_; have HB := n13_; clear n0_ n1_ n2_ n3_ n4_ n5_ n6_ n7_ n8_ n9_ n10_ n11_ n12_ n13_; (try clear hb); (try clear hb2); (try clear hk); (try clear hi)))
         go_ret
         exact ⟨by first | rfl | (simp [errW_none, errW_some] <;> rfl) | (simp [*, errW_none, errW_some] <;> rfl), GS.lB HB.out⟩
        ·rw [if_neg c16] at H
         exact absurd H (by simp)
       ·replace c15 := Bool.eq_false_iff.mpr c15
        subst c15
        have H1 : (none) = some r := by rw [if_neg (show ¬ (false = true) by decide)] at H; exact H
        clear H
        have H := H1
        clear H1
        exact absurd H (by simp)
      ·rw [if_neg c13] at H
       exact absurd H (by simp)
     ·replace c12 := Bool.eq_false_iff.mpr c12
      subst c12
      have H1 : (none) = some r := by rw [if_neg (show ¬ (false = true) by decide)] at H; exact H
      clear H
      have H := H1
      clear H1
      exact absurd H (by simp)
    ·rw [if_neg c10] at H
     exact absurd H (by simp)
   ·rw [if_neg c9] at H
    exact absurd H (by simp)
  ·rw [if_neg c8] at H
   exact absurd H (by simp)
 ·rw [if_neg c7] at H
  exact absurd H (by simp)

end Go.Proofs.Ytmcmbjkjilcmeaa.K
