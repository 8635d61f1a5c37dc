-- PRINTED by print.py (a twelfth state) out of the translation. Not trusted: Lean checks it.
import Derived.Test.YtmcmbjkjilcmeaaK0
import Derived.Test.YtmcmbjkjilcmeaaGPu
import Derived.Test.YtmcmbjkjilcmeaaGShort
import Derived.Test.YtmcmbjkjilcmeaaGSym
import Derived.Test.YtmcmbjkjilcmeaaK1
import Derived.Test.YtmcmbjkjilcmeaaK14
import Derived.Test.YtmcmbjkjilcmeaaK15
import Derived.Test.YtmcmbjkjilcmeaaK17
import Derived.Test.YtmcmbjkjilcmeaaK18
import Derived.Test.YtmcmbjkjilcmeaaK27
import Derived.Test.YtmcmbjkjilcmeaaGCloneP
namespace Go.Proofs.Ytmcmbjkjilcmeaa.K
open Go.RowKit Go.Proofs.YtmcmbjkjilcmeaaW.PrintWords Go.Proofs.YtmcmbjkjilcmeaaW.PrintLast Go.Proofs.YtmcmbjkjilcmeaaW.PrintMore
attribute [local go_sem] max2_int min2_int max_two min_two max_three min_three max_four min_four   -- for this text's walks alone
set_option linter.unusedVariables false
set_option linter.unusedSimpArgs false

attribute [local go_sem high] eqA40
/-! ### spilelaw12_StandingFull: function 8 -/
def spilelaw12_StandingFull.j0 : Nat → Int → Bool → ByteArray → Int → List (S33) → Int → Option (Bool)
 | 0, _, _, _, _, _, _ => none
 | k + 1, x1, x20, x597000, x597001, x597002, x597003 => if x20 = true then (some true) else ((spilelaw12_own.f k x597000 x597001 x597002 x597003).bind fun bt600 => (if 0 ≤ (wrap64 ((x597002.length : Int) - 1)) then (if (wrap64 ((x597002.length : Int) - 1)) < (x597002.length : Int) then ((standing_Wet.f k bt600.1 bt600.2.1 bt600.2.2.1 bt600.2.2.2 ((rd_T33 x597002 (wrap64 ((x597002.length : Int) - 1))).f0) x1).bind fun bt607 => ((spilelaw12_own.f k x597000 x597001 x597002 x597003).bind fun bt611 => ((standing_Wet.f k bt611.1 bt611.2.1 bt611.2.2.1 bt611.2.2.2 0 x1).bind fun bt617 => (if bt607.2.2 = 0 then ((clone13.f x597002).bind fun t621 => ((capacity_Space.f t621).bind fun bt624 => (if bt617.2.2 = 0 then (if bt624.2.2 = 0 then (if (bt617.1 == 0 && (bt617.2.1 == 0)) = true then (if bt607.1 ≤ bt624.2.1 then (some (decide (bt624.1 ≤ bt607.2.1))) else (none)) else (none)) else (none)) else (none)))) else (if bt617.2.2 = bt607.2.2 then (some (bt607.1 == 0 && (bt607.2.1 == 0))) else (none)))))) else (none)) else (none)))
def spilelaw12_StandingFull.f (k : Nat) (a0_0 : ByteArray) (a0_1 : Int) (l0_2 : List (S33)) (a0_3 : Int) (a1 : Int) : Option (Bool) := (spilelaw12_awake.f k).bind fun t597 => (if t597 = true then ((spilelaw12_few.f k a0_0 a0_1 l0_2 a0_3 ([] : List Int)).bind fun t598 => (if t598 = true then ((spileref09_Check.f k a0_0 a0_1 l0_2 a0_3).bind fun t599 => (spilelaw12_StandingFull.j0 k a1 (t599 != 0) a0_0 a0_1 l0_2 a0_3)) else (spilelaw12_StandingFull.j0 k a1 true a0_0 a0_1 l0_2 a0_3))) else (none))
theorem spilelaw12_StandingFull.mono_l : ∀ k, (∀ y0 y1 y2 y3 y4 y5, LeO (spilelaw12_StandingFull.j0 k y0 y1 y2 y3 y4 y5) (spilelaw12_StandingFull.j0 (k + 1) y0 y1 y2 y3 y4 y5))
 | 0 => fun _ _ _ _ _ _ r h => by simp [spilelaw12_StandingFull.j0] at h
 | k + 1 => by
  have ih0 := spilelaw12_StandingFull.mono_l k
  ·intro y0 y1 y2 y3 y4 y5
   unfold spilelaw12_StandingFull.j0
   repeat' first
   | (with_reducible exact ih0 _ _ _ _ _ _)
   | (with_reducible exact spilelaw12_awake.mono _)
   | (with_reducible exact spilelaw12_few.mono _ _ _ _ _ _)
   | (with_reducible exact spilelaw12_own.mono _ _ _ _ _)
   | (with_reducible exact spileref09_Check.mono _ _ _ _ _)
   | (with_reducible exact standing_Wet.mono _ _ _ _ _ _ _)
   | (with_reducible exact LeO.refl _)
   | (with_reducible exact LeO.none _)
   | (with_reducible refine LeO.ite ?_ ?_)
   | (with_reducible refine LeO.bind ?_ (fun _ => ?_))
   | exact ih0 _ _ _ _ _ _
   | exact spilelaw12_awake.mono _
   | exact spilelaw12_few.mono _ _ _ _ _ _
   | exact spilelaw12_own.mono _ _ _ _ _
   | exact spileref09_Check.mono _ _ _ _ _
   | exact standing_Wet.mono _ _ _ _ _ _ _
   | exact LeO.none _
   | refine LeO.ite ?_ ?_
   | refine LeO.bind ?_ (fun _ => ?_)
theorem spilelaw12_StandingFull.mono : ∀ a0 a1 a2 a3 a4 k, LeO (spilelaw12_StandingFull.f k a0 a1 a2 a3 a4) (spilelaw12_StandingFull.f (k + 1) a0 a1 a2 a3 a4) := by
 intro a0 a1 a2 a3 a4 k
 have ih0 := spilelaw12_StandingFull.mono_l k
 unfold spilelaw12_StandingFull.f
 repeat' first
   | (with_reducible exact ih0 _ _ _ _ _ _)
   | (with_reducible exact spilelaw12_awake.mono _)
   | (with_reducible exact spilelaw12_few.mono _ _ _ _ _ _)
   | (with_reducible exact spilelaw12_own.mono _ _ _ _ _)
   | (with_reducible exact spileref09_Check.mono _ _ _ _ _)
   | (with_reducible exact standing_Wet.mono _ _ _ _ _ _ _)
   | (with_reducible exact LeO.refl _)
   | (with_reducible exact LeO.none _)
   | (with_reducible refine LeO.ite ?_ ?_)
   | (with_reducible refine LeO.bind ?_ (fun _ => ?_))
   | exact ih0 _ _ _ _ _ _
   | exact spilelaw12_awake.mono _
   | exact spilelaw12_few.mono _ _ _ _ _ _
   | exact spilelaw12_own.mono _ _ _ _ _
   | exact spileref09_Check.mono _ _ _ _ _
   | exact standing_Wet.mono _ _ _ _ _ _ _
   | exact LeO.none _
   | refine LeO.ite ?_ ?_
   | refine LeO.bind ?_ (fun _ => ?_)
def spilelaw12_StandingFull.T5 : Bool × List (List Nat × List Nat) := (true, [([], []), ([0], [0]), ([], []), ([2], [2]), ([], []), ([4], [4]), ([5], [5]), ([6], [6]), ([3, 7], [3, 7]), ([8], [8]), ([9], [9]), ([], []), ([1, 10, 11, 1], [1, 10, 11]), ([12], [12]), ([13], [13]), ([13], [13]), ([], []), ([16, 14, 12, 0, 1, 2, 3, 4, 5, 6, 7, 8, 9, 10, 11, 12, 13, 14, 16], [14, 16]), ([15, 17, 0, 1, 2, 3, 4, 5, 6, 7, 8, 9, 10, 11, 12, 13, 14, 15, 16, 17], [15])])
def spilelaw12_StandingFull.B5 : List Nat := [0, 1, 0, 4, 0, 16, 48, 112, 252, 508, 1020, 0, 4095, 8191, 16383, 16383, 0, 98303, 262143]
theorem spilelaw12_StandingFull.tab5 : rtab .any (opsOf Try.f8 5) = spilelaw12_StandingFull.T5 := by kernel_rfl
theorem spilelaw12_StandingFull.bits5 : waitsOk spilelaw12_StandingFull.T5.2 spilelaw12_StandingFull.B5 = true := by kernel_rfl
set_option maxHeartbeats 8000000 in
set_option maxRecDepth 100000 in
theorem spilelaw12_StandingFull.calls (k : Nat) (a0_0 : ByteArray) (a0_1 : Int) (A0_2 : Option Addr) (c0_2 : Nat) (l0_2 : List (S33)) (a0_3 : Int) (a1 : Int) (r : Bool) (w : World) (hr0_2 : Kd.C k33 w A0_2 l0_2.length l0_2) (hc0_2 : l0_2.length ≤ c0_2) (h : spilelaw12_StandingFull.f k a0_0 a0_1 l0_2 a0_3 a1 = some r) :
  Calls Try.prog 8 #[.agg #[.string a0_0, .int .i64 a0_1, .slice A0_2 l0_2.length c0_2, .int .i64 a0_3], .int .i64 a1] w fun e w' => e = .returned (.bool r) ∧ Below w.heap.size w w' := by
 have hu24 := Try.underlying24
 have hu40 := Try.underlying40
 have HR0_2 := Aside0.mk hr0_2
 have HC0_2 := Aside0.mk hc0_2
 clear hr0_2 hc0_2
 have HB := Aside0.mk (Below.refl w.heap.size w)
 have H : ((spilelaw12_awake.f k).bind fun t597 => (if t597 = true then ((spilelaw12_few.f k a0_0 a0_1 l0_2 a0_3 ([] : List Int)).bind fun t598 => (if t598 = true then ((spileref09_Check.f k a0_0 a0_1 l0_2 a0_3).bind fun t599 => (spilelaw12_StandingFull.j0 k a1 (t599 != 0) a0_0 a0_1 l0_2 a0_3)) else (spilelaw12_StandingFull.j0 k a1 true a0_0 a0_1 l0_2 a0_3))) else (none))) = some r := h
 clear h
 replace H := Option.bind_eq_some_iff.mp H
 obtain ⟨t597, A30, H⟩ := H
 replace H : (if t597 = true then ((spilelaw12_few.f k a0_0 a0_1 l0_2 a0_3 ([] : List Int)).bind fun t598 => (if t598 = true then ((spileref09_Check.f k a0_0 a0_1 l0_2 a0_3).bind fun t599 => (spilelaw12_StandingFull.j0 k a1 (t599 != 0) a0_0 a0_1 l0_2 a0_3)) else (spilelaw12_StandingFull.j0 k a1 true a0_0 a0_1 l0_2 a0_3))) else (none)) = some r := H
 have A3 := Aside0.mk A30
 clear A30
 by_cases c4 : t597 = true
 ·subst c4
  have H1 : ((spilelaw12_few.f k a0_0 a0_1 l0_2 a0_3 ([] : List Int)).bind fun t598 => (if t598 = true then ((spileref09_Check.f k a0_0 a0_1 l0_2 a0_3).bind fun t599 => (spilelaw12_StandingFull.j0 k a1 (t599 != 0) a0_0 a0_1 l0_2 a0_3)) else (spilelaw12_StandingFull.j0 k a1 true a0_0 a0_1 l0_2 a0_3))) = some r := by rw [if_pos rfl] at H; exact H
  clear H
  have H := H1
  clear H1
  have HC5 := Aside0.mk H
  clear H
  go_enter Try.func8, Try.ntmps8
  go_upto_region 3 with (first | ((with_reducible refine gqD (N := 2) rfl ?_); refine GS.bx (N := 2) (cs := #[.string a0_0, .int .i64 a0_1, .slice A0_2 l0_2.length c0_2, .int .i64 a0_3]) (t := 24) ?_; intro gb596 hg w6 hbox hb; have n0_ := Aside0.mk (lqT (GS.lB HB.out) hb); have n1_ := Aside0.mk (hbox); have n2_ := Aside0.mk ((by rw [hg]; exact (lqZ (GS.lB HB.out)) : w.heap.size ≤ gb596)); have n3_ := Aside0.mk ((by rw [hg]; exact (lqZ (GS.lB HB.out)) : w.heap.size ≤ gb596)); clear HB; have HB := n0_; have BK596 := n1_; have GW596 := n2_; have GE596 := n3_; clear n0_ n1_ n2_ n3_; clear hb hbox hg) | ((with_reducible refine gqC (f := 10) rfl ?_); refine GS.gL (some 11) Try.func10 #[] ?_; (with_reducible refine (spilelaw12_awake.calls k  true _ A3.out).mono ?_); rintro e w7 ⟨rfl, hb⟩; refine ⟨_, rfl, ?_⟩; have n0_ := Aside0.mk (bqB (GS.bqX BK596.out) hb); have n1_ := Aside0.mk (lqT (GS.lB HB.out) hb); clear BK596; clear HB; have BK596 := n0_; have HB := n1_; clear n0_ n1_; (try clear hb); (try clear hb2); (try clear hk); (try clear hi)))
  (try simp only [Act.put, List.setIfInBounds_toArray, List.set_cons_zero, List.set_cons_succ])
  go_cut [20] (fun v20 wc => ∃ (kq : Nat) (x20_4 : Bool), v20 = .bool x20_4 ∧ Aside0 (spilelaw12_StandingFull.j0 kq a1 x20_4 a0_0 a0_1 l0_2 a0_3 = some r) ∧ Aside0 (kq ≤ k) ∧ Aside0 (wc.heap[gb596]? = some (.cells #[.string a0_0, .int .i64 a0_1, (.slice A0_2 l0_2.length c0_2), .int .i64 a0_3] 24 (0, 0))) ∧ Aside0 (Below w.heap.size w wc))
  case first =>
   have H := HC5.out
   clear HC5
   replace H := Option.bind_eq_some_iff.mp H
   obtain ⟨t598, A80, H⟩ := H
   replace H : (if t598 = true then ((spileref09_Check.f k a0_0 a0_1 l0_2 a0_3).bind fun t599 => (spilelaw12_StandingFull.j0 k a1 (t599 != 0) a0_0 a0_1 l0_2 a0_3)) else (spilelaw12_StandingFull.j0 k a1 true a0_0 a0_1 l0_2 a0_3)) = some r := H
   have A8 := Aside0.mk A80
   clear A80
   by_cases c9 : t598 = true
   ·subst c9
    have H1 : ((spileref09_Check.f k a0_0 a0_1 l0_2 a0_3).bind fun t599 => (spilelaw12_StandingFull.j0 k a1 (t599 != 0) a0_0 a0_1 l0_2 a0_3)) = some r := by rw [if_pos rfl] at H; exact H
    clear H
    have H := H1
    clear H1
    replace H := Option.bind_eq_some_iff.mp H
    obtain ⟨t599, A100, H⟩ := H
    replace H : (spilelaw12_StandingFull.j0 k a1 (t599 != 0) a0_0 a0_1 l0_2 a0_3) = some r := H
    have A10 := Aside0.mk A100
    clear A100
    have H' := Aside0.mk H
    clear H
    obtain ⟨hcz11_0, hcz11_1, hcz11_2, hcz11_3, hfz11_0, hfz11_1, hfz11_2, hfz11_3⟩ := GS.c4 BK596.out
    go_wp2_with (first | ((with_reducible refine gqC (f := 11) rfl ?_); refine GS.gL (some 14) Try.func11 #[.agg #[.string a0_0, .int .i64 a0_1, .slice A0_2 l0_2.length c0_2, .int .i64 a0_3], .slice none 0 0] ?_; (refine (spilelaw12_few.calls k a0_0 a0_1 (fun k_ => k_ < w.heap.size) _ _ l0_2 a0_3 _ _ ([] : List Int) true _ ?side1 ?side2 ?side3 A8.out).mono ?_); (case side1 => exact Kd.V_mk HC0_2.out (Kd.F_below (Kd.C_F k33_heap HR0_2.out) (GS.lB HB.out))); (case side2 => exact Kd.C_nil _ _); (case side3 => exact Nat.le_refl _); rintro e w12 ⟨rfl, hb⟩; refine ⟨_, rfl, ?_⟩; have n0_ := Aside0.mk (bqB (GS.bqX BK596.out) hb); have n1_ := Aside0.mk (lqT (GS.lB HB.out) hb); clear BK596; clear HB; have BK596 := n0_; have HB := n1_; clear n0_ n1_; (try clear hb); (try clear hb2); (try clear hk); (try clear hi); obtain ⟨hcz13_0, hcz13_1, hcz13_2, hcz13_3, hfz13_0, hfz13_1, hfz13_2, hfz13_3⟩ := GS.c4 BK596.out) | (go_at_call 28; (with_reducible refine (spileref09_Check.calls k a0_0 a0_1 _ _ l0_2 a0_3 t599 _ ?side1 ?side2 A10.out).mono ?_); (case side1 => exact GS.rC (Kd.C_below HR0_2.out HB.out)); (case side2 => exact HC0_2.out); rintro e w14 ⟨rfl, hb⟩; have n0_ := Aside0.mk (bqB (GS.bqX BK596.out) hb); have n1_ := Aside0.mk (lqT (GS.lB HB.out) hb); clear BK596; clear HB; have BK596 := n0_; have HB := n1_; clear n0_ n1_; (try clear hb); (try clear hb2); (try clear hk); (try clear hi)))
    go_meet
    case rel => exact ⟨_, ((t599 != 0)), (by first | rfl | (simp; done) | (simp [*]; done)), H', ⟨by first | omega | exact Nat.le_refl _⟩, ⟨GS.bqX BK596.out⟩, ⟨GS.lB HB.out⟩⟩
   ·replace c9 := Bool.eq_false_iff.mpr c9
    subst c9
    have H1 : (spilelaw12_StandingFull.j0 k a1 true a0_0 a0_1 l0_2 a0_3) = some r := by rw [if_neg (show ¬ (false = true) by decide)] at H; exact H
    clear H
    have H := H1
    clear H1
    have H' := Aside0.mk H
    clear H
    obtain ⟨hcz15_0, hcz15_1, hcz15_2, hcz15_3, hfz15_0, hfz15_1, hfz15_2, hfz15_3⟩ := GS.c4 BK596.out
    go_wp2_with (first | ((with_reducible refine gqC (f := 11) rfl ?_); refine GS.gL (some 14) Try.func11 #[.agg #[.string a0_0, .int .i64 a0_1, .slice A0_2 l0_2.length c0_2, .int .i64 a0_3], .slice none 0 0] ?_; (refine (spilelaw12_few.calls k a0_0 a0_1 (fun k_ => k_ < w.heap.size) _ _ l0_2 a0_3 _ _ ([] : List Int) false _ ?side1 ?side2 ?side3 A8.out).mono ?_); (case side1 => exact Kd.V_mk HC0_2.out (Kd.F_below (Kd.C_F k33_heap HR0_2.out) (GS.lB HB.out))); (case side2 => exact Kd.C_nil _ _); (case side3 => exact Nat.le_refl _); rintro e w16 ⟨rfl, hb⟩; refine ⟨_, rfl, ?_⟩; have n0_ := Aside0.mk (bqB (GS.bqX BK596.out) hb); have n1_ := Aside0.mk (lqT (GS.lB HB.out) hb); clear BK596; clear HB; have BK596 := n0_; have HB := n1_; clear n0_ n1_; (try clear hb); (try clear hb2); (try clear hk); (try clear hi)))
    go_meet
    case rel => exact ⟨_, (true), (by first | rfl | (simp; done) | (simp [*]; done)), H', ⟨by first | omega | exact Nat.le_refl _⟩, ⟨GS.bqX BK596.out⟩, ⟨GS.lB HB.out⟩⟩
  case rest =>
   clear HC5
   try clear c1
   try clear p2
   try clear c4
   try clear c8
   try clear c9
   try clear c10
   try clear c11
   try clear hcz11_0
   try clear hcz11_1
   try clear hcz11_2
   try clear hcz11_3
   try clear hcz13_0
   try clear hcz13_1
   try clear hcz13_2
   try clear hcz13_3
   try clear hcz15_0
   try clear hcz15_1
   try clear hcz15_2
   try clear hcz15_3
   try clear hfz11_0
   try clear hfz11_1
   try clear hfz11_2
   try clear hfz11_3
   try clear hfz13_0
   try clear hfz13_1
   try clear hfz13_2
   try clear hfz13_3
   try clear hfz15_0
   try clear hfz15_1
   try clear hfz15_2
   try clear hfz15_3
   obtain ⟨kq, x20_4, rfl, HA, HJ4, BK596, HB⟩ := hcut
   cases kq with
   | zero => exact absurd HA.out (by simp [spilelaw12_StandingFull.j0])
   | succ kj4 =>
    have H := HA.out
    clear HA
    simp only [spilelaw12_StandingFull.j0] at H
    by_cases c17 : x20_4 = true
    ·subst c17
     have H1 : (some true) = some r := by rw [if_pos rfl] at H; exact H
     clear H
     have H := H1
     clear H1
     obtain rfl := Option.some.inj H
     go_wp2
     go_ret
     exact ⟨by first | rfl | (simp [errW_none, errW_some] <;> rfl) | (simp [*, errW_none, errW_some] <;> rfl), GS.lB HB.out⟩
    ·replace c17 := Bool.eq_false_iff.mpr c17
     subst c17
     have H1 : ((spilelaw12_own.f kj4 a0_0 a0_1 l0_2 a0_3).bind fun bt600 => (if 0 ≤ (wrap64 ((l0_2.length : Int) - 1)) then (if (wrap64 ((l0_2.length : Int) - 1)) < (l0_2.length : Int) then ((standing_Wet.f kj4 bt600.1 bt600.2.1 bt600.2.2.1 bt600.2.2.2 ((rd_T33 l0_2 (wrap64 ((l0_2.length : Int) - 1))).f0) a1).bind fun bt607 => ((spilelaw12_own.f kj4 a0_0 a0_1 l0_2 a0_3).bind fun bt611 => ((standing_Wet.f kj4 bt611.1 bt611.2.1 bt611.2.2.1 bt611.2.2.2 0 a1).bind fun bt617 => (if bt607.2.2 = 0 then ((clone13.f l0_2).bind fun t621 => ((capacity_Space.f t621).bind fun bt624 => (if bt617.2.2 = 0 then (if bt624.2.2 = 0 then (if (bt617.1 == 0 && (bt617.2.1 == 0)) = true then (if bt607.1 ≤ bt624.2.1 then (some (decide (bt624.1 ≤ bt607.2.1))) else (none)) else (none)) else (none)) else (none)))) else (if bt617.2.2 = bt607.2.2 then (some (bt607.1 == 0 && (bt607.2.1 == 0))) else (none)))))) else (none)) else (none))) = some r := by rw [if_neg (show ¬ (false = true) by decide)] at H; exact H
     clear H
     have H := H1
     clear H1
     replace H := Option.bind_eq_some_iff.mp H
     obtain ⟨⟨t600, t601, t602, t605⟩, A180, H⟩ := H
     replace H : (if 0 ≤ (wrap64 ((l0_2.length : Int) - 1)) then (if (wrap64 ((l0_2.length : Int) - 1)) < (l0_2.length : Int) then ((standing_Wet.f kj4 t600 t601 t602 t605 ((rd_T33 l0_2 (wrap64 ((l0_2.length : Int) - 1))).f0) a1).bind fun bt607 => ((spilelaw12_own.f kj4 a0_0 a0_1 l0_2 a0_3).bind fun bt611 => ((standing_Wet.f kj4 bt611.1 bt611.2.1 bt611.2.2.1 bt611.2.2.2 0 a1).bind fun bt617 => (if bt607.2.2 = 0 then ((clone13.f l0_2).bind fun t621 => ((capacity_Space.f t621).bind fun bt624 => (if bt617.2.2 = 0 then (if bt624.2.2 = 0 then (if (bt617.1 == 0 && (bt617.2.1 == 0)) = true then (if bt607.1 ≤ bt624.2.1 then (some (decide (bt624.1 ≤ bt607.2.1))) else (none)) else (none)) else (none)) else (none)))) else (if bt617.2.2 = bt607.2.2 then (some (bt607.1 == 0 && (bt607.2.1 == 0))) else (none)))))) else (none)) else (none)) = some r := H
     have A18 := Aside0.mk A180
     clear A180
     obtain ⟨ji19, hji19⟩ : ∃ j_ : Int, (wrap64 ((l0_2.length : Int) - 1)) = j_ := ⟨_, rfl⟩
     replace H : (if 0 ≤ (ji19) then (if (ji19) < (l0_2.length : Int) then ((standing_Wet.f kj4 t600 t601 t602 t605 ((rd_T33 l0_2 (ji19)).f0) a1).bind fun bt607 => ((spilelaw12_own.f kj4 a0_0 a0_1 l0_2 a0_3).bind fun bt611 => ((standing_Wet.f kj4 bt611.1 bt611.2.1 bt611.2.2.1 bt611.2.2.2 0 a1).bind fun bt617 => (if bt607.2.2 = 0 then ((clone13.f l0_2).bind fun t621 => ((capacity_Space.f t621).bind fun bt624 => (if bt617.2.2 = 0 then (if bt624.2.2 = 0 then (if (bt617.1 == 0 && (bt617.2.1 == 0)) = true then (if bt607.1 ≤ bt624.2.1 then (some (decide (bt624.1 ≤ bt607.2.1))) else (none)) else (none)) else (none)) else (none)))) else (if bt617.2.2 = bt607.2.2 then (some (bt607.1 == 0 && (bt607.2.1 == 0))) else (none)))))) else (none)) else (none)) = some r := by first | (rw [hji19] at H; exact H) | (simp only [hji19] at H ⊢; exact H)
     (try rw [hji19] at A18)
     have hji19w : (IntKind.i64.wrap ((l0_2.length : Int) - 1)) = ji19 := (i64_w _).trans hji19
     by_cases c20 : 0 ≤ (ji19)
     ·rw [if_pos c20] at H
      have c20b0 : decide (0 ≤ (ji19)) = true := decide_eq_true c20
      clear c20
      by_cases c21 : (ji19) < (l0_2.length : Int)
      ·rw [if_pos c21] at H
       have c21b0 : decide ((ji19) < (l0_2.length : Int)) = true := decide_eq_true c21
       clear c21
       replace H := Option.bind_eq_some_iff.mp H
       obtain ⟨⟨t607, t608, t609⟩, A220, H⟩ := H
       replace H : ((spilelaw12_own.f kj4 a0_0 a0_1 l0_2 a0_3).bind fun bt611 => ((standing_Wet.f kj4 bt611.1 bt611.2.1 bt611.2.2.1 bt611.2.2.2 0 a1).bind fun bt617 => (if t609 = 0 then ((clone13.f l0_2).bind fun t621 => ((capacity_Space.f t621).bind fun bt624 => (if bt617.2.2 = 0 then (if bt624.2.2 = 0 then (if (bt617.1 == 0 && (bt617.2.1 == 0)) = true then (if t607 ≤ bt624.2.1 then (some (decide (bt624.1 ≤ t608))) else (none)) else (none)) else (none)) else (none)))) else (if bt617.2.2 = t609 then (some (t607 == 0 && (t608 == 0))) else (none))))) = some r := H
       have A22 := Aside0.mk A220
       clear A220
       replace H := Option.bind_eq_some_iff.mp H
       obtain ⟨⟨t611, t612, t613, t616⟩, A230, H⟩ := H
       replace H : ((standing_Wet.f kj4 t611 t612 t613 t616 0 a1).bind fun bt617 => (if t609 = 0 then ((clone13.f l0_2).bind fun t621 => ((capacity_Space.f t621).bind fun bt624 => (if bt617.2.2 = 0 then (if bt624.2.2 = 0 then (if (bt617.1 == 0 && (bt617.2.1 == 0)) = true then (if t607 ≤ bt624.2.1 then (some (decide (bt624.1 ≤ t608))) else (none)) else (none)) else (none)) else (none)))) else (if bt617.2.2 = t609 then (some (t607 == 0 && (t608 == 0))) else (none)))) = some r := H
       have A23 := Aside0.mk A230
       clear A230
       replace H := Option.bind_eq_some_iff.mp H
       obtain ⟨⟨t617, t618, t619⟩, A240, H⟩ := H
       replace H : (if t609 = 0 then ((clone13.f l0_2).bind fun t621 => ((capacity_Space.f t621).bind fun bt624 => (if t619 = 0 then (if bt624.2.2 = 0 then (if (t617 == 0 && (t618 == 0)) = true then (if t607 ≤ bt624.2.1 then (some (decide (bt624.1 ≤ t608))) else (none)) else (none)) else (none)) else (none)))) else (if t619 = t609 then (some (t607 == 0 && (t608 == 0))) else (none))) = some r := H
       have A24 := Aside0.mk A240
       clear A240
       by_cases c25 : t609 = 0
       ·rw [if_pos c25] at H
        have c25b0 : (t609 == 0) = true := beq_iff_eq.mpr c25
        try simp only [beq_self_eq_true, Bool.not_true, Bool.false_or, Bool.true_and] at c25b0
        have c25b1 : (t609 != 0) = false := bne_eq_false_iff_eq.mpr c25
        clear c25
        replace H := Option.bind_eq_some_iff.mp H
        obtain ⟨t621, A260, H⟩ := H
        replace H : ((capacity_Space.f t621).bind fun bt624 => (if t619 = 0 then (if bt624.2.2 = 0 then (if (t617 == 0 && (t618 == 0)) = true then (if t607 ≤ bt624.2.1 then (some (decide (bt624.1 ≤ t608))) else (none)) else (none)) else (none)) else (none))) = some r := H
        have A26 := Aside0.mk A260
        clear A260
        replace H := Option.bind_eq_some_iff.mp H
        obtain ⟨⟨t624, t625, t626⟩, A270, H⟩ := H
        replace H : (if t619 = 0 then (if t626 = 0 then (if (t617 == 0 && (t618 == 0)) = true then (if t607 ≤ t625 then (some (decide (t624 ≤ t608))) else (none)) else (none)) else (none)) else (none)) = some r := H
        have A27 := Aside0.mk A270
        clear A270
        by_cases c28 : t619 = 0
        ·rw [if_pos c28] at H
         have c28b0 : (t619 == 0) = true := beq_iff_eq.mpr c28
         try simp only [beq_self_eq_true, Bool.not_true, Bool.false_or, Bool.true_and] at c28b0
         have c28b1 : (t619 != 0) = false := bne_eq_false_iff_eq.mpr c28
         clear c28
         by_cases c29 : t626 = 0
         ·rw [if_pos c29] at H
          have c29b0 : (t626 == 0) = true := beq_iff_eq.mpr c29
          try simp only [beq_self_eq_true, Bool.not_true, Bool.false_or, Bool.true_and] at c29b0
          have c29b1 : (t626 != 0) = false := bne_eq_false_iff_eq.mpr c29
          clear c29
          by_cases c30 : (t617 == 0 && (t618 == 0)) = true
          ·rw [if_pos c30] at H
           have c30b0 : (t617 == 0 && (t618 == 0)) = true := c30
           try simp only [beq_self_eq_true, Bool.not_true, Bool.false_or, Bool.true_and] at c30b0
           (try (have c30b1 : decide (t617 = 0 && (t618 == 0)) = true := by simpa using c30))
           (try (have c30b2 : (t617 == 0 && (t618 == 0)) = true := by simpa using c30))
           clear c30
           by_cases c31 : t607 ≤ t625
           ·rw [if_pos c31] at H
            have c31b0 : decide (t607 ≤ t625) = true := decide_eq_true c31
            clear c31
            obtain rfl := Option.some.inj H
            try go_wp2
            have n0_ := Aside0.mk (bqD BK596.out)
            have n1_ := Aside0.mk (lqD HB.out)
            clear BK596
            clear HB
            have BK596 := n0_
            have HB := n1_
            clear n0_ n1_
            have p606 : 0 ≤ ((ji19) : Int) := of_decide_eq_true (by first | (with_reducible assumption) | assumption)
            have q606 : (ji19) < (l0_2.length : Int) := of_decide_eq_true (by first | (with_reducible assumption) | assumption)
            obtain ⟨ad606, e606, hx606_0, hx606_1⟩ := at_T33 HR0_2.out (ji19) p606 q606
            have hw606_1 := hx606_1
            have hw606_0 := hx606_0
            cases e606
            replace hx606_0 := (HB.out.cell (World.block_lt_of_cell? w _ hx606_0)).trans hx606_0
            replace hx606_1 := (HB.out.cell (World.block_lt_of_cell? w _ hx606_1)).trans hx606_1
            replace p606 := eq_true p606
            replace q606 := eq_true q606
            refine start_ (n := 19) (S := fun w' => True) (ds := []) #[false, false, false, false, false, false, false, false, false, false, false, false, false, false, false, false, false, false, false] (by kernel_rfl) rfl rfl trivial (fun hHeld => ?_); refine with_tabW spilelaw12_StandingFull.tab5 spilelaw12_StandingFull.bits5 (fun HT_ HW_ => ?_)
            generalize wc.drew = w32 at BK596 HB hx606_0 hx606_1 hHeld ⊢
            refine GS.pu 2 (some 24) HT_.out ?_
            refine GS.pu 4 (some 26) HT_.out ?_
            refine GS.pu 11 (some 33) HT_.out ?_
            refine inv_at [0, 1, 3, 5, 6, 7, 8, 9, 10, 12, 13, 14, 15, 16, 17, 18] (fun a0_ b a w' => ∃ (v603 : Value) (gb610 : Nat) (m1_ : Value) (m16_ : Value), a = putSel a0_ b [(0, 22, .agg #[.string a0_0, .int .i64 a0_1, .slice (some ad606) l0_2.length c0_2, .int .i64 a0_3]), (1, 23, m1_), (3, 25, .slice (some ad606) l0_2.length c0_2), (5, 27, .slice (some ad606) l0_2.length c0_2), (6, 28, .int .i64 (l0_2.length : Int)), (7, 29, .int .i64 ji19), (8, 30, .pointer (some (ad606.add (((ji19)).toNat * 2)))), (9, 31, .pointer (some (ad606.add (((ji19)).toNat * 2)))), (10, 32, .int .i64 ((rd_T33 l0_2 (ji19)).f0)), (12, 34, .tuple #[.agg #[.int .i64 t607, .int .i64 t608], .int .i64 t609]), (13, 21, .tuple #[.agg #[.int .i64 t607, .int .i64 t608], .int .i64 t609]), (14, 35, .agg #[.int .i64 t607, .int .i64 t608]), (15, 36, .int .i64 t609), (16, 5, m16_), (18, 6, .int .i64 t609)] ∧ (w'.heap[gb596]? = some (.cells #[.string a0_0, .int .i64 a0_1, .slice (some ad606) l0_2.length c0_2, .int .i64 a0_3] 24 (0, 0))) ∧ (Below w.heap.size w w') ∧ (b 16 = true → b 17 = false → w'.heap[gb610]? = some (.cells #[.int .i64 0, .int .i64 0] 40 (0, 0))) ∧ (b 16 = true → w.heap.size ≤ gb610) ∧ (b 16 = true → w.heap.size ≤ gb610) ∧ (b 16 = true → gb596 ≠ gb610) ∧ (b 16 = true → gb610 ≠ gb596) ∧ (b 17 = true → w'.heap[gb610]? = some (.cells #[.int .i64 t607, .int .i64 t608] 40 (0, 0))) ∧ (b 1 = true → Kd.V k33 33 w' w.heap.size (fun k_ => k_ ≠ gb596) v603 t602) ∧ (b 1 = true → b 16 = true → Kd.V k33 33 w' w.heap.size (fun k_ => k_ ≠ gb596 ∧ k_ ≠ gb610) v603 t602) ∧ (b 1 = true → (m1_ : Value) = .agg #[.string t600, .int .i64 t601, v603, .int .i64 t605]) ∧ (b 16 = true → (m16_ : Value) = .pointer (some ⟨gb610, 0, none⟩))) HT_.out HW_.out (by kernel_rfl) (by kernel_rfl) ?_ ?_ ?_
            ·exact ⟨.bool false, 0, .bool false, .bool false, by simp only [putSel, Bool.false_eq_true, if_false], BK596.out, HB.out, fun h_ => absurd h_ (by decide), fun h_ => absurd h_ (by decide), fun h_ => absurd h_ (by decide), fun h_ => absurd h_ (by decide), fun h_ => absurd h_ (by decide), fun h_ => absurd h_ (by decide), fun h_ => absurd h_ (by decide), fun h_ => absurd h_ (by decide), fun h_ => absurd h_ (by decide), fun h_ => absurd h_ (by decide)⟩
            ·skip
             clear BK596 HB
             refine steps_cons ?_ ?_
             ·rintro b a w' ⟨v603, gb610, m1_, m16_, ha, Q_BK596, Q_HB, Q_BK610, Q_GW610, Q_GE610, Q_NB596_610, Q_NB610_596, Q_BK610_e17, Q_HO604_e1, Q_HO604_p1_16, Q_X1_, Q_X16_⟩ hb_ hon hoff
              refine ⟨_, rfl, fun K hK => ?_⟩
              have e2 : a.tmps[2]? = some (.pointer (some ⟨gb596, 0, none⟩)) := by rw [ha]; exact (putSel_off rfl).trans rfl
              replace ha := Aside0.mk ha
              have BK596 := Aside0.mk Q_BK596
              have HB := Aside0.mk Q_HB
              have hc0_ : w'.cell? ⟨gb596, 0, none⟩ = some (.string a0_0) := (bqC BK596.out 0).trans rfl
              have hc1_ : w'.cell? ⟨gb596, 1, none⟩ = some (.int .i64 a0_1) := (bqC BK596.out 1).trans rfl
              have hc2_ : w'.cell? ⟨gb596, 2, none⟩ = some (.slice (some ad606) l0_2.length c0_2) := (bqC BK596.out 2).trans rfl
              have hc3_ : w'.cell? ⟨gb596, 3, none⟩ = some (.int .i64 a0_3) := (bqC BK596.out 3).trans rfl
              refine value_ (w1 := w') (v := .agg #[.string a0_0, .int .i64 a0_1, .slice (some ad606) l0_2.length c0_2, .int .i64 a0_3]) (by rfl) rfl ?_ ?_
              ·go_simp
               (try simp only [i64_w])
               try rfl
              refine hK.out _ _ ⟨v603, gb610, m1_, m16_, (by rw [ha.out]; exact putSel_upk 0 hb_ rfl rfl rfl), Q_BK596, Q_HB, Q_BK610, Q_GW610, Q_GE610, Q_NB596_610, Q_NB610_596, fun h0_ => absurd ((hoff 17 (by kernel_rfl)).symm.trans h0_) (by decide), fun h0_ => absurd ((hoff 1 (by kernel_rfl)).symm.trans h0_) (by decide), fun h0_ _ => absurd ((hoff 1 (by kernel_rfl)).symm.trans h0_) (by decide), fun h0_ => absurd ((hoff 1 (by kernel_rfl)).symm.trans h0_) (by decide), Q_X16_⟩
             refine steps_cons ?_ ?_
             ·rintro b a w' ⟨v603, gb610, m1_, m16_, ha, Q_BK596, Q_HB, Q_BK610, Q_GW610, Q_GE610, Q_NB596_610, Q_NB610_596, Q_BK610_e17, Q_HO604_e1, Q_HO604_p1_16, Q_X1_, Q_X16_⟩ hb_ hon hoff
              refine ⟨_, rfl, fun K hK => ?_⟩
              have e22 : a.tmps[22]? = some (.agg #[.string a0_0, .int .i64 a0_1, .slice (some ad606) l0_2.length c0_2, .int .i64 a0_3]) := by rw [ha]; exact putSel_on (e := (0, 22, .agg #[.string a0_0, .int .i64 a0_1, .slice (some ad606) l0_2.length c0_2, .int .i64 a0_3])) 0 rfl rfl (hon 0 (by kernel_rfl)) rfl
              replace ha := Aside0.mk ha
              have BK596 := Aside0.mk Q_BK596
              have HB := Aside0.mk Q_HB
              refine goes_ Try.func17 (by kernel_rfl) rfl #[.agg #[.string a0_0, .int .i64 a0_1, .slice (some ad606) l0_2.length c0_2, .int .i64 a0_3]] (by rfl) rfl rfl (by first | (simp only [List.map_toArray, List.map_cons, List.map_nil, Act.eval, Array.getD_eq_getD_getElem?, Option.getD_some, e22]; done) | (simp only [List.map_toArray, List.map_cons, List.map_nil, Act.eval, Array.getD_eq_getD_getElem?, Option.getD_some, e22]; rfl)) ?_
              with_reducible refine (spilelaw12_own.calls kj4 a0_0 a0_1 (fun k_ => k_ < w.heap.size) _ _ l0_2 a0_3 t600 t601 t602 t605 _ ?side1 A18.out).mono ?_
              (case side1 => exact Kd.V_mk HC0_2.out (Kd.F_below (Kd.C_F k33_heap HR0_2.out) (GS.lB HB.out)))
              rintro e w33 ⟨v603, rfl, ho0, hb⟩
              refine ⟨_, rfl, ?_⟩
              have n0_ := Aside0.mk (Kd.V_lower (Kd.V_mono (ok' := fun k_ => k_ ≠ gb596) ho0 (fun k_ hk_ => Or.elim hk_ (fun hs_ => fun e_ => Nat.not_le.2 hs_ (by rw [e_]; exact GW596.out)) (fun hn_ => (Kd.freshB (GS.bqX BK596.out) k_ hn_)))) (lqZ (GS.lB HB.out)))
              have n1_ := Aside0.mk (bqB (GS.bqX BK596.out) hb)
              have n2_ := Aside0.mk (lqT (GS.lB HB.out) hb)
              have z_BK610 := fun (h0_ : b 16 = true) (h1_ : b 17 = false) => (show w33.heap[gb610]? = some (.cells #[.int .i64 0, .int .i64 0] 40 (0, 0)) from by first | exact (bqB (GS.bqX (Q_BK610 h0_ h1_)) hb))
              have z_HO604_p1_16 := fun (h0_ : up b 1 1 = true) (h1_ : up b 1 16 = true) => (show Kd.V k33 33 w33 w.heap.size (fun k_ => k_ ≠ gb596 ∧ k_ ≠ gb610) v603 t602 from (Kd.V_lower (Kd.V_mono (ok' := fun k_ => k_ ≠ gb596 ∧ k_ ≠ gb610) ho0 (fun k_ hk_ => ⟨Or.elim hk_ (fun hs_ => fun e_ => Nat.not_le.2 hs_ (by rw [e_]; exact GW596.out)) (fun hn_ => (Kd.freshB (GS.bqX BK596.out) k_ hn_)), Or.elim hk_ (fun hs_ => fun e_ => Nat.not_le.2 hs_ (by rw [e_]; exact (Q_GW610 h1_))) (fun hn_ => (Kd.freshB (GS.bqX (Q_BK610 h1_ (hoff 17 (by kernel_rfl)))) k_ hn_))⟩)) (lqZ (by repeat (first | (with_reducible first | exact HB.out | apply lqA | apply lqN | apply lqD | refine lqS ?_ GE596.out | refine lqS ?_ (Q_GE610 h1_)) | exact HB.out)))))
              clear BK596
              clear HB
              have HO604 := n0_
              have BK596 := n1_
              have HB := n2_
              clear n0_ n1_ n2_
              (try clear hb)
              (try clear hb2)
              (try clear hk)
              (try clear hi)
              (try clear ho0)
              refine hK.out _ _ ⟨v603, gb610, (.agg #[.string t600, .int .i64 t601, v603, .int .i64 t605]), m16_, (by rw [ha.out]; exact putSel_upk 1 hb_ rfl rfl rfl), (GS.bqX BK596.out), (GS.lB HB.out), z_BK610, Q_GW610, Q_GE610, Q_NB596_610, Q_NB610_596, fun h0_ => absurd ((hoff 17 (by kernel_rfl)).symm.trans h0_) (by decide), fun _ => (by (with_reducible repeat (first | apply Kd.V_alloc | apply Kd.V_drewN | apply Kd.V_drew)); exact HO604.out), z_HO604_p1_16, fun _ => rfl, Q_X16_⟩
             refine steps_cons ?_ ?_
             ·rintro b a w' ⟨v603, gb610, m1_, m16_, ha, Q_BK596, Q_HB, Q_BK610, Q_GW610, Q_GE610, Q_NB596_610, Q_NB610_596, Q_BK610_e17, Q_HO604_e1, Q_HO604_p1_16, Q_X1_, Q_X16_⟩ hb_ hon hoff
              refine ⟨_, rfl, fun K hK => ?_⟩
              have e24 : a.tmps[24]? = some (.pointer (some ⟨gb596, 2, none⟩)) := by rw [ha]; exact (putSel_off rfl).trans rfl
              replace ha := Aside0.mk ha
              have BK596 := Aside0.mk Q_BK596
              have HB := Aside0.mk Q_HB
              have hc0_ : w'.cell? ⟨gb596, 0, none⟩ = some (.string a0_0) := (bqC BK596.out 0).trans rfl
              have hc1_ : w'.cell? ⟨gb596, 1, none⟩ = some (.int .i64 a0_1) := (bqC BK596.out 1).trans rfl
              have hc2_ : w'.cell? ⟨gb596, 2, none⟩ = some (.slice (some ad606) l0_2.length c0_2) := (bqC BK596.out 2).trans rfl
              have hc3_ : w'.cell? ⟨gb596, 3, none⟩ = some (.int .i64 a0_3) := (bqC BK596.out 3).trans rfl
              refine value_ (w1 := w') (v := .slice (some ad606) l0_2.length c0_2) (by rfl) rfl ?_ ?_
              ·go_simp
               (try simp only [i64_w])
               try rfl
              refine hK.out _ _ ⟨v603, gb610, m1_, m16_, (by rw [ha.out]; exact putSel_upk 2 hb_ rfl rfl rfl), Q_BK596, Q_HB, Q_BK610, Q_GW610, Q_GE610, Q_NB596_610, Q_NB610_596, fun h0_ => absurd ((hoff 17 (by kernel_rfl)).symm.trans h0_) (by decide), Q_HO604_e1, Q_HO604_p1_16, Q_X1_, Q_X16_⟩
             refine steps_cons ?_ ?_
             ·rintro b a w' ⟨v603, gb610, m1_, m16_, ha, Q_BK596, Q_HB, Q_BK610, Q_GW610, Q_GE610, Q_NB596_610, Q_NB610_596, Q_BK610_e17, Q_HO604_e1, Q_HO604_p1_16, Q_X1_, Q_X16_⟩ hb_ hon hoff
              refine ⟨_, rfl, fun K hK => ?_⟩
              have e26 : a.tmps[26]? = some (.pointer (some ⟨gb596, 2, none⟩)) := by rw [ha]; exact (putSel_off rfl).trans rfl
              replace ha := Aside0.mk ha
              have BK596 := Aside0.mk Q_BK596
              have HB := Aside0.mk Q_HB
              have hc0_ : w'.cell? ⟨gb596, 0, none⟩ = some (.string a0_0) := (bqC BK596.out 0).trans rfl
              have hc1_ : w'.cell? ⟨gb596, 1, none⟩ = some (.int .i64 a0_1) := (bqC BK596.out 1).trans rfl
              have hc2_ : w'.cell? ⟨gb596, 2, none⟩ = some (.slice (some ad606) l0_2.length c0_2) := (bqC BK596.out 2).trans rfl
              have hc3_ : w'.cell? ⟨gb596, 3, none⟩ = some (.int .i64 a0_3) := (bqC BK596.out 3).trans rfl
              refine value_ (w1 := w') (v := .slice (some ad606) l0_2.length c0_2) (by rfl) rfl ?_ ?_
              ·go_simp
               (try simp only [i64_w])
               try rfl
              refine hK.out _ _ ⟨v603, gb610, m1_, m16_, (by rw [ha.out]; exact putSel_upk 3 hb_ rfl rfl rfl), Q_BK596, Q_HB, Q_BK610, Q_GW610, Q_GE610, Q_NB596_610, Q_NB610_596, fun h0_ => absurd ((hoff 17 (by kernel_rfl)).symm.trans h0_) (by decide), Q_HO604_e1, Q_HO604_p1_16, Q_X1_, Q_X16_⟩
             refine steps_cons ?_ ?_
             ·rintro b a w' ⟨v603, gb610, m1_, m16_, ha, Q_BK596, Q_HB, Q_BK610, Q_GW610, Q_GE610, Q_NB596_610, Q_NB610_596, Q_BK610_e17, Q_HO604_e1, Q_HO604_p1_16, Q_X1_, Q_X16_⟩ hb_ hon hoff
              refine ⟨_, rfl, fun K hK => ?_⟩
              have e27 : a.tmps[27]? = some (.slice (some ad606) l0_2.length c0_2) := by rw [ha]; exact putSel_on (e := (5, 27, .slice (some ad606) l0_2.length c0_2)) 3 rfl rfl (hon 5 (by kernel_rfl)) rfl
              replace ha := Aside0.mk ha
              have BK596 := Aside0.mk Q_BK596
              have HB := Aside0.mk Q_HB
              refine value_ (w1 := w') (v := .int .i64 (l0_2.length : Int)) (by rfl) rfl ?_ ?_
              ·go_simp
               (try simp only [i64_w])
               try rfl
              refine hK.out _ _ ⟨v603, gb610, m1_, m16_, (by rw [ha.out]; exact putSel_upk 4 hb_ rfl rfl rfl), Q_BK596, Q_HB, Q_BK610, Q_GW610, Q_GE610, Q_NB596_610, Q_NB610_596, fun h0_ => absurd ((hoff 17 (by kernel_rfl)).symm.trans h0_) (by decide), Q_HO604_e1, Q_HO604_p1_16, Q_X1_, Q_X16_⟩
             refine steps_cons ?_ ?_
             ·rintro b a w' ⟨v603, gb610, m1_, m16_, ha, Q_BK596, Q_HB, Q_BK610, Q_GW610, Q_GE610, Q_NB596_610, Q_NB610_596, Q_BK610_e17, Q_HO604_e1, Q_HO604_p1_16, Q_X1_, Q_X16_⟩ hb_ hon hoff
              refine ⟨_, rfl, fun K hK => ?_⟩
              have e28 : a.tmps[28]? = some (.int .i64 (l0_2.length : Int)) := by rw [ha]; exact putSel_on (e := (6, 28, .int .i64 (l0_2.length : Int))) 4 rfl rfl (hon 6 (by kernel_rfl)) rfl
              replace ha := Aside0.mk ha
              have BK596 := Aside0.mk Q_BK596
              have HB := Aside0.mk Q_HB
              refine value_ (w1 := w') (v := .int .i64 ji19) (by rfl) rfl ?_ ?_
              ·go_simp
               (try simp only [i64_w])
               try rfl
              refine hK.out _ _ ⟨v603, gb610, m1_, m16_, (by rw [ha.out]; exact putSel_upk 5 hb_ rfl rfl rfl), Q_BK596, Q_HB, Q_BK610, Q_GW610, Q_GE610, Q_NB596_610, Q_NB610_596, fun h0_ => absurd ((hoff 17 (by kernel_rfl)).symm.trans h0_) (by decide), Q_HO604_e1, Q_HO604_p1_16, Q_X1_, Q_X16_⟩
             refine steps_cons ?_ ?_
             ·rintro b a w' ⟨v603, gb610, m1_, m16_, ha, Q_BK596, Q_HB, Q_BK610, Q_GW610, Q_GE610, Q_NB596_610, Q_NB610_596, Q_BK610_e17, Q_HO604_e1, Q_HO604_p1_16, Q_X1_, Q_X16_⟩ hb_ hon hoff
              refine ⟨_, rfl, fun K hK => ?_⟩
              have e25 : a.tmps[25]? = some (.slice (some ad606) l0_2.length c0_2) := by rw [ha]; exact putSel_on (e := (3, 25, .slice (some ad606) l0_2.length c0_2)) 2 rfl rfl (hon 3 (by kernel_rfl)) rfl
              have e29 : a.tmps[29]? = some (.int .i64 ji19) := by rw [ha]; exact putSel_on (e := (7, 29, .int .i64 ji19)) 5 rfl rfl (hon 7 (by kernel_rfl)) rfl
              replace ha := Aside0.mk ha
              have BK596 := Aside0.mk Q_BK596
              have HB := Aside0.mk Q_HB
              have hs0_ : w'.cell? (ad606.add (((ji19)).toNat * 2)) = some (.int .i64 ((rd_T33 l0_2 (ji19)).f0)) := ((HB.out.cell (World.block_lt_of_cell? w _ hw606_0)).trans hw606_0)
              have hs1_ : w'.cell? ⟨(ad606.add (((ji19)).toNat * 2)).block, (ad606.add (((ji19)).toNat * 2)).off + 1, none⟩ = some (.int .i64 ((rd_T33 l0_2 (ji19)).f1)) := ((HB.out.cell (World.block_lt_of_cell? w _ hw606_1)).trans hw606_1)
              refine value_ (w1 := w') (v := .pointer (some (ad606.add (((ji19)).toNat * 2)))) (by rfl) rfl ?_ ?_
              ·go_simp
               (try simp only [i64_w])
               try rfl
              refine hK.out _ _ ⟨v603, gb610, m1_, m16_, (by rw [ha.out]; exact putSel_upk 6 hb_ rfl rfl rfl), Q_BK596, Q_HB, Q_BK610, Q_GW610, Q_GE610, Q_NB596_610, Q_NB610_596, fun h0_ => absurd ((hoff 17 (by kernel_rfl)).symm.trans h0_) (by decide), Q_HO604_e1, Q_HO604_p1_16, Q_X1_, Q_X16_⟩
             refine steps_cons ?_ ?_
             ·rintro b a w' ⟨v603, gb610, m1_, m16_, ha, Q_BK596, Q_HB, Q_BK610, Q_GW610, Q_GE610, Q_NB596_610, Q_NB610_596, Q_BK610_e17, Q_HO604_e1, Q_HO604_p1_16, Q_X1_, Q_X16_⟩ hb_ hon hoff
              refine ⟨_, rfl, fun K hK => ?_⟩
              have e30 : a.tmps[30]? = some (.pointer (some (ad606.add (((ji19)).toNat * 2)))) := by rw [ha]; exact putSel_on (e := (8, 30, .pointer (some (ad606.add (((ji19)).toNat * 2))))) 6 rfl rfl (hon 8 (by kernel_rfl)) rfl
              replace ha := Aside0.mk ha
              have BK596 := Aside0.mk Q_BK596
              have HB := Aside0.mk Q_HB
              refine value_ (w1 := w') (v := .pointer (some (ad606.add (((ji19)).toNat * 2)))) (by rfl) rfl ?_ ?_
              ·go_simp
               (try simp only [i64_w])
               try rfl
              refine hK.out _ _ ⟨v603, gb610, m1_, m16_, (by rw [ha.out]; exact putSel_upk 7 hb_ rfl rfl rfl), Q_BK596, Q_HB, Q_BK610, Q_GW610, Q_GE610, Q_NB596_610, Q_NB610_596, fun h0_ => absurd ((hoff 17 (by kernel_rfl)).symm.trans h0_) (by decide), Q_HO604_e1, Q_HO604_p1_16, Q_X1_, Q_X16_⟩
             refine steps_cons ?_ ?_
             ·rintro b a w' ⟨v603, gb610, m1_, m16_, ha, Q_BK596, Q_HB, Q_BK610, Q_GW610, Q_GE610, Q_NB596_610, Q_NB610_596, Q_BK610_e17, Q_HO604_e1, Q_HO604_p1_16, Q_X1_, Q_X16_⟩ hb_ hon hoff
              refine ⟨_, rfl, fun K hK => ?_⟩
              have e31 : a.tmps[31]? = some (.pointer (some (ad606.add (((ji19)).toNat * 2)))) := by rw [ha]; exact putSel_on (e := (9, 31, .pointer (some (ad606.add (((ji19)).toNat * 2))))) 7 rfl rfl (hon 9 (by kernel_rfl)) rfl
              replace ha := Aside0.mk ha
              have BK596 := Aside0.mk Q_BK596
              have HB := Aside0.mk Q_HB
              have hs0_ : w'.cell? (ad606.add (((ji19)).toNat * 2)) = some (.int .i64 ((rd_T33 l0_2 (ji19)).f0)) := ((HB.out.cell (World.block_lt_of_cell? w _ hw606_0)).trans hw606_0)
              have hs1_ : w'.cell? ⟨(ad606.add (((ji19)).toNat * 2)).block, (ad606.add (((ji19)).toNat * 2)).off + 1, none⟩ = some (.int .i64 ((rd_T33 l0_2 (ji19)).f1)) := ((HB.out.cell (World.block_lt_of_cell? w _ hw606_1)).trans hw606_1)
              refine value_ (w1 := w') (v := .int .i64 ((rd_T33 l0_2 (ji19)).f0)) (by rfl) rfl ?_ ?_
              ·go_simp
               (try simp only [i64_w])
               try rfl
              refine hK.out _ _ ⟨v603, gb610, m1_, m16_, (by rw [ha.out]; exact putSel_upk 8 hb_ rfl rfl rfl), Q_BK596, Q_HB, Q_BK610, Q_GW610, Q_GE610, Q_NB596_610, Q_NB610_596, fun h0_ => absurd ((hoff 17 (by kernel_rfl)).symm.trans h0_) (by decide), Q_HO604_e1, Q_HO604_p1_16, Q_X1_, Q_X16_⟩
             refine steps_cons ?_ ?_
             ·rintro b a w' ⟨v603, gb610, m1_, m16_, ha, Q_BK596, Q_HB, Q_BK610, Q_GW610, Q_GE610, Q_NB596_610, Q_NB610_596, Q_BK610_e17, Q_HO604_e1, Q_HO604_p1_16, Q_X1_, Q_X16_⟩ hb_ hon hoff
              refine ⟨_, rfl, fun K hK => ?_⟩
              have e23 : a.tmps[23]? = some (m1_) := by rw [ha]; exact putSel_on (e := (1, 23, m1_)) 1 rfl rfl (hon 1 (by kernel_rfl)) rfl
              rw [Q_X1_ (hon 1 (by kernel_rfl))] at e23
              have e32 : a.tmps[32]? = some (.int .i64 ((rd_T33 l0_2 (ji19)).f0)) := by rw [ha]; exact putSel_on (e := (10, 32, .int .i64 ((rd_T33 l0_2 (ji19)).f0))) 8 rfl rfl (hon 10 (by kernel_rfl)) rfl
              have e33 : a.tmps[33]? = some (.int .i64 a1) := by rw [ha]; exact (putSel_off rfl).trans rfl
              replace ha := Aside0.mk ha
              have BK596 := Aside0.mk Q_BK596
              have HB := Aside0.mk Q_HB
              have HO604 := Aside0.mk (Q_HO604_e1 (hon 1 (by kernel_rfl)))
              obtain ⟨Ao35, co35, eo35⟩ := Kd.V_slice HO604.out
              (first | subst eo35 | (injection eo35 with f1_ f2_ f3_; have f4_ := f1_.symm; have f5_ := f3_.symm; clear f1_ f2_ f3_; subst f4_; subst f5_))
              refine goes_ Try.func25 (by kernel_rfl) rfl #[.agg #[.string t600, .int .i64 t601, .slice Ao35 t602.length co35, .int .i64 t605], .int .i64 ((rd_T33 l0_2 (ji19)).f0), .int .i64 a1] (by rfl) rfl rfl (by (try simp only [List.map_toArray, List.map_cons, List.map_nil]); first | done | (go_simp; done) | (simp only [hji19]; rfl) | rfl | (simp only [List.length_drop, List.length_take]; rfl)) ?_
              with_reducible refine (standing_Wet.calls kj4 t600 t601 _ _ t602 t605 ((rd_T33 l0_2 (ji19)).f0) a1 t607 t608 t609 _ ?side1 ?side2 A22.out).mono ?_
              (case side1 => repeat (first | exact (Kd.V_reads' HO604.out).2.2 | (with_reducible refine Kd.C_alloc ?_ _) | (with_reducible refine Kd.C_drewN ?_ _) | (with_reducible refine Kd.C_drew ?_)))
              (case side2 => exact (Kd.V_reads' HO604.out).2.1)
              rintro e w36 ⟨rfl, hb⟩
              refine ⟨_, rfl, ?_⟩
              have n0_ := Aside0.mk (Kd.V_below (by (with_reducible repeat (first | apply Kd.V_alloc | apply Kd.V_drewN | apply Kd.V_drew)); exact HO604.out) hb)
              have n1_ := Aside0.mk (bqB (GS.bqX BK596.out) hb)
              have n2_ := Aside0.mk (lqT (GS.lB HB.out) hb)
              have z_BK610 := fun (h0_ : b 16 = true) (h1_ : b 17 = false) => (show w36.heap[gb610]? = some (.cells #[.int .i64 0, .int .i64 0] 40 (0, 0)) from by first | exact (bqB (GS.bqX (Q_BK610 h0_ h1_)) hb))
              have z_HO604_p1_16 := fun (h0_ : b 1 = true) (h1_ : b 16 = true) => (show Kd.V k33 33 w36 w.heap.size (fun k_ => k_ ≠ gb596 ∧ k_ ≠ gb610) (.slice Ao35 t602.length co35) t602 from by first | exact (Kd.V_below (by (with_reducible repeat (first | apply Kd.V_alloc | apply Kd.V_drewN | apply Kd.V_drew)); exact (Q_HO604_p1_16 h0_ h1_)) hb) | exact Kd.V_mono (Kd.V_below (by (with_reducible repeat (first | apply Kd.V_alloc | apply Kd.V_drewN | apply Kd.V_drew)); exact (Q_HO604_p1_16 h0_ h1_)) hb) (fun _ hk => GS.cj hk))
              clear HO604
              clear BK596
              clear HB
              have HO604 := n0_
              have BK596 := n1_
              have HB := n2_
              clear n0_ n1_ n2_
              (try clear hb)
              (try clear hb2)
              (try clear hk)
              (try clear hi)
              refine hK.out _ _ ⟨.slice Ao35 t602.length co35, gb610, m1_, m16_, (by rw [ha.out]; exact putSel_upk 9 hb_ rfl rfl rfl), (GS.bqX BK596.out), (GS.lB HB.out), z_BK610, Q_GW610, Q_GE610, Q_NB596_610, Q_NB610_596, fun h0_ => absurd ((hoff 17 (by kernel_rfl)).symm.trans h0_) (by decide), fun _ => (by (with_reducible repeat (first | apply Kd.V_alloc | apply Kd.V_drewN | apply Kd.V_drew)); exact HO604.out), z_HO604_p1_16, Q_X1_, Q_X16_⟩
             refine steps_cons ?_ ?_
             ·rintro b a w' ⟨v603, gb610, m1_, m16_, ha, Q_BK596, Q_HB, Q_BK610, Q_GW610, Q_GE610, Q_NB596_610, Q_NB610_596, Q_BK610_e17, Q_HO604_e1, Q_HO604_p1_16, Q_X1_, Q_X16_⟩ hb_ hon hoff
              refine ⟨_, rfl, fun K hK => ?_⟩
              have e34 : a.tmps[34]? = some (.tuple #[.agg #[.int .i64 t607, .int .i64 t608], .int .i64 t609]) := by rw [ha]; exact putSel_on (e := (12, 34, .tuple #[.agg #[.int .i64 t607, .int .i64 t608], .int .i64 t609])) 9 rfl rfl (hon 12 (by kernel_rfl)) rfl
              replace ha := Aside0.mk ha
              have BK596 := Aside0.mk Q_BK596
              have HB := Aside0.mk Q_HB
              have HO604 := Aside0.mk (Q_HO604_e1 (hon 1 (by kernel_rfl)))
              refine value_ (w1 := w') (v := .tuple #[.agg #[.int .i64 t607, .int .i64 t608], .int .i64 t609]) (by rfl) rfl ?_ ?_
              ·go_simp
               (try simp only [i64_w])
               try rfl
              refine hK.out _ _ ⟨v603, gb610, m1_, m16_, (by rw [ha.out]; exact putSel_upk 10 hb_ rfl rfl rfl), Q_BK596, Q_HB, Q_BK610, Q_GW610, Q_GE610, Q_NB596_610, Q_NB610_596, fun h0_ => absurd ((hoff 17 (by kernel_rfl)).symm.trans h0_) (by decide), Q_HO604_e1, Q_HO604_p1_16, Q_X1_, Q_X16_⟩
             refine steps_cons ?_ ?_
             ·rintro b a w' ⟨v603, gb610, m1_, m16_, ha, Q_BK596, Q_HB, Q_BK610, Q_GW610, Q_GE610, Q_NB596_610, Q_NB610_596, Q_BK610_e17, Q_HO604_e1, Q_HO604_p1_16, Q_X1_, Q_X16_⟩ hb_ hon hoff
              refine ⟨_, rfl, fun K hK => ?_⟩
              have e21 : a.tmps[21]? = some (.tuple #[.agg #[.int .i64 t607, .int .i64 t608], .int .i64 t609]) := by rw [ha]; exact putSel_on (e := (13, 21, .tuple #[.agg #[.int .i64 t607, .int .i64 t608], .int .i64 t609])) 10 rfl rfl (hon 13 (by kernel_rfl)) rfl
              replace ha := Aside0.mk ha
              have BK596 := Aside0.mk Q_BK596
              have HB := Aside0.mk Q_HB
              have HO604 := Aside0.mk (Q_HO604_e1 (hon 1 (by kernel_rfl)))
              refine value_ (w1 := w') (v := .agg #[.int .i64 t607, .int .i64 t608]) (by rfl) rfl ?_ ?_
              ·go_simp
               (try simp only [i64_w])
               try rfl
              refine hK.out _ _ ⟨v603, gb610, m1_, m16_, (by rw [ha.out]; exact putSel_upk 11 hb_ rfl rfl rfl), Q_BK596, Q_HB, Q_BK610, Q_GW610, Q_GE610, Q_NB596_610, Q_NB610_596, fun h0_ => absurd ((hoff 17 (by kernel_rfl)).symm.trans h0_) (by decide), Q_HO604_e1, Q_HO604_p1_16, Q_X1_, Q_X16_⟩
             refine steps_cons ?_ ?_
             ·rintro b a w' ⟨v603, gb610, m1_, m16_, ha, Q_BK596, Q_HB, Q_BK610, Q_GW610, Q_GE610, Q_NB596_610, Q_NB610_596, Q_BK610_e17, Q_HO604_e1, Q_HO604_p1_16, Q_X1_, Q_X16_⟩ hb_ hon hoff
              refine ⟨_, rfl, fun K hK => ?_⟩
              have e21 : a.tmps[21]? = some (.tuple #[.agg #[.int .i64 t607, .int .i64 t608], .int .i64 t609]) := by rw [ha]; exact putSel_on (e := (13, 21, .tuple #[.agg #[.int .i64 t607, .int .i64 t608], .int .i64 t609])) 10 rfl rfl (hon 13 (by kernel_rfl)) rfl
              replace ha := Aside0.mk ha
              have BK596 := Aside0.mk Q_BK596
              have HB := Aside0.mk Q_HB
              have HO604 := Aside0.mk (Q_HO604_e1 (hon 1 (by kernel_rfl)))
              refine value_ (w1 := w') (v := .int .i64 t609) (by rfl) rfl ?_ ?_
              ·go_simp
               (try simp only [i64_w])
               try rfl
              refine hK.out _ _ ⟨v603, gb610, m1_, m16_, (by rw [ha.out]; exact putSel_upk 12 hb_ rfl rfl rfl), Q_BK596, Q_HB, Q_BK610, Q_GW610, Q_GE610, Q_NB596_610, Q_NB610_596, Q_BK610_e17, Q_HO604_e1, Q_HO604_p1_16, Q_X1_, Q_X16_⟩
             refine steps_cons ?_ ?_
             ·rintro b a w' ⟨v603, gb610, m1_, m16_, ha, Q_BK596, Q_HB, Q_BK610, Q_GW610, Q_GE610, Q_NB596_610, Q_NB610_596, Q_BK610_e17, Q_HO604_e1, Q_HO604_p1_16, Q_X1_, Q_X16_⟩ hb_ hon hoff
              refine ⟨_, rfl, fun K hK => ?_⟩
              replace ha := Aside0.mk ha
              have BK596 := Aside0.mk Q_BK596
              have HB := Aside0.mk Q_HB
              refine box_step ?hg (N := 5) ?hd (cs := #[.int .i64 0, .int .i64 0]) (t := 40) ?hr ?_; (case hd => rfl); (case hg => rfl); (case hr => first | (go_simp; done) | (go_simp; rfl))
              intro gb610 hg w33 hbox hb
              have n0_ := Aside0.mk (bqB (GS.bqX BK596.out) hb)
              have n1_ := Aside0.mk (lqT (GS.lB HB.out) hb)
              have n2_ := Aside0.mk (hbox)
              have n3_ := Aside0.mk ((by rw [hg]; exact (lqZ (GS.lB HB.out)) : w.heap.size ≤ gb610))
              have n4_ := Aside0.mk ((by rw [hg]; exact (lqZ (GS.lB HB.out)) : w.heap.size ≤ gb610))
              have n5_ := Aside0.mk ((by rw [hg]; exact Nat.ne_of_lt (blk_lt (GS.bqX BK596.out)) : gb596 ≠ gb610))
              have n6_ := Aside0.mk ((by rw [hg]; exact Nat.ne_of_gt (blk_lt (GS.bqX BK596.out)) : gb610 ≠ gb596))
              have z_HO604_e1 := fun (h0_ : b 1 = true) => (show Kd.V k33 33 w33 w.heap.size (fun k_ => k_ ≠ gb596) v603 t602 from by first | exact (Kd.V_below (Kd.V_elderB (by (with_reducible repeat (first | apply Kd.V_alloc | apply Kd.V_drewN | apply Kd.V_drew)); exact (Q_HO604_e1 h0_)) gb610 (Nat.le_of_eq hg.symm)) hb) | exact Kd.V_mono (Kd.V_below (Kd.V_elderB (by (with_reducible repeat (first | apply Kd.V_alloc | apply Kd.V_drewN | apply Kd.V_drew)); exact (Q_HO604_e1 h0_)) gb610 (Nat.le_of_eq hg.symm)) hb) (fun _ hk => GS.cj hk))
              have z_HO604_p1_16 := fun (h0_ : up b 16 1 = true) (h1_ : up b 16 16 = true) => (show Kd.V k33 33 w33 w.heap.size (fun k_ => k_ ≠ gb596 ∧ k_ ≠ gb610) v603 t602 from (Kd.V_below (Kd.V_elderB (by (with_reducible repeat (first | apply Kd.V_alloc | apply Kd.V_drewN | apply Kd.V_drew)); exact (Q_HO604_e1 h0_)) gb610 (Nat.le_of_eq hg.symm)) hb))
              clear BK596
              clear HB
              have BK596 := n0_
              have HB := n1_
              have BK610 := n2_
              have GW610 := n3_
              have GE610 := n4_
              have NB596_610 := n5_
              have NB610_596 := n6_
              clear n0_ n1_ n2_ n3_ n4_ n5_ n6_
              clear hb hbox hg
              refine hK.out _ _ ⟨v603, gb610, m1_, (.pointer (some ⟨gb610, 0, none⟩)), (by rw [ha.out]; exact putSel_upk 13 hb_ rfl rfl rfl), (GS.bqX BK596.out), (GS.lB HB.out), fun _ _ => (GS.bqX BK610.out), fun _ => GW610.out, fun _ => GE610.out, fun _ => NB596_610.out, fun _ => NB610_596.out, fun h0_ => absurd ((hoff 17 (by kernel_rfl)).symm.trans h0_) (by decide), z_HO604_e1, z_HO604_p1_16, Q_X1_, fun _ => rfl⟩
             refine steps_cons ?_ ?_
             ·rintro b a w' ⟨v603, gb610, m1_, m16_, ha, Q_BK596, Q_HB, Q_BK610, Q_GW610, Q_GE610, Q_NB596_610, Q_NB610_596, Q_BK610_e17, Q_HO604_e1, Q_HO604_p1_16, Q_X1_, Q_X16_⟩ hb_ hon hoff
              refine ⟨_, rfl, fun K hK => ?_⟩
              have e5 : a.tmps[5]? = some (m16_) := by rw [ha]; exact putSel_on (e := (16, 5, m16_)) 13 rfl rfl (hon 16 (by kernel_rfl)) rfl
              rw [Q_X16_ (hon 16 (by kernel_rfl))] at e5
              have e35 : a.tmps[35]? = some (.agg #[.int .i64 t607, .int .i64 t608]) := by rw [ha]; exact putSel_on (e := (14, 35, .agg #[.int .i64 t607, .int .i64 t608])) 11 rfl rfl (hon 14 (by kernel_rfl)) rfl
              replace ha := Aside0.mk ha
              have BK596 := Aside0.mk Q_BK596
              have HB := Aside0.mk Q_HB
              have BK610 := Aside0.mk (Q_BK610 (hon 16 (by kernel_rfl)) hb_)
              have GW610 := Aside0.mk (Q_GW610 (hon 16 (by kernel_rfl)))
              have GE610 := Aside0.mk (Q_GE610 (hon 16 (by kernel_rfl)))
              have NB596_610 := Aside0.mk (Q_NB596_610 (hon 16 (by kernel_rfl)))
              have NB610_596 := Aside0.mk (Q_NB610_596 (hon 16 (by kernel_rfl)))
              have HO604 := Aside0.mk (Q_HO604_e1 (hon 1 (by kernel_rfl)))
              have HO604 := Aside0.mk (Q_HO604_p1_16 (hon 1 (by kernel_rfl)) (hon 16 (by kernel_rfl)))
              have hs38 : w'.cell? ⟨gb610, 0, none⟩ = some (.int .i64 0) := (bqC BK610.out 0).trans rfl
              have hfs38 := bqF BK610.out 0
              have hns38_0 := NB596_610.out
              have hms38_0 := NB610_596.out
              have hs39 : w'.cell? ⟨gb610, 1, none⟩ = some (.int .i64 0) := (bqC BK610.out 1).trans rfl
              have hfs39 := bqF BK610.out 1
              have hns39_0 := NB596_610.out
              have hms39_0 := NB610_596.out
              refine skip_ (w1 := ?_) (by rfl) rfl ?_ ?_
              rotate_left
              ·go_simp
               rfl
              refine hK.out _ _ ⟨v603, gb610, m1_, m16_, (by rw [ha.out]; exact putSel_none (v := undef) rfl), (GS.bqX BK596.out), (GS.lB HB.out), fun _ h1_ => absurd ((up_self b 17).symm.trans h1_) (by decide), fun _ => GW610.out, fun _ => GE610.out, fun _ => NB596_610.out, fun _ => NB610_596.out, fun _ => (GS.bqZ BK610.out), fun _ => Kd.V_mono ((by (with_reducible repeat (first | apply Kd.V_alloc | apply Kd.V_drewN | apply Kd.V_drew)); exact Kd.V_mono (Kd.V_far (p := ⟨gb610, 1, none⟩) (Kd.V_far (p := ⟨gb610, 0, none⟩) (Kd.V_mono HO604.out (fun k_ hk => (⟨hk, GS.cj hk⟩ : _ ∧ k_ ≠ gb610))) (fun _ hk => hk.2) (.int .i64 t607)) (fun _ hk => hk.2) (.int .i64 t608)) (fun _ hk => hk))) (fun _ hk => GS.cj hk), fun _ _ => (by (with_reducible repeat (first | apply Kd.V_alloc | apply Kd.V_drewN | apply Kd.V_drew)); exact Kd.V_mono (Kd.V_far (p := ⟨gb610, 1, none⟩) (Kd.V_far (p := ⟨gb610, 0, none⟩) (Kd.V_mono HO604.out (fun k_ hk => (⟨hk, GS.cj hk⟩ : _ ∧ k_ ≠ gb610))) (fun _ hk => hk.2) (.int .i64 t607)) (fun _ hk => hk.2) (.int .i64 t608)) (fun _ hk => GS.cj hk)), Q_X1_, Q_X16_⟩
             refine steps_cons ?_ ?_
             ·rintro b a w' ⟨v603, gb610, m1_, m16_, ha, Q_BK596, Q_HB, Q_BK610, Q_GW610, Q_GE610, Q_NB596_610, Q_NB610_596, Q_BK610_e17, Q_HO604_e1, Q_HO604_p1_16, Q_X1_, Q_X16_⟩ hb_ hon hoff
              refine ⟨_, rfl, fun K hK => ?_⟩
              have e36 : a.tmps[36]? = some (.int .i64 t609) := by rw [ha]; exact putSel_on (e := (15, 36, .int .i64 t609)) 12 rfl rfl (hon 15 (by kernel_rfl)) rfl
              replace ha := Aside0.mk ha
              have BK596 := Aside0.mk Q_BK596
              have HB := Aside0.mk Q_HB
              have GW610 := Aside0.mk (Q_GW610 (hon 16 (by kernel_rfl)))
              have GE610 := Aside0.mk (Q_GE610 (hon 16 (by kernel_rfl)))
              have NB596_610 := Aside0.mk (Q_NB596_610 (hon 16 (by kernel_rfl)))
              have NB610_596 := Aside0.mk (Q_NB610_596 (hon 16 (by kernel_rfl)))
              have BK610 := Aside0.mk (Q_BK610_e17 (hon 17 (by kernel_rfl)))
              have HO604 := Aside0.mk (Q_HO604_e1 (hon 1 (by kernel_rfl)))
              have HO604 := Aside0.mk (Q_HO604_p1_16 (hon 1 (by kernel_rfl)) (hon 16 (by kernel_rfl)))
              refine value_ (w1 := w') (v := .int .i64 t609) (by rfl) rfl ?_ ?_
              ·go_simp
               (try simp only [i64_w])
               try rfl
              refine hK.out _ _ ⟨v603, gb610, m1_, m16_, (by rw [ha.out]; exact putSel_upk 14 hb_ rfl rfl rfl), Q_BK596, Q_HB, fun _ h1_ => absurd ((hon 17 (by kernel_rfl)).symm.trans h1_) (by decide), Q_GW610, Q_GE610, Q_NB596_610, Q_NB610_596, Q_BK610_e17, Q_HO604_e1, Q_HO604_p1_16, Q_X1_, Q_X16_⟩
             exact steps_nil
            rintro b a w39 hall ⟨v603, gb610, m1_, m16_, ha, Q_BK596, Q_HB, Q_BK610, Q_GW610, Q_GE610, Q_NB596_610, Q_NB610_596, Q_BK610_e17, Q_HO604_e1, Q_HO604_p1_16, Q_X1_, Q_X16_⟩
            clear BK596 HB
            have hb0_ := hall 0 (by kernel_rfl)
            have hb1_ := hall 1 (by kernel_rfl)
            have hb3_ := hall 3 (by kernel_rfl)
            have hb5_ := hall 5 (by kernel_rfl)
            have hb6_ := hall 6 (by kernel_rfl)
            have hb7_ := hall 7 (by kernel_rfl)
            have hb8_ := hall 8 (by kernel_rfl)
            have hb9_ := hall 9 (by kernel_rfl)
            have hb10_ := hall 10 (by kernel_rfl)
            have hb12_ := hall 12 (by kernel_rfl)
            have hb13_ := hall 13 (by kernel_rfl)
            have hb14_ := hall 14 (by kernel_rfl)
            have hb15_ := hall 15 (by kernel_rfl)
            have hb16_ := hall 16 (by kernel_rfl)
            have hb17_ := hall 17 (by kernel_rfl)
            have hb18_ := hall 18 (by kernel_rfl)
            subst ha
            obtain rfl := Q_X1_ hb1_
            obtain rfl := Q_X16_ hb16_
            simp only [putSel, hb0_, hb1_, hb3_, hb5_, hb6_, hb7_, hb8_, hb9_, hb10_, hb12_, hb13_, hb14_, hb15_, hb16_, hb17_, hb18_, if_true, Act.put, List.setIfInBounds_toArray, List.set_cons_zero, List.set_cons_succ]
            have BK596 := Aside0.mk Q_BK596
            clear Q_BK596
            have HB := Aside0.mk Q_HB
            clear Q_HB
            clear Q_BK610
            have GW610 := Aside0.mk (Q_GW610 hb16_)
            clear Q_GW610
            have GE610 := Aside0.mk (Q_GE610 hb16_)
            clear Q_GE610
            have NB596_610 := Aside0.mk (Q_NB596_610 hb16_)
            clear Q_NB596_610
            have NB610_596 := Aside0.mk (Q_NB610_596 hb16_)
            clear Q_NB610_596
            have BK610 := Aside0.mk (Q_BK610_e17 hb17_)
            clear Q_BK610_e17
            have HO604 := Aside0.mk (Q_HO604_e1 hb1_)
            clear Q_HO604_e1
            have HO604 := Aside0.mk (Q_HO604_p1_16 hb1_ hb16_)
            clear Q_HO604_p1_16
            clear hall hb0_ hb1_ hb3_ hb5_ hb6_ hb7_ hb8_ hb9_ hb10_ hb12_ hb13_ hb14_ hb15_ hb16_ hb17_ hb18_
            have hnb40 := NB596_610.out
            have hnc40 := NB610_596.out
            obtain ⟨hcz41_0, hcz41_1, hcz41_2, hcz41_3, hfz41_0, hfz41_1, hfz41_2, hfz41_3⟩ := GS.c4 BK596.out
            try go_wp2_with (first | ((with_reducible refine gqC (f := 17) rfl ?_); refine GS.gL (some 39) Try.func17 #[.agg #[.string a0_0, .int .i64 a0_1, .slice (some ad606) l0_2.length c0_2, .int .i64 a0_3]] ?_; (with_reducible refine (spilelaw12_own.calls kj4 a0_0 a0_1 (fun k_ => k_ < w.heap.size) _ _ l0_2 a0_3 t611 t612 t613 t616 _ ?side1 A23.out).mono ?_); (case side1 => exact Kd.V_mk HC0_2.out (Kd.F_below (Kd.C_F k33_heap HR0_2.out) (GS.lB HB.out))); rintro e w42 ⟨v614, rfl, ho0, hb⟩; refine ⟨_, rfl, ?_⟩; have n0_ := Aside0.mk (Kd.V_below (by (with_reducible repeat (first | apply Kd.V_alloc | apply Kd.V_drewN | apply Kd.V_drew)); exact HO604.out) hb); have n1_ := Aside0.mk (Kd.V_lower (Kd.V_mono (ok' := fun k_ => k_ ≠ gb596 ∧ k_ ≠ gb610) ho0 (fun k_ hk_ => ⟨Or.elim hk_ (fun hs_ => fun e_ => Nat.not_le.2 hs_ (by rw [e_]; exact GW596.out)) (fun hn_ => (Kd.freshB (GS.bqX BK596.out) k_ hn_)), Or.elim hk_ (fun hs_ => fun e_ => Nat.not_le.2 hs_ (by rw [e_]; exact GW610.out)) (fun hn_ => (Kd.freshB (GS.bqX BK610.out) k_ hn_))⟩)) (lqZ (GS.lB HB.out))); have n2_ := Aside0.mk (bqB (GS.bqX BK596.out) hb); have n3_ := Aside0.mk (bqB (GS.bqX BK610.out) hb); have n4_ := Aside0.mk (lqT (GS.lB HB.out) hb); clear HO604; clear BK596; clear BK610; clear HB; have HO604 := n0_; have HO615 := n1_; have BK596 := n2_; have BK610 := n3_; have HB := n4_; clear n0_ n1_ n2_ n3_ n4_; (try clear hb); (try clear hb2); (try clear hk); (try clear hi); (try clear ho0); obtain ⟨Ao43, co43, eo43⟩ := Kd.V_slice HO615.out; subst eo43) | ((with_reducible refine gqC (f := 25) rfl ?_); refine GS.gL (some 41) Try.func25 #[.agg #[.string t611, .int .i64 t612, .slice Ao43 t613.length co43, .int .i64 t616], .int .i64 0, .int .i64 a1] ?_; (with_reducible refine (standing_Wet.calls kj4 t611 t612 _ _ t613 t616 0 a1 t617 t618 t619 _ ?side1 ?side2 A24.out).mono ?_); (case side1 => repeat (first | exact (Kd.V_reads' HO615.out).2.2 | (with_reducible refine Kd.C_alloc ?_ _) | (with_reducible refine Kd.C_drewN ?_ _) | (with_reducible refine Kd.C_drew ?_))); (case side2 => exact (Kd.V_reads' HO615.out).2.1); rintro e w44 ⟨rfl, hb⟩; refine ⟨_, rfl, ?_⟩; have n0_ := Aside0.mk (Kd.V_below (by (with_reducible repeat (first | apply Kd.V_alloc | apply Kd.V_drewN | apply Kd.V_drew)); exact HO604.out) hb); have n1_ := Aside0.mk (Kd.V_below (by (with_reducible repeat (first | apply Kd.V_alloc | apply Kd.V_drewN | apply Kd.V_drew)); exact HO615.out) hb); have n2_ := Aside0.mk (bqB (GS.bqX BK596.out) hb); have n3_ := Aside0.mk (bqB (GS.bqX BK610.out) hb); have n4_ := Aside0.mk (lqT (GS.lB HB.out) hb); clear HO604; clear HO615; clear BK596; clear BK610; clear HB; have HO604 := n0_; have HO615 := n1_; have BK596 := n2_; have BK610 := n3_; have HB := n4_; clear n0_ n1_ n2_ n3_ n4_; (try clear hb); (try clear hb2); (try clear hk); (try clear hi)) | ((with_reducible refine gqD (N := 7) rfl ?_); refine GS.bx (N := 7) (cs := #[.int .i64 0, .int .i64 0]) (t := 40) ?_; intro gb620 hg w45 hbox hb; have n0_ := Aside0.mk (Kd.V_below (Kd.V_elderB (by (with_reducible repeat (first | apply Kd.V_alloc | apply Kd.V_drewN | apply Kd.V_drew)); exact HO604.out) gb620 (Nat.le_of_eq hg.symm)) hb); have n1_ := Aside0.mk (Kd.V_below (Kd.V_elderB (by (with_reducible repeat (first | apply Kd.V_alloc | apply Kd.V_drewN | apply Kd.V_drew)); exact HO615.out) gb620 (Nat.le_of_eq hg.symm)) hb); have n2_ := Aside0.mk (bqB (GS.bqX BK596.out) hb); have n3_ := Aside0.mk (bqB (GS.bqX BK610.out) hb); have n4_ := Aside0.mk (lqT (GS.lB HB.out) hb); have n5_ := Aside0.mk (hbox); have n6_ := Aside0.mk ((by rw [hg]; exact (lqZ (GS.lB HB.out)) : w.heap.size ≤ gb620)); have n7_ := Aside0.mk ((by rw [hg]; exact (lqZ (GS.lB HB.out)) : w.heap.size ≤ gb620)); have n8_ := Aside0.mk ((by rw [hg]; exact Nat.ne_of_lt (blk_lt (GS.bqX BK596.out)) : gb596 ≠ gb620)); have n9_ := Aside0.mk ((by rw [hg]; exact Nat.ne_of_gt (blk_lt (GS.bqX BK596.out)) : gb620 ≠ gb596)); have n10_ := Aside0.mk ((by rw [hg]; exact Nat.ne_of_lt (blk_lt (GS.bqX BK610.out)) : gb610 ≠ gb620)); have n11_ := Aside0.mk ((by rw [hg]; exact Nat.ne_of_gt (blk_lt (GS.bqX BK610.out)) : gb620 ≠ gb610)); clear HO604; clear HO615; clear BK596; clear BK610; clear HB; have HO604 := n0_; have HO615 := n1_; have BK596 := n2_; have BK610 := n3_; have HB := n4_; have BK620 := n5_; have GW620 := n6_; have GE620 := n7_; have NB596_620 := n8_; have NB620_596 := n9_; have NB610_620 := n10_; have NB620_610 := n11_; clear n0_ n1_ n2_ n3_ n4_ n5_ n6_ n7_ n8_ n9_ n10_ n11_; clear hb hbox hg; have hnb46 := NB620_596.out; have hnc46 := NB596_620.out; have hnb47 := NB620_610.out; have hnc47 := NB610_620.out; obtain ⟨hcz48_0, hcz48_1, hfz48_0, hfz48_1⟩ := GS.c2 BK620.out; obtain ⟨hcz49_0, hcz49_1, hcz49_2, hcz49_3, hfz49_0, hfz49_1, hfz49_2, hfz49_3⟩ := GS.c4 BK596.out) | ((with_reducible refine gqC (f := 13) rfl ?_); refine GS.gL (some 57) Try.func13 #[.slice (some ad606) l0_2.length c0_2] ?_; (with_reducible refine (clone13.calls _ _ l0_2 t621 _ ?side1 ?side2 A26.out).mono ?_); (case side1 => exact Kd.C_below HR0_2.out (GS.lB HB.out)); (case side2 => exact HC0_2.out); rintro e w50 ⟨v622, rfl, ho0, hb⟩; refine ⟨_, rfl, ?_⟩; have n0_ := Aside0.mk (Kd.V_elder' (by (with_reducible repeat (first | apply Kd.V_alloc | apply Kd.V_drewN | apply Kd.V_drew)); exact (Kd.V_mono (Kd.V_far (p := ⟨gb620, 1, none⟩) (Kd.V_far (p := ⟨gb620, 0, none⟩) (Kd.V_mono HO604.out (fun k_ hk => (⟨hk, GS.cj hk⟩ : _ ∧ k_ ≠ gb620))) (fun _ hk => hk.2) (.int .i64 t617)) (fun _ hk => hk.2) (.int .i64 t618)) (fun _ h_ => h_.1))) (Kd.R_base ho0) hb); have n1_ := Aside0.mk (Kd.V_elder' (by (with_reducible repeat (first | apply Kd.V_alloc | apply Kd.V_drewN | apply Kd.V_drew)); exact (Kd.V_mono (Kd.V_far (p := ⟨gb620, 1, none⟩) (Kd.V_far (p := ⟨gb620, 0, none⟩) (Kd.V_mono HO615.out (fun k_ hk => (⟨hk, GS.cj hk⟩ : _ ∧ k_ ≠ gb620))) (fun _ hk => hk.2) (.int .i64 t617)) (fun _ hk => hk.2) (.int .i64 t618)) (fun _ h_ => h_.1))) (Kd.R_base ho0) hb); have n2_ := Aside0.mk (Kd.R_lower ho0 (lqZ (GS.lB HB.out))); have n3_ := Aside0.mk (bqB (GS.bqX BK596.out) hb); have n4_ := Aside0.mk (bqB (GS.bqX BK610.out) hb); have n5_ := Aside0.mk (bqB (g := gb620) (o := .cells #[.int .i64 t617, .int .i64 t618] 40 (0, 0)) (GS.bqZ BK620.out) hb); have n6_ := Aside0.mk (lqT (GS.lB HB.out) hb); clear HO604; clear HO615; clear BK596; clear BK610; clear BK620; clear HB; have HO604 := n0_; have HO615 := n1_; have HO623 := n2_; have BK596 := n3_; have BK610 := n4_; have BK620 := n5_; have HB := n6_; clear n0_ n1_ n2_ n3_ n4_ n5_ n6_; (try clear hb); (try clear hb2); (try clear hk); (try clear hi); (try clear ho0); obtain ⟨Ao51, co51, eo51⟩ := Kd.R_slice HO623.out; subst eo51) | ((with_reducible refine gqC (f := 29) rfl ?_); refine GS.gL (some 58) Try.func29 #[.slice Ao51 t621.length co51] ?_; (with_reducible refine (capacity_Space.calls _ _ t621 t624 t625 t626 _ ?side1 ?side2 A27.out).mono ?_); (case side1 => repeat (first | exact (Kd.R_reads' HO623.out).2.2 | (with_reducible refine Kd.C_alloc ?_ _) | (with_reducible refine Kd.C_drewN ?_ _) | (with_reducible refine Kd.C_drew ?_))); (case side2 => exact (Kd.R_reads' HO623.out).2.1); rintro e w52 ⟨rfl, hb⟩; refine ⟨_, rfl, ?_⟩; have n0_ := Aside0.mk (Kd.V_below (by (with_reducible repeat (first | apply Kd.V_alloc | apply Kd.V_drewN | apply Kd.V_drew)); exact HO604.out) hb); have n1_ := Aside0.mk (Kd.V_below (by (with_reducible repeat (first | apply Kd.V_alloc | apply Kd.V_drewN | apply Kd.V_drew)); exact HO615.out) hb); have n2_ := Aside0.mk (Kd.R_below (GS.rR HO623.out) hb); have n3_ := Aside0.mk (bqB (GS.bqX BK596.out) hb); have n4_ := Aside0.mk (bqB (GS.bqX BK610.out) hb); have n5_ := Aside0.mk (bqB (GS.bqX BK620.out) hb); have n6_ := Aside0.mk (lqT (GS.lB HB.out) hb); clear HO604; clear HO615; clear HO623; clear BK596; clear BK610; clear BK620; clear HB; have HO604 := n0_; have HO615 := n1_; have HO623 := n2_; have BK596 := n3_; have BK610 := n4_; have BK620 := n5_; have HB := n6_; clear n0_ n1_ n2_ n3_ n4_ n5_ n6_; (try clear hb); (try clear hb2); (try clear hk); (try clear hi)) | ((with_reducible refine gqD (N := 9) rfl ?_); refine GS.bx (N := 9) (cs := #[.int .i64 0, .int .i64 0]) (t := 40) ?_; intro gb627 hg w53 hbox hb; have n0_ := Aside0.mk (Kd.V_below (Kd.V_elderB (by (with_reducible repeat (first | apply Kd.V_alloc | apply Kd.V_drewN | apply Kd.V_drew)); exact HO604.out) gb627 (Nat.le_of_eq hg.symm)) hb); have n1_ := Aside0.mk (Kd.V_below (Kd.V_elderB (by (with_reducible repeat (first | apply Kd.V_alloc | apply Kd.V_drewN | apply Kd.V_drew)); exact HO615.out) gb627 (Nat.le_of_eq hg.symm)) hb); have n2_ := Aside0.mk (Kd.R_below (GS.rR HO623.out) hb); have n3_ := Aside0.mk (bqB (GS.bqX BK596.out) hb); have n4_ := Aside0.mk (bqB (GS.bqX BK610.out) hb); have n5_ := Aside0.mk (bqB (GS.bqX BK620.out) hb); have n6_ := Aside0.mk (lqT (GS.lB HB.out) hb); have n7_ := Aside0.mk (hbox); have n8_ := Aside0.mk ((by rw [hg]; exact (lqZ (GS.lB HB.out)) : w.heap.size ≤ gb627)); have n9_ := Aside0.mk ((by rw [hg]; exact (lqZ (GS.lB HB.out)) : w.heap.size ≤ gb627)); have n10_ := Aside0.mk ((by rw [hg]; exact Nat.ne_of_lt (blk_lt (GS.bqX BK596.out)) : gb596 ≠ gb627)); have n11_ := Aside0.mk ((by rw [hg]; exact Nat.ne_of_gt (blk_lt (GS.bqX BK596.out)) : gb627 ≠ gb596)); have n12_ := Aside0.mk ((by rw [hg]; exact Nat.ne_of_lt (blk_lt (GS.bqX BK610.out)) : gb610 ≠ gb627)); have n13_ := Aside0.mk ((by rw [hg]; exact Nat.ne_of_gt (blk_lt (GS.bqX BK610.out)) : gb627 ≠ gb610)); have n14_ := Aside0.mk ((by rw [hg]; exact Nat.ne_of_lt (blk_lt (GS.bqX BK620.out)) : gb620 ≠ gb627)); have n15_ := Aside0.mk ((by rw [hg]; exact Nat.ne_of_gt (blk_lt (GS.bqX BK620.out)) : gb627 ≠ gb620)); clear HO604; clear HO615; clear HO623; clear BK596; clear BK610; clear BK620; clear HB; have HO604 := n0_; have HO615 := n1_; have HO623 := n2_; have BK596 := n3_; have BK610 := n4_; have BK620 := n5_; have HB := n6_; have BK627 := n7_; have GW627 := n8_; have GE627 := n9_; have NB596_627 := n10_; have NB627_596 := n11_; have NB610_627 := n12_; have NB627_610 := n13_; have NB620_627 := n14_; have NB627_620 := n15_; clear n0_ n1_ n2_ n3_ n4_ n5_ n6_ n7_ n8_ n9_ n10_ n11_ n12_ n13_ n14_ n15_; clear hb hbox hg; have hnb54 := NB627_596.out; have hnc54 := NB596_627.out; have hnb55 := NB627_610.out; have hnc55 := NB610_627.out; have hnb56 := NB627_620.out; have hnc56 := NB620_627.out; obtain ⟨hcz57_0, hcz57_1, hfz57_0, hfz57_1⟩ := GS.c2 BK627.out; obtain ⟨hcz58_0, hcz58_1, hfz58_0, hfz58_1⟩ := GS.c2 BK620.out; obtain ⟨hcz59_0, hcz59_1, hfz59_0, hfz59_1⟩ := GS.c2 BK610.out))
            go_ret
            exact ⟨by first | rfl | (simp [errW_none, errW_some] <;> rfl) | (simp only [← hji19]; first | rfl | (simp [errW_none, errW_some] <;> rfl)) | (simp [*, errW_none, errW_some] <;> rfl), GS.lB HB.out⟩
           ·rw [if_neg c31] at H
            exact absurd H (by simp)
          ·rw [if_neg c30] at H
           exact absurd H (by simp)
         ·rw [if_neg c29] at H
          exact absurd H (by simp)
        ·rw [if_neg c28] at H
         exact absurd H (by simp)
       ·rw [if_neg c25] at H
        have c25b0 : (t609 == 0) = false := beq_eq_false_iff_ne.mpr c25
        try simp only [beq_self_eq_true, Bool.not_true, Bool.false_or, Bool.true_and] at c25b0
        have c25b1 : (t609 != 0) = true := bne_iff_ne.mpr c25
        by_cases c60 : t619 = t609
        ·rw [if_pos c60] at H
         have c60b0 : (t619 == t609) = true := beq_iff_eq.mpr c60
         try simp only [beq_self_eq_true, Bool.not_true, Bool.false_or, Bool.true_and] at c60b0
         have c60b1 : (t619 != t609) = false := bne_eq_false_iff_eq.mpr c60
         clear c60
         obtain rfl := Option.some.inj H
         try go_wp2
         have n0_ := Aside0.mk (bqD BK596.out)
         have n1_ := Aside0.mk (lqD HB.out)
         clear BK596
         clear HB
         have BK596 := n0_
         have HB := n1_
         clear n0_ n1_
         have p606 : 0 ≤ ((ji19) : Int) := of_decide_eq_true (by first | (with_reducible assumption) | assumption)
         have q606 : (ji19) < (l0_2.length : Int) := of_decide_eq_true (by first | (with_reducible assumption) | assumption)
         obtain ⟨ad606, e606, hx606_0, hx606_1⟩ := at_T33 HR0_2.out (ji19) p606 q606
         have hw606_1 := hx606_1
         have hw606_0 := hx606_0
         cases e606
         replace hx606_0 := (HB.out.cell (World.block_lt_of_cell? w _ hx606_0)).trans hx606_0
         replace hx606_1 := (HB.out.cell (World.block_lt_of_cell? w _ hx606_1)).trans hx606_1
         replace p606 := eq_true p606
         replace q606 := eq_true q606
         refine start_ (n := 19) (S := fun w' => True) (ds := []) #[false, false, false, false, false, false, false, false, false, false, false, false, false, false, false, false, false, false, false] (by kernel_rfl) rfl rfl trivial (fun hHeld => ?_); refine with_tabW spilelaw12_StandingFull.tab5 spilelaw12_StandingFull.bits5 (fun HT_ HW_ => ?_)
         generalize wc.drew = w61 at BK596 HB hx606_0 hx606_1 hHeld ⊢
         refine GS.pu 2 (some 24) HT_.out ?_
         refine GS.pu 4 (some 26) HT_.out ?_
         refine GS.pu 11 (some 33) HT_.out ?_
         refine inv_at [0, 1, 3, 5, 6, 7, 8, 9, 10, 12, 13, 14, 15, 16, 17, 18] (fun a0_ b a w' => ∃ (v603 : Value) (gb610 : Nat) (m1_ : Value) (m16_ : Value), a = putSel a0_ b [(0, 22, .agg #[.string a0_0, .int .i64 a0_1, .slice (some ad606) l0_2.length c0_2, .int .i64 a0_3]), (1, 23, m1_), (3, 25, .slice (some ad606) l0_2.length c0_2), (5, 27, .slice (some ad606) l0_2.length c0_2), (6, 28, .int .i64 (l0_2.length : Int)), (7, 29, .int .i64 ji19), (8, 30, .pointer (some (ad606.add (((ji19)).toNat * 2)))), (9, 31, .pointer (some (ad606.add (((ji19)).toNat * 2)))), (10, 32, .int .i64 ((rd_T33 l0_2 (ji19)).f0)), (12, 34, .tuple #[.agg #[.int .i64 t607, .int .i64 t608], .int .i64 t609]), (13, 21, .tuple #[.agg #[.int .i64 t607, .int .i64 t608], .int .i64 t609]), (14, 35, .agg #[.int .i64 t607, .int .i64 t608]), (15, 36, .int .i64 t609), (16, 5, m16_), (18, 6, .int .i64 t609)] ∧ (w'.heap[gb596]? = some (.cells #[.string a0_0, .int .i64 a0_1, .slice (some ad606) l0_2.length c0_2, .int .i64 a0_3] 24 (0, 0))) ∧ (Below w.heap.size w w') ∧ (b 16 = true → b 17 = false → w'.heap[gb610]? = some (.cells #[.int .i64 0, .int .i64 0] 40 (0, 0))) ∧ (b 16 = true → w.heap.size ≤ gb610) ∧ (b 16 = true → w.heap.size ≤ gb610) ∧ (b 16 = true → gb596 ≠ gb610) ∧ (b 16 = true → gb610 ≠ gb596) ∧ (b 17 = true → w'.heap[gb610]? = some (.cells #[.int .i64 t607, .int .i64 t608] 40 (0, 0))) ∧ (b 1 = true → Kd.V k33 33 w' w.heap.size (fun k_ => k_ ≠ gb596) v603 t602) ∧ (b 1 = true → b 16 = true → Kd.V k33 33 w' w.heap.size (fun k_ => k_ ≠ gb596 ∧ k_ ≠ gb610) v603 t602) ∧ (b 1 = true → (m1_ : Value) = .agg #[.string t600, .int .i64 t601, v603, .int .i64 t605]) ∧ (b 16 = true → (m16_ : Value) = .pointer (some ⟨gb610, 0, none⟩))) HT_.out HW_.out (by kernel_rfl) (by kernel_rfl) ?_ ?_ ?_
         ·exact ⟨.bool false, 0, .bool false, .bool false, by simp only [putSel, Bool.false_eq_true, if_false], BK596.out, HB.out, fun h_ => absurd h_ (by decide), fun h_ => absurd h_ (by decide), fun h_ => absurd h_ (by decide), fun h_ => absurd h_ (by decide), fun h_ => absurd h_ (by decide), fun h_ => absurd h_ (by decide), fun h_ => absurd h_ (by decide), fun h_ => absurd h_ (by decide), fun h_ => absurd h_ (by decide), fun h_ => absurd h_ (by decide)⟩
         ·skip
          clear BK596 HB
          refine steps_cons ?_ ?_
          ·rintro b a w' ⟨v603, gb610, m1_, m16_, ha, Q_BK596, Q_HB, Q_BK610, Q_GW610, Q_GE610, Q_NB596_610, Q_NB610_596, Q_BK610_e17, Q_HO604_e1, Q_HO604_p1_16, Q_X1_, Q_X16_⟩ hb_ hon hoff
           refine ⟨_, rfl, fun K hK => ?_⟩
           have e2 : a.tmps[2]? = some (.pointer (some ⟨gb596, 0, none⟩)) := by rw [ha]; exact (putSel_off rfl).trans rfl
           replace ha := Aside0.mk ha
           have BK596 := Aside0.mk Q_BK596
           have HB := Aside0.mk Q_HB
           have hc0_ : w'.cell? ⟨gb596, 0, none⟩ = some (.string a0_0) := (bqC BK596.out 0).trans rfl
           have hc1_ : w'.cell? ⟨gb596, 1, none⟩ = some (.int .i64 a0_1) := (bqC BK596.out 1).trans rfl
           have hc2_ : w'.cell? ⟨gb596, 2, none⟩ = some (.slice (some ad606) l0_2.length c0_2) := (bqC BK596.out 2).trans rfl
           have hc3_ : w'.cell? ⟨gb596, 3, none⟩ = some (.int .i64 a0_3) := (bqC BK596.out 3).trans rfl
           refine value_ (w1 := w') (v := .agg #[.string a0_0, .int .i64 a0_1, .slice (some ad606) l0_2.length c0_2, .int .i64 a0_3]) (by rfl) rfl ?_ ?_
           ·go_simp
            (try simp only [i64_w])
            try rfl
           refine hK.out _ _ ⟨v603, gb610, m1_, m16_, (by rw [ha.out]; exact putSel_upk 0 hb_ rfl rfl rfl), Q_BK596, Q_HB, Q_BK610, Q_GW610, Q_GE610, Q_NB596_610, Q_NB610_596, fun h0_ => absurd ((hoff 17 (by kernel_rfl)).symm.trans h0_) (by decide), fun h0_ => absurd ((hoff 1 (by kernel_rfl)).symm.trans h0_) (by decide), fun h0_ _ => absurd ((hoff 1 (by kernel_rfl)).symm.trans h0_) (by decide), fun h0_ => absurd ((hoff 1 (by kernel_rfl)).symm.trans h0_) (by decide), Q_X16_⟩
          refine steps_cons ?_ ?_
          ·rintro b a w' ⟨v603, gb610, m1_, m16_, ha, Q_BK596, Q_HB, Q_BK610, Q_GW610, Q_GE610, Q_NB596_610, Q_NB610_596, Q_BK610_e17, Q_HO604_e1, Q_HO604_p1_16, Q_X1_, Q_X16_⟩ hb_ hon hoff
           refine ⟨_, rfl, fun K hK => ?_⟩
           have e22 : a.tmps[22]? = some (.agg #[.string a0_0, .int .i64 a0_1, .slice (some ad606) l0_2.length c0_2, .int .i64 a0_3]) := by rw [ha]; exact putSel_on (e := (0, 22, .agg #[.string a0_0, .int .i64 a0_1, .slice (some ad606) l0_2.length c0_2, .int .i64 a0_3])) 0 rfl rfl (hon 0 (by kernel_rfl)) rfl
           replace ha := Aside0.mk ha
           have BK596 := Aside0.mk Q_BK596
           have HB := Aside0.mk Q_HB
           refine goes_ Try.func17 (by kernel_rfl) rfl #[.agg #[.string a0_0, .int .i64 a0_1, .slice (some ad606) l0_2.length c0_2, .int .i64 a0_3]] (by rfl) rfl rfl (by first | (simp only [List.map_toArray, List.map_cons, List.map_nil, Act.eval, Array.getD_eq_getD_getElem?, Option.getD_some, e22]; done) | (simp only [List.map_toArray, List.map_cons, List.map_nil, Act.eval, Array.getD_eq_getD_getElem?, Option.getD_some, e22]; rfl)) ?_
           with_reducible refine (spilelaw12_own.calls kj4 a0_0 a0_1 (fun k_ => k_ < w.heap.size) _ _ l0_2 a0_3 t600 t601 t602 t605 _ ?side1 A18.out).mono ?_
           (case side1 => exact Kd.V_mk HC0_2.out (Kd.F_below (Kd.C_F k33_heap HR0_2.out) (GS.lB HB.out)))
           rintro e w62 ⟨v603, rfl, ho0, hb⟩
           refine ⟨_, rfl, ?_⟩
           have n0_ := Aside0.mk (Kd.V_lower (Kd.V_mono (ok' := fun k_ => k_ ≠ gb596) ho0 (fun k_ hk_ => Or.elim hk_ (fun hs_ => fun e_ => Nat.not_le.2 hs_ (by rw [e_]; exact GW596.out)) (fun hn_ => (Kd.freshB (GS.bqX BK596.out) k_ hn_)))) (lqZ (GS.lB HB.out)))
           have n1_ := Aside0.mk (bqB (GS.bqX BK596.out) hb)
           have n2_ := Aside0.mk (lqT (GS.lB HB.out) hb)
           have z_BK610 := fun (h0_ : b 16 = true) (h1_ : b 17 = false) => (show w62.heap[gb610]? = some (.cells #[.int .i64 0, .int .i64 0] 40 (0, 0)) from by first | exact (bqB (GS.bqX (Q_BK610 h0_ h1_)) hb))
           have z_HO604_p1_16 := fun (h0_ : up b 1 1 = true) (h1_ : up b 1 16 = true) => (show Kd.V k33 33 w62 w.heap.size (fun k_ => k_ ≠ gb596 ∧ k_ ≠ gb610) v603 t602 from (Kd.V_lower (Kd.V_mono (ok' := fun k_ => k_ ≠ gb596 ∧ k_ ≠ gb610) ho0 (fun k_ hk_ => ⟨Or.elim hk_ (fun hs_ => fun e_ => Nat.not_le.2 hs_ (by rw [e_]; exact GW596.out)) (fun hn_ => (Kd.freshB (GS.bqX BK596.out) k_ hn_)), Or.elim hk_ (fun hs_ => fun e_ => Nat.not_le.2 hs_ (by rw [e_]; exact (Q_GW610 h1_))) (fun hn_ => (Kd.freshB (GS.bqX (Q_BK610 h1_ (hoff 17 (by kernel_rfl)))) k_ hn_))⟩)) (lqZ (by repeat (first | (with_reducible first | exact HB.out | apply lqA | apply lqN | apply lqD | refine lqS ?_ GE596.out | refine lqS ?_ (Q_GE610 h1_)) | exact HB.out)))))
           clear BK596
           clear HB
           have HO604 := n0_
           have BK596 := n1_
           have HB := n2_
           clear n0_ n1_ n2_
           (try clear hb)
           (try clear hb2)
           (try clear hk)
           (try clear hi)
           (try clear ho0)
           refine hK.out _ _ ⟨v603, gb610, (.agg #[.string t600, .int .i64 t601, v603, .int .i64 t605]), m16_, (by rw [ha.out]; exact putSel_upk 1 hb_ rfl rfl rfl), (GS.bqX BK596.out), (GS.lB HB.out), z_BK610, Q_GW610, Q_GE610, Q_NB596_610, Q_NB610_596, fun h0_ => absurd ((hoff 17 (by kernel_rfl)).symm.trans h0_) (by decide), fun _ => (by (with_reducible repeat (first | apply Kd.V_alloc | apply Kd.V_drewN | apply Kd.V_drew)); exact HO604.out), z_HO604_p1_16, fun _ => rfl, Q_X16_⟩
          refine steps_cons ?_ ?_
          ·rintro b a w' ⟨v603, gb610, m1_, m16_, ha, Q_BK596, Q_HB, Q_BK610, Q_GW610, Q_GE610, Q_NB596_610, Q_NB610_596, Q_BK610_e17, Q_HO604_e1, Q_HO604_p1_16, Q_X1_, Q_X16_⟩ hb_ hon hoff
           refine ⟨_, rfl, fun K hK => ?_⟩
           have e24 : a.tmps[24]? = some (.pointer (some ⟨gb596, 2, none⟩)) := by rw [ha]; exact (putSel_off rfl).trans rfl
           replace ha := Aside0.mk ha
           have BK596 := Aside0.mk Q_BK596
           have HB := Aside0.mk Q_HB
           have hc0_ : w'.cell? ⟨gb596, 0, none⟩ = some (.string a0_0) := (bqC BK596.out 0).trans rfl
           have hc1_ : w'.cell? ⟨gb596, 1, none⟩ = some (.int .i64 a0_1) := (bqC BK596.out 1).trans rfl
           have hc2_ : w'.cell? ⟨gb596, 2, none⟩ = some (.slice (some ad606) l0_2.length c0_2) := (bqC BK596.out 2).trans rfl
           have hc3_ : w'.cell? ⟨gb596, 3, none⟩ = some (.int .i64 a0_3) := (bqC BK596.out 3).trans rfl
           refine value_ (w1 := w') (v := .slice (some ad606) l0_2.length c0_2) (by rfl) rfl ?_ ?_
           ·go_simp
            (try simp only [i64_w])
            try rfl
           refine hK.out _ _ ⟨v603, gb610, m1_, m16_, (by rw [ha.out]; exact putSel_upk 2 hb_ rfl rfl rfl), Q_BK596, Q_HB, Q_BK610, Q_GW610, Q_GE610, Q_NB596_610, Q_NB610_596, fun h0_ => absurd ((hoff 17 (by kernel_rfl)).symm.trans h0_) (by decide), Q_HO604_e1, Q_HO604_p1_16, Q_X1_, Q_X16_⟩
          refine steps_cons ?_ ?_
          ·rintro b a w' ⟨v603, gb610, m1_, m16_, ha, Q_BK596, Q_HB, Q_BK610, Q_GW610, Q_GE610, Q_NB596_610, Q_NB610_596, Q_BK610_e17, Q_HO604_e1, Q_HO604_p1_16, Q_X1_, Q_X16_⟩ hb_ hon hoff
           refine ⟨_, rfl, fun K hK => ?_⟩
           have e26 : a.tmps[26]? = some (.pointer (some ⟨gb596, 2, none⟩)) := by rw [ha]; exact (putSel_off rfl).trans rfl
           replace ha := Aside0.mk ha
           have BK596 := Aside0.mk Q_BK596
           have HB := Aside0.mk Q_HB
           have hc0_ : w'.cell? ⟨gb596, 0, none⟩ = some (.string a0_0) := (bqC BK596.out 0).trans rfl
           have hc1_ : w'.cell? ⟨gb596, 1, none⟩ = some (.int .i64 a0_1) := (bqC BK596.out 1).trans rfl
           have hc2_ : w'.cell? ⟨gb596, 2, none⟩ = some (.slice (some ad606) l0_2.length c0_2) := (bqC BK596.out 2).trans rfl
           have hc3_ : w'.cell? ⟨gb596, 3, none⟩ = some (.int .i64 a0_3) := (bqC BK596.out 3).trans rfl
           refine value_ (w1 := w') (v := .slice (some ad606) l0_2.length c0_2) (by rfl) rfl ?_ ?_
           ·go_simp
            (try simp only [i64_w])
            try rfl
           refine hK.out _ _ ⟨v603, gb610, m1_, m16_, (by rw [ha.out]; exact putSel_upk 3 hb_ rfl rfl rfl), Q_BK596, Q_HB, Q_BK610, Q_GW610, Q_GE610, Q_NB596_610, Q_NB610_596, fun h0_ => absurd ((hoff 17 (by kernel_rfl)).symm.trans h0_) (by decide), Q_HO604_e1, Q_HO604_p1_16, Q_X1_, Q_X16_⟩
          refine steps_cons ?_ ?_
          ·rintro b a w' ⟨v603, gb610, m1_, m16_, ha, Q_BK596, Q_HB, Q_BK610, Q_GW610, Q_GE610, Q_NB596_610, Q_NB610_596, Q_BK610_e17, Q_HO604_e1, Q_HO604_p1_16, Q_X1_, Q_X16_⟩ hb_ hon hoff
           refine ⟨_, rfl, fun K hK => ?_⟩
           have e27 : a.tmps[27]? = some (.slice (some ad606) l0_2.length c0_2) := by rw [ha]; exact putSel_on (e := (5, 27, .slice (some ad606) l0_2.length c0_2)) 3 rfl rfl (hon 5 (by kernel_rfl)) rfl
           replace ha := Aside0.mk ha
           have BK596 := Aside0.mk Q_BK596
           have HB := Aside0.mk Q_HB
           refine value_ (w1 := w') (v := .int .i64 (l0_2.length : Int)) (by rfl) rfl ?_ ?_
           ·go_simp
            (try simp only [i64_w])
            try rfl
           refine hK.out _ _ ⟨v603, gb610, m1_, m16_, (by rw [ha.out]; exact putSel_upk 4 hb_ rfl rfl rfl), Q_BK596, Q_HB, Q_BK610, Q_GW610, Q_GE610, Q_NB596_610, Q_NB610_596, fun h0_ => absurd ((hoff 17 (by kernel_rfl)).symm.trans h0_) (by decide), Q_HO604_e1, Q_HO604_p1_16, Q_X1_, Q_X16_⟩
          refine steps_cons ?_ ?_
          ·rintro b a w' ⟨v603, gb610, m1_, m16_, ha, Q_BK596, Q_HB, Q_BK610, Q_GW610, Q_GE610, Q_NB596_610, Q_NB610_596, Q_BK610_e17, Q_HO604_e1, Q_HO604_p1_16, Q_X1_, Q_X16_⟩ hb_ hon hoff
           refine ⟨_, rfl, fun K hK => ?_⟩
           have e28 : a.tmps[28]? = some (.int .i64 (l0_2.length : Int)) := by rw [ha]; exact putSel_on (e := (6, 28, .int .i64 (l0_2.length : Int))) 4 rfl rfl (hon 6 (by kernel_rfl)) rfl
           replace ha := Aside0.mk ha
           have BK596 := Aside0.mk Q_BK596
           have HB := Aside0.mk Q_HB
           refine value_ (w1 := w') (v := .int .i64 ji19) (by rfl) rfl ?_ ?_
           ·go_simp
            (try simp only [i64_w])
            try rfl
           refine hK.out _ _ ⟨v603, gb610, m1_, m16_, (by rw [ha.out]; exact putSel_upk 5 hb_ rfl rfl rfl), Q_BK596, Q_HB, Q_BK610, Q_GW610, Q_GE610, Q_NB596_610, Q_NB610_596, fun h0_ => absurd ((hoff 17 (by kernel_rfl)).symm.trans h0_) (by decide), Q_HO604_e1, Q_HO604_p1_16, Q_X1_, Q_X16_⟩
          refine steps_cons ?_ ?_
          ·rintro b a w' ⟨v603, gb610, m1_, m16_, ha, Q_BK596, Q_HB, Q_BK610, Q_GW610, Q_GE610, Q_NB596_610, Q_NB610_596, Q_BK610_e17, Q_HO604_e1, Q_HO604_p1_16, Q_X1_, Q_X16_⟩ hb_ hon hoff
           refine ⟨_, rfl, fun K hK => ?_⟩
           have e25 : a.tmps[25]? = some (.slice (some ad606) l0_2.length c0_2) := by rw [ha]; exact putSel_on (e := (3, 25, .slice (some ad606) l0_2.length c0_2)) 2 rfl rfl (hon 3 (by kernel_rfl)) rfl
           have e29 : a.tmps[29]? = some (.int .i64 ji19) := by rw [ha]; exact putSel_on (e := (7, 29, .int .i64 ji19)) 5 rfl rfl (hon 7 (by kernel_rfl)) rfl
           replace ha := Aside0.mk ha
           have BK596 := Aside0.mk Q_BK596
           have HB := Aside0.mk Q_HB
           have hs0_ : w'.cell? (ad606.add (((ji19)).toNat * 2)) = some (.int .i64 ((rd_T33 l0_2 (ji19)).f0)) := ((HB.out.cell (World.block_lt_of_cell? w _ hw606_0)).trans hw606_0)
           have hs1_ : w'.cell? ⟨(ad606.add (((ji19)).toNat * 2)).block, (ad606.add (((ji19)).toNat * 2)).off + 1, none⟩ = some (.int .i64 ((rd_T33 l0_2 (ji19)).f1)) := ((HB.out.cell (World.block_lt_of_cell? w _ hw606_1)).trans hw606_1)
           refine value_ (w1 := w') (v := .pointer (some (ad606.add (((ji19)).toNat * 2)))) (by rfl) rfl ?_ ?_
           ·go_simp
            (try simp only [i64_w])
            try rfl
           refine hK.out _ _ ⟨v603, gb610, m1_, m16_, (by rw [ha.out]; exact putSel_upk 6 hb_ rfl rfl rfl), Q_BK596, Q_HB, Q_BK610, Q_GW610, Q_GE610, Q_NB596_610, Q_NB610_596, fun h0_ => absurd ((hoff 17 (by kernel_rfl)).symm.trans h0_) (by decide), Q_HO604_e1, Q_HO604_p1_16, Q_X1_, Q_X16_⟩
          refine steps_cons ?_ ?_
          ·rintro b a w' ⟨v603, gb610, m1_, m16_, ha, Q_BK596, Q_HB, Q_BK610, Q_GW610, Q_GE610, Q_NB596_610, Q_NB610_596, Q_BK610_e17, Q_HO604_e1, Q_HO604_p1_16, Q_X1_, Q_X16_⟩ hb_ hon hoff
           refine ⟨_, rfl, fun K hK => ?_⟩
           have e30 : a.tmps[30]? = some (.pointer (some (ad606.add (((ji19)).toNat * 2)))) := by rw [ha]; exact putSel_on (e := (8, 30, .pointer (some (ad606.add (((ji19)).toNat * 2))))) 6 rfl rfl (hon 8 (by kernel_rfl)) rfl
           replace ha := Aside0.mk ha
           have BK596 := Aside0.mk Q_BK596
           have HB := Aside0.mk Q_HB
           refine value_ (w1 := w') (v := .pointer (some (ad606.add (((ji19)).toNat * 2)))) (by rfl) rfl ?_ ?_
           ·go_simp
            (try simp only [i64_w])
            try rfl
           refine hK.out _ _ ⟨v603, gb610, m1_, m16_, (by rw [ha.out]; exact putSel_upk 7 hb_ rfl rfl rfl), Q_BK596, Q_HB, Q_BK610, Q_GW610, Q_GE610, Q_NB596_610, Q_NB610_596, fun h0_ => absurd ((hoff 17 (by kernel_rfl)).symm.trans h0_) (by decide), Q_HO604_e1, Q_HO604_p1_16, Q_X1_, Q_X16_⟩
          refine steps_cons ?_ ?_
          ·rintro b a w' ⟨v603, gb610, m1_, m16_, ha, Q_BK596, Q_HB, Q_BK610, Q_GW610, Q_GE610, Q_NB596_610, Q_NB610_596, Q_BK610_e17, Q_HO604_e1, Q_HO604_p1_16, Q_X1_, Q_X16_⟩ hb_ hon hoff
           refine ⟨_, rfl, fun K hK => ?_⟩
           have e31 : a.tmps[31]? = some (.pointer (some (ad606.add (((ji19)).toNat * 2)))) := by rw [ha]; exact putSel_on (e := (9, 31, .pointer (some (ad606.add (((ji19)).toNat * 2))))) 7 rfl rfl (hon 9 (by kernel_rfl)) rfl
           replace ha := Aside0.mk ha
           have BK596 := Aside0.mk Q_BK596
           have HB := Aside0.mk Q_HB
           have hs0_ : w'.cell? (ad606.add (((ji19)).toNat * 2)) = some (.int .i64 ((rd_T33 l0_2 (ji19)).f0)) := ((HB.out.cell (World.block_lt_of_cell? w _ hw606_0)).trans hw606_0)
           have hs1_ : w'.cell? ⟨(ad606.add (((ji19)).toNat * 2)).block, (ad606.add (((ji19)).toNat * 2)).off + 1, none⟩ = some (.int .i64 ((rd_T33 l0_2 (ji19)).f1)) := ((HB.out.cell (World.block_lt_of_cell? w _ hw606_1)).trans hw606_1)
           refine value_ (w1 := w') (v := .int .i64 ((rd_T33 l0_2 (ji19)).f0)) (by rfl) rfl ?_ ?_
           ·go_simp
            (try simp only [i64_w])
            try rfl
           refine hK.out _ _ ⟨v603, gb610, m1_, m16_, (by rw [ha.out]; exact putSel_upk 8 hb_ rfl rfl rfl), Q_BK596, Q_HB, Q_BK610, Q_GW610, Q_GE610, Q_NB596_610, Q_NB610_596, fun h0_ => absurd ((hoff 17 (by kernel_rfl)).symm.trans h0_) (by decide), Q_HO604_e1, Q_HO604_p1_16, Q_X1_, Q_X16_⟩
          refine steps_cons ?_ ?_
          ·rintro b a w' ⟨v603, gb610, m1_, m16_, ha, Q_BK596, Q_HB, Q_BK610, Q_GW610, Q_GE610, Q_NB596_610, Q_NB610_596, Q_BK610_e17, Q_HO604_e1, Q_HO604_p1_16, Q_X1_, Q_X16_⟩ hb_ hon hoff
           refine ⟨_, rfl, fun K hK => ?_⟩
           have e23 : a.tmps[23]? = some (m1_) := by rw [ha]; exact putSel_on (e := (1, 23, m1_)) 1 rfl rfl (hon 1 (by kernel_rfl)) rfl
           rw [Q_X1_ (hon 1 (by kernel_rfl))] at e23
           have e32 : a.tmps[32]? = some (.int .i64 ((rd_T33 l0_2 (ji19)).f0)) := by rw [ha]; exact putSel_on (e := (10, 32, .int .i64 ((rd_T33 l0_2 (ji19)).f0))) 8 rfl rfl (hon 10 (by kernel_rfl)) rfl
           have e33 : a.tmps[33]? = some (.int .i64 a1) := by rw [ha]; exact (putSel_off rfl).trans rfl
           replace ha := Aside0.mk ha
           have BK596 := Aside0.mk Q_BK596
           have HB := Aside0.mk Q_HB
           have HO604 := Aside0.mk (Q_HO604_e1 (hon 1 (by kernel_rfl)))
           obtain ⟨Ao64, co64, eo64⟩ := Kd.V_slice HO604.out
           (first | subst eo64 | (injection eo64 with f1_ f2_ f3_; have f4_ := f1_.symm; have f5_ := f3_.symm; clear f1_ f2_ f3_; subst f4_; subst f5_))
           refine goes_ Try.func25 (by kernel_rfl) rfl #[.agg #[.string t600, .int .i64 t601, .slice Ao64 t602.length co64, .int .i64 t605], .int .i64 ((rd_T33 l0_2 (ji19)).f0), .int .i64 a1] (by rfl) rfl rfl (by (try simp only [List.map_toArray, List.map_cons, List.map_nil]); first | done | (go_simp; done) | (simp only [hji19]; rfl) | rfl | (simp only [List.length_drop, List.length_take]; rfl)) ?_
           with_reducible refine (standing_Wet.calls kj4 t600 t601 _ _ t602 t605 ((rd_T33 l0_2 (ji19)).f0) a1 t607 t608 t609 _ ?side1 ?side2 A22.out).mono ?_
           (case side1 => repeat (first | exact (Kd.V_reads' HO604.out).2.2 | (with_reducible refine Kd.C_alloc ?_ _) | (with_reducible refine Kd.C_drewN ?_ _) | (with_reducible refine Kd.C_drew ?_)))
           (case side2 => exact (Kd.V_reads' HO604.out).2.1)
           rintro e w65 ⟨rfl, hb⟩
           refine ⟨_, rfl, ?_⟩
           have n0_ := Aside0.mk (Kd.V_below (by (with_reducible repeat (first | apply Kd.V_alloc | apply Kd.V_drewN | apply Kd.V_drew)); exact HO604.out) hb)
           have n1_ := Aside0.mk (bqB (GS.bqX BK596.out) hb)
           have n2_ := Aside0.mk (lqT (GS.lB HB.out) hb)
           have z_BK610 := fun (h0_ : b 16 = true) (h1_ : b 17 = false) => (show w65.heap[gb610]? = some (.cells #[.int .i64 0, .int .i64 0] 40 (0, 0)) from by first | exact (bqB (GS.bqX (Q_BK610 h0_ h1_)) hb))
           have z_HO604_p1_16 := fun (h0_ : b 1 = true) (h1_ : b 16 = true) => (show Kd.V k33 33 w65 w.heap.size (fun k_ => k_ ≠ gb596 ∧ k_ ≠ gb610) (.slice Ao64 t602.length co64) t602 from by first | exact (Kd.V_below (by (with_reducible repeat (first | apply Kd.V_alloc | apply Kd.V_drewN | apply Kd.V_drew)); exact (Q_HO604_p1_16 h0_ h1_)) hb) | exact Kd.V_mono (Kd.V_below (by (with_reducible repeat (first | apply Kd.V_alloc | apply Kd.V_drewN | apply Kd.V_drew)); exact (Q_HO604_p1_16 h0_ h1_)) hb) (fun _ hk => GS.cj hk))
           clear HO604
           clear BK596
           clear HB
           have HO604 := n0_
           have BK596 := n1_
           have HB := n2_
           clear n0_ n1_ n2_
           (try clear hb)
           (try clear hb2)
           (try clear hk)
           (try clear hi)
           refine hK.out _ _ ⟨.slice Ao64 t602.length co64, gb610, m1_, m16_, (by rw [ha.out]; exact putSel_upk 9 hb_ rfl rfl rfl), (GS.bqX BK596.out), (GS.lB HB.out), z_BK610, Q_GW610, Q_GE610, Q_NB596_610, Q_NB610_596, fun h0_ => absurd ((hoff 17 (by kernel_rfl)).symm.trans h0_) (by decide), fun _ => (by (with_reducible repeat (first | apply Kd.V_alloc | apply Kd.V_drewN | apply Kd.V_drew)); exact HO604.out), z_HO604_p1_16, Q_X1_, Q_X16_⟩
          refine steps_cons ?_ ?_
          ·rintro b a w' ⟨v603, gb610, m1_, m16_, ha, Q_BK596, Q_HB, Q_BK610, Q_GW610, Q_GE610, Q_NB596_610, Q_NB610_596, Q_BK610_e17, Q_HO604_e1, Q_HO604_p1_16, Q_X1_, Q_X16_⟩ hb_ hon hoff
           refine ⟨_, rfl, fun K hK => ?_⟩
           have e34 : a.tmps[34]? = some (.tuple #[.agg #[.int .i64 t607, .int .i64 t608], .int .i64 t609]) := by rw [ha]; exact putSel_on (e := (12, 34, .tuple #[.agg #[.int .i64 t607, .int .i64 t608], .int .i64 t609])) 9 rfl rfl (hon 12 (by kernel_rfl)) rfl
           replace ha := Aside0.mk ha
           have BK596 := Aside0.mk Q_BK596
           have HB := Aside0.mk Q_HB
           have HO604 := Aside0.mk (Q_HO604_e1 (hon 1 (by kernel_rfl)))
           refine value_ (w1 := w') (v := .tuple #[.agg #[.int .i64 t607, .int .i64 t608], .int .i64 t609]) (by rfl) rfl ?_ ?_
           ·go_simp
            (try simp only [i64_w])
            try rfl
           refine hK.out _ _ ⟨v603, gb610, m1_, m16_, (by rw [ha.out]; exact putSel_upk 10 hb_ rfl rfl rfl), Q_BK596, Q_HB, Q_BK610, Q_GW610, Q_GE610, Q_NB596_610, Q_NB610_596, fun h0_ => absurd ((hoff 17 (by kernel_rfl)).symm.trans h0_) (by decide), Q_HO604_e1, Q_HO604_p1_16, Q_X1_, Q_X16_⟩
          refine steps_cons ?_ ?_
          ·rintro b a w' ⟨v603, gb610, m1_, m16_, ha, Q_BK596, Q_HB, Q_BK610, Q_GW610, Q_GE610, Q_NB596_610, Q_NB610_596, Q_BK610_e17, Q_HO604_e1, Q_HO604_p1_16, Q_X1_, Q_X16_⟩ hb_ hon hoff
           refine ⟨_, rfl, fun K hK => ?_⟩
           have e21 : a.tmps[21]? = some (.tuple #[.agg #[.int .i64 t607, .int .i64 t608], .int .i64 t609]) := by rw [ha]; exact putSel_on (e := (13, 21, .tuple #[.agg #[.int .i64 t607, .int .i64 t608], .int .i64 t609])) 10 rfl rfl (hon 13 (by kernel_rfl)) rfl
           replace ha := Aside0.mk ha
           have BK596 := Aside0.mk Q_BK596
           have HB := Aside0.mk Q_HB
           have HO604 := Aside0.mk (Q_HO604_e1 (hon 1 (by kernel_rfl)))
           refine value_ (w1 := w') (v := .agg #[.int .i64 t607, .int .i64 t608]) (by rfl) rfl ?_ ?_
           ·go_simp
            (try simp only [i64_w])
            try rfl
           refine hK.out _ _ ⟨v603, gb610, m1_, m16_, (by rw [ha.out]; exact putSel_upk 11 hb_ rfl rfl rfl), Q_BK596, Q_HB, Q_BK610, Q_GW610, Q_GE610, Q_NB596_610, Q_NB610_596, fun h0_ => absurd ((hoff 17 (by kernel_rfl)).symm.trans h0_) (by decide), Q_HO604_e1, Q_HO604_p1_16, Q_X1_, Q_X16_⟩
          refine steps_cons ?_ ?_
          ·rintro b a w' ⟨v603, gb610, m1_, m16_, ha, Q_BK596, Q_HB, Q_BK610, Q_GW610, Q_GE610, Q_NB596_610, Q_NB610_596, Q_BK610_e17, Q_HO604_e1, Q_HO604_p1_16, Q_X1_, Q_X16_⟩ hb_ hon hoff
           refine ⟨_, rfl, fun K hK => ?_⟩
           have e21 : a.tmps[21]? = some (.tuple #[.agg #[.int .i64 t607, .int .i64 t608], .int .i64 t609]) := by rw [ha]; exact putSel_on (e := (13, 21, .tuple #[.agg #[.int .i64 t607, .int .i64 t608], .int .i64 t609])) 10 rfl rfl (hon 13 (by kernel_rfl)) rfl
           replace ha := Aside0.mk ha
           have BK596 := Aside0.mk Q_BK596
           have HB := Aside0.mk Q_HB
           have HO604 := Aside0.mk (Q_HO604_e1 (hon 1 (by kernel_rfl)))
           refine value_ (w1 := w') (v := .int .i64 t609) (by rfl) rfl ?_ ?_
           ·go_simp
            (try simp only [i64_w])
            try rfl
           refine hK.out _ _ ⟨v603, gb610, m1_, m16_, (by rw [ha.out]; exact putSel_upk 12 hb_ rfl rfl rfl), Q_BK596, Q_HB, Q_BK610, Q_GW610, Q_GE610, Q_NB596_610, Q_NB610_596, Q_BK610_e17, Q_HO604_e1, Q_HO604_p1_16, Q_X1_, Q_X16_⟩
          refine steps_cons ?_ ?_
          ·rintro b a w' ⟨v603, gb610, m1_, m16_, ha, Q_BK596, Q_HB, Q_BK610, Q_GW610, Q_GE610, Q_NB596_610, Q_NB610_596, Q_BK610_e17, Q_HO604_e1, Q_HO604_p1_16, Q_X1_, Q_X16_⟩ hb_ hon hoff
           refine ⟨_, rfl, fun K hK => ?_⟩
           replace ha := Aside0.mk ha
           have BK596 := Aside0.mk Q_BK596
           have HB := Aside0.mk Q_HB
           refine box_step ?hg (N := 5) ?hd (cs := #[.int .i64 0, .int .i64 0]) (t := 40) ?hr ?_; (case hd => rfl); (case hg => rfl); (case hr => first | (go_simp; done) | (go_simp; rfl))
           intro gb610 hg w62 hbox hb
           have n0_ := Aside0.mk (bqB (GS.bqX BK596.out) hb)
           have n1_ := Aside0.mk (lqT (GS.lB HB.out) hb)
           have n2_ := Aside0.mk (hbox)
           have n3_ := Aside0.mk ((by rw [hg]; exact (lqZ (GS.lB HB.out)) : w.heap.size ≤ gb610))
           have n4_ := Aside0.mk ((by rw [hg]; exact (lqZ (GS.lB HB.out)) : w.heap.size ≤ gb610))
           have n5_ := Aside0.mk ((by rw [hg]; exact Nat.ne_of_lt (blk_lt (GS.bqX BK596.out)) : gb596 ≠ gb610))
           have n6_ := Aside0.mk ((by rw [hg]; exact Nat.ne_of_gt (blk_lt (GS.bqX BK596.out)) : gb610 ≠ gb596))
           have z_HO604_e1 := fun (h0_ : b 1 = true) => (show Kd.V k33 33 w62 w.heap.size (fun k_ => k_ ≠ gb596) v603 t602 from by first | exact (Kd.V_below (Kd.V_elderB (by (with_reducible repeat (first | apply Kd.V_alloc | apply Kd.V_drewN | apply Kd.V_drew)); exact (Q_HO604_e1 h0_)) gb610 (Nat.le_of_eq hg.symm)) hb) | exact Kd.V_mono (Kd.V_below (Kd.V_elderB (by (with_reducible repeat (first | apply Kd.V_alloc | apply Kd.V_drewN | apply Kd.V_drew)); exact (Q_HO604_e1 h0_)) gb610 (Nat.le_of_eq hg.symm)) hb) (fun _ hk => GS.cj hk))
           have z_HO604_p1_16 := fun (h0_ : up b 16 1 = true) (h1_ : up b 16 16 = true) => (show Kd.V k33 33 w62 w.heap.size (fun k_ => k_ ≠ gb596 ∧ k_ ≠ gb610) v603 t602 from (Kd.V_below (Kd.V_elderB (by (with_reducible repeat (first | apply Kd.V_alloc | apply Kd.V_drewN | apply Kd.V_drew)); exact (Q_HO604_e1 h0_)) gb610 (Nat.le_of_eq hg.symm)) hb))
           clear BK596
           clear HB
           have BK596 := n0_
           have HB := n1_
           have BK610 := n2_
           have GW610 := n3_
           have GE610 := n4_
           have NB596_610 := n5_
           have NB610_596 := n6_
           clear n0_ n1_ n2_ n3_ n4_ n5_ n6_
           clear hb hbox hg
           refine hK.out _ _ ⟨v603, gb610, m1_, (.pointer (some ⟨gb610, 0, none⟩)), (by rw [ha.out]; exact putSel_upk 13 hb_ rfl rfl rfl), (GS.bqX BK596.out), (GS.lB HB.out), fun _ _ => (GS.bqX BK610.out), fun _ => GW610.out, fun _ => GE610.out, fun _ => NB596_610.out, fun _ => NB610_596.out, fun h0_ => absurd ((hoff 17 (by kernel_rfl)).symm.trans h0_) (by decide), z_HO604_e1, z_HO604_p1_16, Q_X1_, fun _ => rfl⟩
          refine steps_cons ?_ ?_
          ·rintro b a w' ⟨v603, gb610, m1_, m16_, ha, Q_BK596, Q_HB, Q_BK610, Q_GW610, Q_GE610, Q_NB596_610, Q_NB610_596, Q_BK610_e17, Q_HO604_e1, Q_HO604_p1_16, Q_X1_, Q_X16_⟩ hb_ hon hoff
           refine ⟨_, rfl, fun K hK => ?_⟩
           have e5 : a.tmps[5]? = some (m16_) := by rw [ha]; exact putSel_on (e := (16, 5, m16_)) 13 rfl rfl (hon 16 (by kernel_rfl)) rfl
           rw [Q_X16_ (hon 16 (by kernel_rfl))] at e5
           have e35 : a.tmps[35]? = some (.agg #[.int .i64 t607, .int .i64 t608]) := by rw [ha]; exact putSel_on (e := (14, 35, .agg #[.int .i64 t607, .int .i64 t608])) 11 rfl rfl (hon 14 (by kernel_rfl)) rfl
           replace ha := Aside0.mk ha
           have BK596 := Aside0.mk Q_BK596
           have HB := Aside0.mk Q_HB
           have BK610 := Aside0.mk (Q_BK610 (hon 16 (by kernel_rfl)) hb_)
           have GW610 := Aside0.mk (Q_GW610 (hon 16 (by kernel_rfl)))
           have GE610 := Aside0.mk (Q_GE610 (hon 16 (by kernel_rfl)))
           have NB596_610 := Aside0.mk (Q_NB596_610 (hon 16 (by kernel_rfl)))
           have NB610_596 := Aside0.mk (Q_NB610_596 (hon 16 (by kernel_rfl)))
           have HO604 := Aside0.mk (Q_HO604_e1 (hon 1 (by kernel_rfl)))
           have HO604 := Aside0.mk (Q_HO604_p1_16 (hon 1 (by kernel_rfl)) (hon 16 (by kernel_rfl)))
           have hs67 : w'.cell? ⟨gb610, 0, none⟩ = some (.int .i64 0) := (bqC BK610.out 0).trans rfl
           have hfs67 := bqF BK610.out 0
           have hns67_0 := NB596_610.out
           have hms67_0 := NB610_596.out
           have hs68 : w'.cell? ⟨gb610, 1, none⟩ = some (.int .i64 0) := (bqC BK610.out 1).trans rfl
           have hfs68 := bqF BK610.out 1
           have hns68_0 := NB596_610.out
           have hms68_0 := NB610_596.out
           refine skip_ (w1 := ?_) (by rfl) rfl ?_ ?_
           rotate_left
           ·go_simp
            rfl
           refine hK.out _ _ ⟨v603, gb610, m1_, m16_, (by rw [ha.out]; exact putSel_none (v := undef) rfl), (GS.bqX BK596.out), (GS.lB HB.out), fun _ h1_ => absurd ((up_self b 17).symm.trans h1_) (by decide), fun _ => GW610.out, fun _ => GE610.out, fun _ => NB596_610.out, fun _ => NB610_596.out, fun _ => (GS.bqZ BK610.out), fun _ => Kd.V_mono ((by (with_reducible repeat (first | apply Kd.V_alloc | apply Kd.V_drewN | apply Kd.V_drew)); exact Kd.V_mono (Kd.V_far (p := ⟨gb610, 1, none⟩) (Kd.V_far (p := ⟨gb610, 0, none⟩) (Kd.V_mono HO604.out (fun k_ hk => (⟨hk, GS.cj hk⟩ : _ ∧ k_ ≠ gb610))) (fun _ hk => hk.2) (.int .i64 t607)) (fun _ hk => hk.2) (.int .i64 t608)) (fun _ hk => hk))) (fun _ hk => GS.cj hk), fun _ _ => (by (with_reducible repeat (first | apply Kd.V_alloc | apply Kd.V_drewN | apply Kd.V_drew)); exact Kd.V_mono (Kd.V_far (p := ⟨gb610, 1, none⟩) (Kd.V_far (p := ⟨gb610, 0, none⟩) (Kd.V_mono HO604.out (fun k_ hk => (⟨hk, GS.cj hk⟩ : _ ∧ k_ ≠ gb610))) (fun _ hk => hk.2) (.int .i64 t607)) (fun _ hk => hk.2) (.int .i64 t608)) (fun _ hk => GS.cj hk)), Q_X1_, Q_X16_⟩
          refine steps_cons ?_ ?_
          ·rintro b a w' ⟨v603, gb610, m1_, m16_, ha, Q_BK596, Q_HB, Q_BK610, Q_GW610, Q_GE610, Q_NB596_610, Q_NB610_596, Q_BK610_e17, Q_HO604_e1, Q_HO604_p1_16, Q_X1_, Q_X16_⟩ hb_ hon hoff
           refine ⟨_, rfl, fun K hK => ?_⟩
           have e36 : a.tmps[36]? = some (.int .i64 t609) := by rw [ha]; exact putSel_on (e := (15, 36, .int .i64 t609)) 12 rfl rfl (hon 15 (by kernel_rfl)) rfl
           replace ha := Aside0.mk ha
           have BK596 := Aside0.mk Q_BK596
           have HB := Aside0.mk Q_HB
           have GW610 := Aside0.mk (Q_GW610 (hon 16 (by kernel_rfl)))
           have GE610 := Aside0.mk (Q_GE610 (hon 16 (by kernel_rfl)))
           have NB596_610 := Aside0.mk (Q_NB596_610 (hon 16 (by kernel_rfl)))
           have NB610_596 := Aside0.mk (Q_NB610_596 (hon 16 (by kernel_rfl)))
           have BK610 := Aside0.mk (Q_BK610_e17 (hon 17 (by kernel_rfl)))
           have HO604 := Aside0.mk (Q_HO604_e1 (hon 1 (by kernel_rfl)))
           have HO604 := Aside0.mk (Q_HO604_p1_16 (hon 1 (by kernel_rfl)) (hon 16 (by kernel_rfl)))
           refine value_ (w1 := w') (v := .int .i64 t609) (by rfl) rfl ?_ ?_
           ·go_simp
            (try simp only [i64_w])
            try rfl
           refine hK.out _ _ ⟨v603, gb610, m1_, m16_, (by rw [ha.out]; exact putSel_upk 14 hb_ rfl rfl rfl), Q_BK596, Q_HB, fun _ h1_ => absurd ((hon 17 (by kernel_rfl)).symm.trans h1_) (by decide), Q_GW610, Q_GE610, Q_NB596_610, Q_NB610_596, Q_BK610_e17, Q_HO604_e1, Q_HO604_p1_16, Q_X1_, Q_X16_⟩
          exact steps_nil
         rintro b a w68 hall ⟨v603, gb610, m1_, m16_, ha, Q_BK596, Q_HB, Q_BK610, Q_GW610, Q_GE610, Q_NB596_610, Q_NB610_596, Q_BK610_e17, Q_HO604_e1, Q_HO604_p1_16, Q_X1_, Q_X16_⟩
         clear BK596 HB
         have hb0_ := hall 0 (by kernel_rfl)
         have hb1_ := hall 1 (by kernel_rfl)
         have hb3_ := hall 3 (by kernel_rfl)
         have hb5_ := hall 5 (by kernel_rfl)
         have hb6_ := hall 6 (by kernel_rfl)
         have hb7_ := hall 7 (by kernel_rfl)
         have hb8_ := hall 8 (by kernel_rfl)
         have hb9_ := hall 9 (by kernel_rfl)
         have hb10_ := hall 10 (by kernel_rfl)
         have hb12_ := hall 12 (by kernel_rfl)
         have hb13_ := hall 13 (by kernel_rfl)
         have hb14_ := hall 14 (by kernel_rfl)
         have hb15_ := hall 15 (by kernel_rfl)
         have hb16_ := hall 16 (by kernel_rfl)
         have hb17_ := hall 17 (by kernel_rfl)
         have hb18_ := hall 18 (by kernel_rfl)
         subst ha
         obtain rfl := Q_X1_ hb1_
         obtain rfl := Q_X16_ hb16_
         simp only [putSel, hb0_, hb1_, hb3_, hb5_, hb6_, hb7_, hb8_, hb9_, hb10_, hb12_, hb13_, hb14_, hb15_, hb16_, hb17_, hb18_, if_true, Act.put, List.setIfInBounds_toArray, List.set_cons_zero, List.set_cons_succ]
         have BK596 := Aside0.mk Q_BK596
         clear Q_BK596
         have HB := Aside0.mk Q_HB
         clear Q_HB
         clear Q_BK610
         have GW610 := Aside0.mk (Q_GW610 hb16_)
         clear Q_GW610
         have GE610 := Aside0.mk (Q_GE610 hb16_)
         clear Q_GE610
         have NB596_610 := Aside0.mk (Q_NB596_610 hb16_)
         clear Q_NB596_610
         have NB610_596 := Aside0.mk (Q_NB610_596 hb16_)
         clear Q_NB610_596
         have BK610 := Aside0.mk (Q_BK610_e17 hb17_)
         clear Q_BK610_e17
         have HO604 := Aside0.mk (Q_HO604_e1 hb1_)
         clear Q_HO604_e1
         have HO604 := Aside0.mk (Q_HO604_p1_16 hb1_ hb16_)
         clear Q_HO604_p1_16
         clear hall hb0_ hb1_ hb3_ hb5_ hb6_ hb7_ hb8_ hb9_ hb10_ hb12_ hb13_ hb14_ hb15_ hb16_ hb17_ hb18_
         have hnb69 := NB596_610.out
         have hnc69 := NB610_596.out
         obtain ⟨hcz70_0, hcz70_1, hcz70_2, hcz70_3, hfz70_0, hfz70_1, hfz70_2, hfz70_3⟩ := GS.c4 BK596.out
         try go_wp2_with (first | ((with_reducible refine gqC (f := 17) rfl ?_); refine GS.gL (some 39) Try.func17 #[.agg #[.string a0_0, .int .i64 a0_1, .slice (some ad606) l0_2.length c0_2, .int .i64 a0_3]] ?_; (with_reducible refine (spilelaw12_own.calls kj4 a0_0 a0_1 (fun k_ => k_ < w.heap.size) _ _ l0_2 a0_3 t611 t612 t613 t616 _ ?side1 A23.out).mono ?_); (case side1 => exact Kd.V_mk HC0_2.out (Kd.F_below (Kd.C_F k33_heap HR0_2.out) (GS.lB HB.out))); rintro e w71 ⟨v614, rfl, ho0, hb⟩; refine ⟨_, rfl, ?_⟩; have n0_ := Aside0.mk (Kd.V_below (by (with_reducible repeat (first | apply Kd.V_alloc | apply Kd.V_drewN | apply Kd.V_drew)); exact HO604.out) hb); have n1_ := Aside0.mk (Kd.V_lower (Kd.V_mono (ok' := fun k_ => k_ ≠ gb596 ∧ k_ ≠ gb610) ho0 (fun k_ hk_ => ⟨Or.elim hk_ (fun hs_ => fun e_ => Nat.not_le.2 hs_ (by rw [e_]; exact GW596.out)) (fun hn_ => (Kd.freshB (GS.bqX BK596.out) k_ hn_)), Or.elim hk_ (fun hs_ => fun e_ => Nat.not_le.2 hs_ (by rw [e_]; exact GW610.out)) (fun hn_ => (Kd.freshB (GS.bqX BK610.out) k_ hn_))⟩)) (lqZ (GS.lB HB.out))); have n2_ := Aside0.mk (bqB (GS.bqX BK596.out) hb); have n3_ := Aside0.mk (bqB (GS.bqX BK610.out) hb); have n4_ := Aside0.mk (lqT (GS.lB HB.out) hb); clear HO604; clear BK596; clear BK610; clear HB; have HO604 := n0_; have HO615 := n1_; have BK596 := n2_; have BK610 := n3_; have HB := n4_; clear n0_ n1_ n2_ n3_ n4_; (try clear hb); (try clear hb2); (try clear hk); (try clear hi); (try clear ho0); obtain ⟨Ao72, co72, eo72⟩ := Kd.V_slice HO615.out; subst eo72) | ((with_reducible refine gqC (f := 25) rfl ?_); refine GS.gL (some 41) Try.func25 #[.agg #[.string t611, .int .i64 t612, .slice Ao72 t613.length co72, .int .i64 t616], .int .i64 0, .int .i64 a1] ?_; (with_reducible refine (standing_Wet.calls kj4 t611 t612 _ _ t613 t616 0 a1 t617 t618 t619 _ ?side1 ?side2 A24.out).mono ?_); (case side1 => repeat (first | exact (Kd.V_reads' HO615.out).2.2 | (with_reducible refine Kd.C_alloc ?_ _) | (with_reducible refine Kd.C_drewN ?_ _) | (with_reducible refine Kd.C_drew ?_))); (case side2 => exact (Kd.V_reads' HO615.out).2.1); rintro e w73 ⟨rfl, hb⟩; refine ⟨_, rfl, ?_⟩; have n0_ := Aside0.mk (Kd.V_below (by (with_reducible repeat (first | apply Kd.V_alloc | apply Kd.V_drewN | apply Kd.V_drew)); exact HO604.out) hb); have n1_ := Aside0.mk (Kd.V_below (by (with_reducible repeat (first | apply Kd.V_alloc | apply Kd.V_drewN | apply Kd.V_drew)); exact HO615.out) hb); have n2_ := Aside0.mk (bqB (GS.bqX BK596.out) hb); have n3_ := Aside0.mk (bqB (GS.bqX BK610.out) hb); have n4_ := Aside0.mk (lqT (GS.lB HB.out) hb); clear HO604; clear HO615; clear BK596; clear BK610; clear HB; have HO604 := n0_; have HO615 := n1_; have BK596 := n2_; have BK610 := n3_; have HB := n4_; clear n0_ n1_ n2_ n3_ n4_; (try clear hb); (try clear hb2); (try clear hk); (try clear hi)) | ((with_reducible refine gqD (N := 7) rfl ?_); refine GS.bx (N := 7) (cs := #[.int .i64 0, .int .i64 0]) (t := 40) ?_; intro gb620 hg w74 hbox hb; have n0_ := Aside0.mk (Kd.V_below (Kd.V_elderB (by (with_reducible repeat (first | apply Kd.V_alloc | apply Kd.V_drewN | apply Kd.V_drew)); exact HO604.out) gb620 (Nat.le_of_eq hg.symm)) hb); have n1_ := Aside0.mk (Kd.V_below (Kd.V_elderB (by (with_reducible repeat (first | apply Kd.V_alloc | apply Kd.V_drewN | apply Kd.V_drew)); exact HO615.out) gb620 (Nat.le_of_eq hg.symm)) hb); have n2_ := Aside0.mk (bqB (GS.bqX BK596.out) hb); have n3_ := Aside0.mk (bqB (GS.bqX BK610.out) hb); have n4_ := Aside0.mk (lqT (GS.lB HB.out) hb); have n5_ := Aside0.mk (hbox); have n6_ := Aside0.mk ((by rw [hg]; exact (lqZ (GS.lB HB.out)) : w.heap.size ≤ gb620)); have n7_ := Aside0.mk ((by rw [hg]; exact (lqZ (GS.lB HB.out)) : w.heap.size ≤ gb620)); have n8_ := Aside0.mk ((by rw [hg]; exact Nat.ne_of_lt (blk_lt (GS.bqX BK596.out)) : gb596 ≠ gb620)); have n9_ := Aside0.mk ((by rw [hg]; exact Nat.ne_of_gt (blk_lt (GS.bqX BK596.out)) : gb620 ≠ gb596)); have n10_ := Aside0.mk ((by rw [hg]; exact Nat.ne_of_lt (blk_lt (GS.bqX BK610.out)) : gb610 ≠ gb620)); have n11_ := Aside0.mk ((by rw [hg]; exact Nat.ne_of_gt (blk_lt (GS.bqX BK610.out)) : gb620 ≠ gb610)); clear HO604; clear HO615; clear BK596; clear BK610; clear HB; have HO604 := n0_; have HO615 := n1_; have BK596 := n2_; have BK610 := n3_; have HB := n4_; have BK620 := n5_; have GW620 := n6_; have GE620 := n7_; have NB596_620 := n8_; have NB620_596 := n9_; have NB610_620 := n10_; have NB620_610 := n11_; clear n0_ n1_ n2_ n3_ n4_ n5_ n6_ n7_ n8_ n9_ n10_ n11_; clear hb hbox hg; have hnb75 := NB620_596.out; have hnc75 := NB596_620.out; have hnb76 := NB620_610.out; have hnc76 := NB610_620.out; obtain ⟨hcz77_0, hcz77_1, hfz77_0, hfz77_1⟩ := GS.c2 BK620.out; obtain ⟨hcz78_0, hcz78_1, hfz78_0, hfz78_1⟩ := GS.c2 BK610.out))
         go_ret
         exact ⟨by first | rfl | (simp [errW_none, errW_some] <;> rfl) | (simp only [← hji19]; first | rfl | (simp [errW_none, errW_some] <;> rfl)) | (simp [*, errW_none, errW_some] <;> rfl), GS.lB HB.out⟩
        ·rw [if_neg c60] at H
         exact absurd H (by simp)
      ·rw [if_neg c21] at H
       exact absurd H (by simp)
     ·rw [if_neg c20] at H
      exact absurd H (by simp)
 ·replace c4 := Bool.eq_false_iff.mpr c4
  subst c4
  have H1 : (none) = some r := by rw [if_neg (show ¬ (false = true) by decide)] at H; exact H
  clear H
  have H := H1
  clear H1
  exact absurd H (by simp)

end Go.Proofs.Ytmcmbjkjilcmeaa.K
