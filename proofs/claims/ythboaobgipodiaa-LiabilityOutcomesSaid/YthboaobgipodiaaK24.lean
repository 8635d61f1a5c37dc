-- PRINTED by print.py (a twelfth state) out of the translation. Not trusted: Lean checks it.
import Derived.Test.YthboaobgipodiaaK0
import Derived.Test.YthboaobgipodiaaGShort
import Derived.Test.YthboaobgipodiaaK7
import Derived.Test.YthboaobgipodiaaK15
import Derived.Test.YthboaobgipodiaaK16
import Derived.Test.YthboaobgipodiaaK17
import Derived.Test.YthboaobgipodiaaK18
import Derived.Test.YthboaobgipodiaaK22
import Derived.Test.YthboaobgipodiaaK23
import Derived.Test.YthboaobgipodiaaGClone
namespace Go.Proofs.Ythboaobgipodiaa.K
open Go.RowKit Go.Proofs.YthboaobgipodiaaW.PrintWords Go.Proofs.YthboaobgipodiaaW.PrintLast Go.Proofs.YthboaobgipodiaaW.PrintMore
attribute [local go_sem] max2_int min2_int max_two min_two max_three min_three max_four min_four   -- for this text's walks alone
set_option linter.unusedVariables false
set_option linter.unusedSimpArgs false

/-! ### spilelaw51_LiabilityOutcomes: function 4 -/
def spilelaw51_LiabilityOutcomes.j0 : Nat → List (S35) → List (S51) → Int → Bool → Int → List (S60) → Option (Bool)
 | 0, _, _, _, _, _, _ => none
 | k + 1, x1, x2, x3, x29, x600000, x600001 => if x29 = true then ((spilelaw51_awake.f k).bind fun t602 => (some t602)) else ((spilelaw51_ct.f x600000 x600001).bind fun bt603 => ((clone13.f x1).bind fun t607 => ((liability_Witness.f k bt603.1 bt603.2 t607 x3).bind fun bt610 => ((spileref51_Witness.f k x600000 x600001 x1 x3).bind fun bt614 => ((spilelaw51_ct.f x600000 x600001).bind fun bt618 => ((clone13.f x1).bind fun t622 => ((clone22.f x2).bind fun t625 => ((liability_Sum.f k bt618.1 bt618.2 t622 t625 x3).bind fun bt628 => ((spileref51_Sum.f k x600000 x600001 x1 x2 x3).bind fun bt630 => ((api_Outcome_24.f k bt610.1 bt614.1).bind fun t632 => (if t632 = true then (if bt610.2 = bt614.2 then (if bt628.1 = bt630.1 then (some (bt628.2 == bt630.2)) else (none)) else (none)) else (none))))))))))))
def spilelaw51_LiabilityOutcomes.f (k : Nat) (a0_0 : Int) (l0_1 : List (S60)) (l1 : List (S35)) (l2 : List (S51)) (a3 : Int) : Option (Bool) := (spilelaw51_awake.f k).bind fun t600 => (if t600 = true then ((spilelaw51_few.f a0_0 l0_1 l1).bind fun t601 => (if t601 = true then (spilelaw51_LiabilityOutcomes.j0 k l1 l2 a3 (decide ((l2.length : Int) > 12)) a0_0 l0_1) else (spilelaw51_LiabilityOutcomes.j0 k l1 l2 a3 true a0_0 l0_1))) else (spilelaw51_LiabilityOutcomes.j0 k l1 l2 a3 true a0_0 l0_1))
theorem spilelaw51_LiabilityOutcomes.mono_l : ∀ k, (∀ y0 y1 y2 y3 y4 y5, LeO (spilelaw51_LiabilityOutcomes.j0 k y0 y1 y2 y3 y4 y5) (spilelaw51_LiabilityOutcomes.j0 (k + 1) y0 y1 y2 y3 y4 y5))
 | 0 => fun _ _ _ _ _ _ r h => by simp [spilelaw51_LiabilityOutcomes.j0] at h
 | k + 1 => by
  have ih0 := spilelaw51_LiabilityOutcomes.mono_l k
  ·intro y0 y1 y2 y3 y4 y5
   unfold spilelaw51_LiabilityOutcomes.j0
   repeat' first
   | (with_reducible exact ih0 _ _ _ _ _ _)
   | (with_reducible exact api_Outcome_24.mono _ _ _)
   | (with_reducible exact liability_Sum.mono _ _ _ _ _ _)
   | (with_reducible exact liability_Witness.mono _ _ _ _ _)
   | (with_reducible exact spilelaw51_awake.mono _)
   | (with_reducible exact spileref51_Sum.mono _ _ _ _ _ _)
   | (with_reducible exact spileref51_Witness.mono _ _ _ _ _)
   | (with_reducible exact LeO.refl _)
   | (with_reducible exact LeO.none _)
   | (with_reducible refine LeO.ite ?_ ?_)
   | (with_reducible refine LeO.bind ?_ (fun _ => ?_))
   | exact ih0 _ _ _ _ _ _
   | exact api_Outcome_24.mono _ _ _
   | exact liability_Sum.mono _ _ _ _ _ _
   | exact liability_Witness.mono _ _ _ _ _
   | exact spilelaw51_awake.mono _
   | exact spileref51_Sum.mono _ _ _ _ _ _
   | exact spileref51_Witness.mono _ _ _ _ _
   | exact LeO.none _
   | refine LeO.ite ?_ ?_
   | refine LeO.bind ?_ (fun _ => ?_)
theorem spilelaw51_LiabilityOutcomes.mono : ∀ a0 a1 a2 a3 a4 k, LeO (spilelaw51_LiabilityOutcomes.f k a0 a1 a2 a3 a4) (spilelaw51_LiabilityOutcomes.f (k + 1) a0 a1 a2 a3 a4) := by
 intro a0 a1 a2 a3 a4 k
 have ih0 := spilelaw51_LiabilityOutcomes.mono_l k
 unfold spilelaw51_LiabilityOutcomes.f
 repeat' first
   | (with_reducible exact ih0 _ _ _ _ _ _)
   | (with_reducible exact api_Outcome_24.mono _ _ _)
   | (with_reducible exact liability_Sum.mono _ _ _ _ _ _)
   | (with_reducible exact liability_Witness.mono _ _ _ _ _)
   | (with_reducible exact spilelaw51_awake.mono _)
   | (with_reducible exact spileref51_Sum.mono _ _ _ _ _ _)
   | (with_reducible exact spileref51_Witness.mono _ _ _ _ _)
   | (with_reducible exact LeO.refl _)
   | (with_reducible exact LeO.none _)
   | (with_reducible refine LeO.ite ?_ ?_)
   | (with_reducible refine LeO.bind ?_ (fun _ => ?_))
   | exact ih0 _ _ _ _ _ _
   | exact api_Outcome_24.mono _ _ _
   | exact liability_Sum.mono _ _ _ _ _ _
   | exact liability_Witness.mono _ _ _ _ _
   | exact spilelaw51_awake.mono _
   | exact spileref51_Sum.mono _ _ _ _ _ _
   | exact spileref51_Witness.mono _ _ _ _ _
   | exact LeO.none _
   | refine LeO.ite ?_ ?_
   | refine LeO.bind ?_ (fun _ => ?_)
set_option maxHeartbeats 8000000 in
set_option maxRecDepth 100000 in
theorem spilelaw51_LiabilityOutcomes.calls (k : Nat) (a0_0 : Int) (A0_1 : Option Addr) (c0_1 : Nat) (l0_1 : List (S60)) (A1 : Option Addr) (c1 : Nat) (l1 : List (S35)) (A2 : Option Addr) (c2 : Nat) (l2 : List (S51)) (a3 : Int) (r : Bool) (w : World) (hr0_1 : Kd.C k60 w A0_1 l0_1.length l0_1) (hc0_1 : l0_1.length ≤ c0_1) (hr1 : Kd.C k35 w A1 l1.length l1) (hc1 : l1.length ≤ c1) (hr2 : Kd.C k51 w A2 l2.length l2) (hc2 : l2.length ≤ c2) (h : spilelaw51_LiabilityOutcomes.f k a0_0 l0_1 l1 l2 a3 = some r) :
  Calls Try.prog 4 #[.agg #[.int .i64 a0_0, .slice A0_1 l0_1.length c0_1], .slice A1 l1.length c1, .slice A2 l2.length c2, .int .i64 a3] w fun e w' => e = .returned (.bool r) ∧ Below w.heap.size w w' := by
 have hu24 := Try.underlying24
 have HR0_1 := Aside0.mk hr0_1
 have HC0_1 := Aside0.mk hc0_1
 clear hr0_1 hc0_1
 have HR1 := Aside0.mk hr1
 have HC1 := Aside0.mk hc1
 clear hr1 hc1
 have HR2 := Aside0.mk hr2
 have HC2 := Aside0.mk hc2
 clear hr2 hc2
 have HB := Aside0.mk (Below.refl w.heap.size w)
 have H : ((spilelaw51_awake.f k).bind fun t600 => (if t600 = true then ((spilelaw51_few.f a0_0 l0_1 l1).bind fun t601 => (if t601 = true then (spilelaw51_LiabilityOutcomes.j0 k l1 l2 a3 (decide ((l2.length : Int) > 12)) a0_0 l0_1) else (spilelaw51_LiabilityOutcomes.j0 k l1 l2 a3 true a0_0 l0_1))) else (spilelaw51_LiabilityOutcomes.j0 k l1 l2 a3 true a0_0 l0_1))) = some r := h
 clear h
 have HC5 := Aside0.mk H
 clear H
 go_enter Try.func4, Try.ntmps4
 go_upto_region 1 with (first | ((with_reducible refine gqD (N := 4) rfl ?_); (try (refine gate_guard (by rfl) ?_; dsimp only)); refine GS.bx (N := 4) (cs := #[.int .i64 a0_0, .slice A0_1 l0_1.length c0_1]) (t := 24) ?_; intro gb599 hg w6 hbox hb; have n0_ := Aside0.mk (lqT (GS.lB HB.out) hb); have n1_ := Aside0.mk (hbox); have n2_ := Aside0.mk ((by rw [hg]; exact (lqZ (GS.lB HB.out)) : w.heap.size ≤ gb599)); have n3_ := Aside0.mk ((by rw [hg]; exact (lqZ (GS.lB HB.out)) : w.heap.size ≤ gb599)); clear HB; have HB := n0_; have BK599 := n1_; have GW599 := n2_; have GE599 := n3_; clear n0_ n1_ n2_ n3_; clear hb hbox hg))
 (try simp only [Act.put, List.setIfInBounds_toArray, List.set_cons_zero, List.set_cons_succ])
 go_cut [29] (fun v29 wc => ∃ (kq : Nat) (x29_4 : Bool), v29 = .bool x29_4 ∧ Aside0 (spilelaw51_LiabilityOutcomes.j0 kq l1 l2 a3 x29_4 a0_0 l0_1 = some r) ∧ Aside0 (kq ≤ k) ∧ Aside0 (wc.heap[gb599]? = some (.cells #[.int .i64 a0_0, (.slice A0_1 l0_1.length c0_1)] 24 (0, 0))) ∧ Aside0 (Below w.heap.size w wc))
 case first =>
  have H := HC5.out
  clear HC5
  replace H := Option.bind_eq_some_iff.mp H
  obtain ⟨t600, A70, H⟩ := H
  replace H : (if t600 = true then ((spilelaw51_few.f a0_0 l0_1 l1).bind fun t601 => (if t601 = true then (spilelaw51_LiabilityOutcomes.j0 k l1 l2 a3 (decide ((l2.length : Int) > 12)) a0_0 l0_1) else (spilelaw51_LiabilityOutcomes.j0 k l1 l2 a3 true a0_0 l0_1))) else (spilelaw51_LiabilityOutcomes.j0 k l1 l2 a3 true a0_0 l0_1)) = some r := H
  have A7 := Aside0.mk A70
  clear A70
  by_cases c8 : t600 = true
  ·subst c8
   have H1 : ((spilelaw51_few.f a0_0 l0_1 l1).bind fun t601 => (if t601 = true then (spilelaw51_LiabilityOutcomes.j0 k l1 l2 a3 (decide ((l2.length : Int) > 12)) a0_0 l0_1) else (spilelaw51_LiabilityOutcomes.j0 k l1 l2 a3 true a0_0 l0_1))) = some r := by rw [if_pos rfl] at H; exact H
   clear H
   have H := H1
   clear H1
   replace H := Option.bind_eq_some_iff.mp H
   obtain ⟨t601, A90, H⟩ := H
   replace H : (if t601 = true then (spilelaw51_LiabilityOutcomes.j0 k l1 l2 a3 (decide ((l2.length : Int) > 12)) a0_0 l0_1) else (spilelaw51_LiabilityOutcomes.j0 k l1 l2 a3 true a0_0 l0_1)) = some r := H
   have A9 := Aside0.mk A90
   clear A90
   by_cases c10 : t601 = true
   ·subst c10
    have H1 : (spilelaw51_LiabilityOutcomes.j0 k l1 l2 a3 (decide ((l2.length : Int) > 12)) a0_0 l0_1) = some r := by rw [if_pos rfl] at H; exact H
    clear H
    have H := H1
    clear H1
    have H' := Aside0.mk H
    clear H
    go_wp2_with (first | ((with_reducible refine gqC (f := 9) rfl ?_); refine GS.gL (some 17) Try.func9 #[] ?_; (with_reducible refine (spilelaw51_awake.calls k  true _ A7.out).mono ?_); rintro e w11 ⟨rfl, hb⟩; refine ⟨_, rfl, ?_⟩; have n0_ := Aside0.mk (bqB (GS.bqX BK599.out) hb); have n1_ := Aside0.mk (lqT (GS.lB HB.out) hb); clear BK599; clear HB; have BK599 := n0_; have HB := n1_; clear n0_ n1_; (try clear hb); (try clear hb2); (try clear hk); (try clear hi); obtain ⟨hcz12_0, hcz12_1, hfz12_0, hfz12_1⟩ := GS.c2 BK599.out) | (go_at_call 10; (with_reducible refine (spilelaw51_few.calls a0_0 _ _ l0_1 _ _ l1 true _ ?side1 ?side2 ?side3 ?side4 A9.out).mono ?_); (case side1 => exact GS.rC (Kd.C_below HR0_1.out HB.out)); (case side2 => exact HC0_1.out); (case side3 => exact GS.rC (Kd.C_below HR1.out HB.out)); (case side4 => exact HC1.out); rintro e w13 ⟨rfl, hb⟩; have n0_ := Aside0.mk (bqB (GS.bqX BK599.out) hb); have n1_ := Aside0.mk (lqT (GS.lB HB.out) hb); clear BK599; clear HB; have BK599 := n0_; have HB := n1_; clear n0_ n1_; (try clear hb); (try clear hb2); (try clear hk); (try clear hi)))
    go_meet
    case rel => exact ⟨_, (decide ((l2.length : Int) > 12)), (by first | rfl | (simp; done) | (simp [*]; done)), H', ⟨by first | omega | exact Nat.le_refl _⟩, ⟨GS.bqX BK599.out⟩, ⟨GS.lB HB.out⟩⟩
   ·replace c10 := Bool.eq_false_iff.mpr c10
    subst c10
    have H1 : (spilelaw51_LiabilityOutcomes.j0 k l1 l2 a3 true a0_0 l0_1) = some r := by rw [if_neg (show ¬ (false = true) by decide)] at H; exact H
    clear H
    have H := H1
    clear H1
    have H' := Aside0.mk H
    clear H
    go_wp2_with (first | ((with_reducible refine gqC (f := 9) rfl ?_); refine GS.gL (some 17) Try.func9 #[] ?_; (with_reducible refine (spilelaw51_awake.calls k  true _ A7.out).mono ?_); rintro e w14 ⟨rfl, hb⟩; refine ⟨_, rfl, ?_⟩; have n0_ := Aside0.mk (bqB (GS.bqX BK599.out) hb); have n1_ := Aside0.mk (lqT (GS.lB HB.out) hb); clear BK599; clear HB; have BK599 := n0_; have HB := n1_; clear n0_ n1_; (try clear hb); (try clear hb2); (try clear hk); (try clear hi); obtain ⟨hcz15_0, hcz15_1, hfz15_0, hfz15_1⟩ := GS.c2 BK599.out) | (go_at_call 10; (with_reducible refine (spilelaw51_few.calls a0_0 _ _ l0_1 _ _ l1 false _ ?side1 ?side2 ?side3 ?side4 A9.out).mono ?_); (case side1 => exact GS.rC (Kd.C_below HR0_1.out HB.out)); (case side2 => exact HC0_1.out); (case side3 => exact GS.rC (Kd.C_below HR1.out HB.out)); (case side4 => exact HC1.out); rintro e w16 ⟨rfl, hb⟩; have n0_ := Aside0.mk (bqB (GS.bqX BK599.out) hb); have n1_ := Aside0.mk (lqT (GS.lB HB.out) hb); clear BK599; clear HB; have BK599 := n0_; have HB := n1_; clear n0_ n1_; (try clear hb); (try clear hb2); (try clear hk); (try clear hi)))
    go_meet
    case rel => exact ⟨_, (true), (by first | rfl | (simp; done) | (simp [*]; done)), H', ⟨by first | omega | exact Nat.le_refl _⟩, ⟨GS.bqX BK599.out⟩, ⟨GS.lB HB.out⟩⟩
  ·replace c8 := Bool.eq_false_iff.mpr c8
   subst c8
   have H1 : (spilelaw51_LiabilityOutcomes.j0 k l1 l2 a3 true a0_0 l0_1) = some r := by rw [if_neg (show ¬ (false = true) by decide)] at H; exact H
   clear H
   have H := H1
   clear H1
   have H' := Aside0.mk H
   clear H
   go_wp2_with (first | ((with_reducible refine gqC (f := 9) rfl ?_); refine GS.gL (some 17) Try.func9 #[] ?_; (with_reducible refine (spilelaw51_awake.calls k  false _ A7.out).mono ?_); rintro e w17 ⟨rfl, hb⟩; refine ⟨_, rfl, ?_⟩; have n0_ := Aside0.mk (bqB (GS.bqX BK599.out) hb); have n1_ := Aside0.mk (lqT (GS.lB HB.out) hb); clear BK599; clear HB; have BK599 := n0_; have HB := n1_; clear n0_ n1_; (try clear hb); (try clear hb2); (try clear hk); (try clear hi)))
   go_meet
   case rel => exact ⟨_, (true), (by first | rfl | (simp; done) | (simp [*]; done)), H', ⟨by first | omega | exact Nat.le_refl _⟩, ⟨GS.bqX BK599.out⟩, ⟨GS.lB HB.out⟩⟩
 case rest =>
  clear HC5
  try clear c1
  try clear c2
  try clear p2
  try clear c4
  try clear c8
  try clear c9
  try clear c10
  try clear hcz12_0
  try clear hcz12_1
  try clear hcz15_0
  try clear hcz15_1
  try clear hfz12_0
  try clear hfz12_1
  try clear hfz15_0
  try clear hfz15_1
  obtain ⟨kq, x29_4, rfl, HA, HJ4, BK599, HB⟩ := hcut
  cases kq with
  | zero => exact absurd HA.out (by simp [spilelaw51_LiabilityOutcomes.j0])
  | succ kj4 =>
   have H := HA.out
   clear HA
   simp only [spilelaw51_LiabilityOutcomes.j0] at H
   by_cases c18 : x29_4 = true
   ·subst c18
    have H1 : ((spilelaw51_awake.f kj4).bind fun t602 => (some t602)) = some r := by rw [if_pos rfl] at H; exact H
    clear H
    have H := H1
    clear H1
    replace H := Option.bind_eq_some_iff.mp H
    obtain ⟨t602, A190, H⟩ := H
    replace H : (some t602) = some r := H
    have A19 := Aside0.mk A190
    clear A190
    obtain rfl := Option.some.inj H
    go_wp2_with (first | ((with_reducible refine gqC (f := 9) rfl ?_); refine GS.gL (some 30) Try.func9 #[] ?_; (with_reducible refine (spilelaw51_awake.calls kj4  t602 _ A19.out).mono ?_); rintro e w20 ⟨rfl, hb⟩; refine ⟨_, rfl, ?_⟩; have n0_ := Aside0.mk (bqB (GS.bqX BK599.out) hb); have n1_ := Aside0.mk (lqT (GS.lB HB.out) hb); clear BK599; clear HB; have BK599 := n0_; have HB := n1_; clear n0_ n1_; (try clear hb); (try clear hb2); (try clear hk); (try clear hi)))
    go_ret
    exact ⟨by first | rfl | (simp [errW_none, errW_some] <;> rfl) | (simp [*, errW_none, errW_some] <;> rfl), GS.lB HB.out⟩
   ·replace c18 := Bool.eq_false_iff.mpr c18
    subst c18
    have H1 : ((spilelaw51_ct.f a0_0 l0_1).bind fun bt603 => ((clone13.f l1).bind fun t607 => ((liability_Witness.f kj4 bt603.1 bt603.2 t607 a3).bind fun bt610 => ((spileref51_Witness.f kj4 a0_0 l0_1 l1 a3).bind fun bt614 => ((spilelaw51_ct.f a0_0 l0_1).bind fun bt618 => ((clone13.f l1).bind fun t622 => ((clone22.f l2).bind fun t625 => ((liability_Sum.f kj4 bt618.1 bt618.2 t622 t625 a3).bind fun bt628 => ((spileref51_Sum.f kj4 a0_0 l0_1 l1 l2 a3).bind fun bt630 => ((api_Outcome_24.f kj4 bt610.1 bt614.1).bind fun t632 => (if t632 = true then (if bt610.2 = bt614.2 then (if bt628.1 = bt630.1 then (some (bt628.2 == bt630.2)) else (none)) else (none)) else (none)))))))))))) = some r := by rw [if_neg (show ¬ (false = true) by decide)] at H; exact H
    clear H
    have H := H1
    clear H1
    replace H := Option.bind_eq_some_iff.mp H
    obtain ⟨⟨t603, t604⟩, A210, H⟩ := H
    replace H : ((clone13.f l1).bind fun t607 => ((liability_Witness.f kj4 t603 t604 t607 a3).bind fun bt610 => ((spileref51_Witness.f kj4 a0_0 l0_1 l1 a3).bind fun bt614 => ((spilelaw51_ct.f a0_0 l0_1).bind fun bt618 => ((clone13.f l1).bind fun t622 => ((clone22.f l2).bind fun t625 => ((liability_Sum.f kj4 bt618.1 bt618.2 t622 t625 a3).bind fun bt628 => ((spileref51_Sum.f kj4 a0_0 l0_1 l1 l2 a3).bind fun bt630 => ((api_Outcome_24.f kj4 bt610.1 bt614.1).bind fun t632 => (if t632 = true then (if bt610.2 = bt614.2 then (if bt628.1 = bt630.1 then (some (bt628.2 == bt630.2)) else (none)) else (none)) else (none))))))))))) = some r := H
    have A21 := Aside0.mk A210
    clear A210
    replace H := Option.bind_eq_some_iff.mp H
    obtain ⟨t607, A220, H⟩ := H
    replace H : ((liability_Witness.f kj4 t603 t604 t607 a3).bind fun bt610 => ((spileref51_Witness.f kj4 a0_0 l0_1 l1 a3).bind fun bt614 => ((spilelaw51_ct.f a0_0 l0_1).bind fun bt618 => ((clone13.f l1).bind fun t622 => ((clone22.f l2).bind fun t625 => ((liability_Sum.f kj4 bt618.1 bt618.2 t622 t625 a3).bind fun bt628 => ((spileref51_Sum.f kj4 a0_0 l0_1 l1 l2 a3).bind fun bt630 => ((api_Outcome_24.f kj4 bt610.1 bt614.1).bind fun t632 => (if t632 = true then (if bt610.2 = bt614.2 then (if bt628.1 = bt630.1 then (some (bt628.2 == bt630.2)) else (none)) else (none)) else (none)))))))))) = some r := H
    have A22 := Aside0.mk A220
    clear A220
    replace H := Option.bind_eq_some_iff.mp H
    obtain ⟨⟨t610, t613⟩, A230, H⟩ := H
    replace H : ((spileref51_Witness.f kj4 a0_0 l0_1 l1 a3).bind fun bt614 => ((spilelaw51_ct.f a0_0 l0_1).bind fun bt618 => ((clone13.f l1).bind fun t622 => ((clone22.f l2).bind fun t625 => ((liability_Sum.f kj4 bt618.1 bt618.2 t622 t625 a3).bind fun bt628 => ((spileref51_Sum.f kj4 a0_0 l0_1 l1 l2 a3).bind fun bt630 => ((api_Outcome_24.f kj4 t610 bt614.1).bind fun t632 => (if t632 = true then (if t613 = bt614.2 then (if bt628.1 = bt630.1 then (some (bt628.2 == bt630.2)) else (none)) else (none)) else (none))))))))) = some r := H
    have A23 := Aside0.mk A230
    clear A230
    replace H := Option.bind_eq_some_iff.mp H
    obtain ⟨⟨t614, t617⟩, A240, H⟩ := H
    replace H : ((spilelaw51_ct.f a0_0 l0_1).bind fun bt618 => ((clone13.f l1).bind fun t622 => ((clone22.f l2).bind fun t625 => ((liability_Sum.f kj4 bt618.1 bt618.2 t622 t625 a3).bind fun bt628 => ((spileref51_Sum.f kj4 a0_0 l0_1 l1 l2 a3).bind fun bt630 => ((api_Outcome_24.f kj4 t610 t614).bind fun t632 => (if t632 = true then (if t613 = t617 then (if bt628.1 = bt630.1 then (some (bt628.2 == bt630.2)) else (none)) else (none)) else (none)))))))) = some r := H
    have A24 := Aside0.mk A240
    clear A240
    replace H := Option.bind_eq_some_iff.mp H
    obtain ⟨⟨t618, t619⟩, A250, H⟩ := H
    replace H : ((clone13.f l1).bind fun t622 => ((clone22.f l2).bind fun t625 => ((liability_Sum.f kj4 t618 t619 t622 t625 a3).bind fun bt628 => ((spileref51_Sum.f kj4 a0_0 l0_1 l1 l2 a3).bind fun bt630 => ((api_Outcome_24.f kj4 t610 t614).bind fun t632 => (if t632 = true then (if t613 = t617 then (if bt628.1 = bt630.1 then (some (bt628.2 == bt630.2)) else (none)) else (none)) else (none))))))) = some r := H
    have A25 := Aside0.mk A250
    clear A250
    replace H := Option.bind_eq_some_iff.mp H
    obtain ⟨t622, A260, H⟩ := H
    replace H : ((clone22.f l2).bind fun t625 => ((liability_Sum.f kj4 t618 t619 t622 t625 a3).bind fun bt628 => ((spileref51_Sum.f kj4 a0_0 l0_1 l1 l2 a3).bind fun bt630 => ((api_Outcome_24.f kj4 t610 t614).bind fun t632 => (if t632 = true then (if t613 = t617 then (if bt628.1 = bt630.1 then (some (bt628.2 == bt630.2)) else (none)) else (none)) else (none)))))) = some r := H
    have A26 := Aside0.mk A260
    clear A260
    replace H := Option.bind_eq_some_iff.mp H
    obtain ⟨t625, A270, H⟩ := H
    replace H : ((liability_Sum.f kj4 t618 t619 t622 t625 a3).bind fun bt628 => ((spileref51_Sum.f kj4 a0_0 l0_1 l1 l2 a3).bind fun bt630 => ((api_Outcome_24.f kj4 t610 t614).bind fun t632 => (if t632 = true then (if t613 = t617 then (if bt628.1 = bt630.1 then (some (bt628.2 == bt630.2)) else (none)) else (none)) else (none))))) = some r := H
    have A27 := Aside0.mk A270
    clear A270
    replace H := Option.bind_eq_some_iff.mp H
    obtain ⟨⟨t628, t629⟩, A280, H⟩ := H
    replace H : ((spileref51_Sum.f kj4 a0_0 l0_1 l1 l2 a3).bind fun bt630 => ((api_Outcome_24.f kj4 t610 t614).bind fun t632 => (if t632 = true then (if t613 = t617 then (if t628 = bt630.1 then (some (t629 == bt630.2)) else (none)) else (none)) else (none)))) = some r := H
    have A28 := Aside0.mk A280
    clear A280
    replace H := Option.bind_eq_some_iff.mp H
    obtain ⟨⟨t630, t631⟩, A290, H⟩ := H
    replace H : ((api_Outcome_24.f kj4 t610 t614).bind fun t632 => (if t632 = true then (if t613 = t617 then (if t628 = t630 then (some (t629 == t631)) else (none)) else (none)) else (none))) = some r := H
    have A29 := Aside0.mk A290
    clear A290
    replace H := Option.bind_eq_some_iff.mp H
    obtain ⟨t632, A300, H⟩ := H
    replace H : (if t632 = true then (if t613 = t617 then (if t628 = t630 then (some (t629 == t631)) else (none)) else (none)) else (none)) = some r := H
    have A30 := Aside0.mk A300
    clear A300
    by_cases c31 : t632 = true
    ·subst c31
     have H1 : (if t613 = t617 then (if t628 = t630 then (some (t629 == t631)) else (none)) else (none)) = some r := by rw [if_pos rfl] at H; exact H
     clear H
     have H := H1
     clear H1
     by_cases c32 : t613 = t617
     ·rw [if_pos c32] at H
      have c32b0 : (t613 == t617) = true := beq_iff_eq.mpr c32
      try simp only [beq_self_eq_true, Bool.not_true, Bool.false_or, Bool.true_and] at c32b0
      have c32b1 : (t613 != t617) = false := bne_eq_false_iff_eq.mpr c32
      clear c32
      by_cases c33 : t628 = t630
      ·rw [if_pos c33] at H
       have c33b0 : (t628 == t630) = true := beq_iff_eq.mpr c33
       try simp only [beq_self_eq_true, Bool.not_true, Bool.false_or, Bool.true_and] at c33b0
       have c33b1 : (t628 != t630) = false := bne_eq_false_iff_eq.mpr c33
       clear c33
       obtain rfl := Option.some.inj H
       obtain ⟨hcz34_0, hcz34_1, hfz34_0, hfz34_1⟩ := GS.c2 BK599.out
       go_wp2_with (first | ((with_reducible refine gqC (f := 12) rfl ?_); refine GS.gL (some 33) Try.func12 #[.agg #[.int .i64 a0_0, .slice A0_1 l0_1.length c0_1]] ?_; (with_reducible refine (spilelaw51_ct.calls a0_0 _ _ l0_1 t603 t604 _ ?side1 ?side2 A21.out).mono ?_); (case side1 => exact GS.rC (Kd.C_below HR0_1.out HB.out)); (case side2 => exact HC0_1.out); rintro e w35 ⟨v605, rfl, ho0, hb⟩; refine ⟨_, rfl, ?_⟩; have n0_ := Aside0.mk (Kd.R_lower ho0 (lqZ (GS.lB HB.out))); have n1_ := Aside0.mk (bqB (GS.bqX BK599.out) hb); have n2_ := Aside0.mk (lqT (GS.lB HB.out) hb); clear BK599; clear HB; have HO606 := n0_; have BK599 := n1_; have HB := n2_; clear n0_ n1_ n2_; (try clear hb); (try clear hb2); (try clear hk); (try clear hi); (try clear ho0)) | ((with_reducible refine gqC (f := 13) rfl ?_); refine GS.gL (some 35) Try.func13 #[.slice A1 l1.length c1] ?_; (with_reducible refine (clone13.calls _ _ l1 t607 _ ?side1 ?side2 A22.out).mono ?_); (case side1 => exact GS.rC (Kd.C_below HR1.out HB.out)); (case side2 => exact HC1.out); rintro e w36 ⟨v608, rfl, ho0, hb⟩; refine ⟨_, rfl, ?_⟩; have n0_ := Aside0.mk (Kd.R_below (GS.rR HO606.out) hb); have n1_ := Aside0.mk (Kd.R_lower ho0 (lqZ (GS.lB HB.out))); have n2_ := Aside0.mk (bqB (GS.bqX BK599.out) hb); have n3_ := Aside0.mk (lqT (GS.lB HB.out) hb); clear HO606; clear BK599; clear HB; have HO606 := n0_; have HO609 := n1_; have BK599 := n2_; have HB := n3_; clear n0_ n1_ n2_ n3_; (try clear hb); (try clear hb2); (try clear hk); (try clear hi); (try clear ho0); obtain ⟨Ao37, co37, eo37⟩ := Kd.R_slice HO606.out; subst eo37; obtain ⟨Ao38, co38, eo38⟩ := Kd.R_slice HO609.out; subst eo38) | ((with_reducible refine gqC (f := 19) rfl ?_); refine GS.gL (some 37) Try.func19 #[.agg #[.int .i64 t603, .slice Ao37 t604.length co37], .slice Ao38 t607.length co38, .int .i64 a3] ?_; (with_reducible refine (liability_Witness.calls kj4 t603 _ _ t604 _ _ t607 a3 t610 t613 _ ?side1 ?side2 ?side3 ?side4 A23.out).mono ?_); (case side1 => repeat (first | exact (Kd.R_reads' HO606.out).2.2 | (with_reducible refine Kd.C_alloc ?_ _) | (with_reducible refine Kd.C_drewN ?_ _) | (with_reducible refine Kd.C_drew ?_))); (case side2 => exact (Kd.R_reads' HO606.out).2.1); (case side3 => repeat (first | exact (Kd.R_reads' HO609.out).2.2 | (with_reducible refine Kd.C_alloc ?_ _) | (with_reducible refine Kd.C_drewN ?_ _) | (with_reducible refine Kd.C_drew ?_))); (case side4 => exact (Kd.R_reads' HO609.out).2.1); rintro e w39 ⟨v611, rfl, ho0, hb⟩; refine ⟨_, rfl, ?_⟩; have n0_ := Aside0.mk (Kd.R_below (GS.rR HO606.out) hb); have n1_ := Aside0.mk (Kd.R_below (GS.rR HO609.out) hb); have n2_ := Aside0.mk (Kd.R_lower ho0 (lqZ (GS.lB HB.out))); have n3_ := Aside0.mk (bqB (GS.bqX BK599.out) hb); have n4_ := Aside0.mk (lqT (GS.lB HB.out) hb); clear HO606; clear HO609; clear BK599; clear HB; have HO606 := n0_; have HO609 := n1_; have HO612 := n2_; have BK599 := n3_; have HB := n4_; clear n0_ n1_ n2_ n3_ n4_; (try clear hb); (try clear hb2); (try clear hk); (try clear hi); (try clear ho0); obtain ⟨hcz40_0, hcz40_1, hfz40_0, hfz40_1⟩ := GS.c2 BK599.out) | ((with_reducible refine gqC (f := 20) rfl ?_); refine GS.gL (some 44) Try.func20 #[.agg #[.int .i64 a0_0, .slice A0_1 l0_1.length c0_1], .slice A1 l1.length c1, .int .i64 a3] ?_; (with_reducible refine (spileref51_Witness.calls kj4 a0_0 _ _ l0_1 _ _ l1 a3 t614 t617 _ ?side1 ?side2 ?side3 ?side4 A24.out).mono ?_); (case side1 => exact GS.rC (Kd.C_below HR0_1.out HB.out)); (case side2 => exact HC0_1.out); (case side3 => exact GS.rC (Kd.C_below HR1.out HB.out)); (case side4 => exact HC1.out); rintro e w41 ⟨v615, rfl, ho0, hb⟩; refine ⟨_, rfl, ?_⟩; have n0_ := Aside0.mk (Kd.R_below (GS.rR HO606.out) hb); have n1_ := Aside0.mk (Kd.R_below (GS.rR HO609.out) hb); have n2_ := Aside0.mk (Kd.R_elder' (GS.rR HO612.out) (Kd.R_base ho0) hb); have n3_ := Aside0.mk (Kd.R_lower (Kd.R_new' ho0 (Kd.R_lt (GS.rR HO612.out))) (lqZ (GS.lB HB.out))); have n4_ := Aside0.mk (bqB (GS.bqX BK599.out) hb); have n5_ := Aside0.mk (lqT (GS.lB HB.out) hb); clear HO606; clear HO609; clear HO612; clear BK599; clear HB; have HO606 := n0_; have HO609 := n1_; have HO612 := n2_; have HO616 := n3_; have BK599 := n4_; have HB := n5_; clear n0_ n1_ n2_ n3_ n4_ n5_; (try clear hb); (try clear hb2); (try clear hk); (try clear hi); (try clear ho0); obtain ⟨hcz42_0, hcz42_1, hfz42_0, hfz42_1⟩ := GS.c2 BK599.out) | ((with_reducible refine gqC (f := 12) rfl ?_); refine GS.gL (some 49) Try.func12 #[.agg #[.int .i64 a0_0, .slice A0_1 l0_1.length c0_1]] ?_; (with_reducible refine (spilelaw51_ct.calls a0_0 _ _ l0_1 t618 t619 _ ?side1 ?side2 A25.out).mono ?_); (case side1 => exact GS.rC (Kd.C_below HR0_1.out HB.out)); (case side2 => exact HC0_1.out); rintro e w43 ⟨v620, rfl, ho0, hb⟩; refine ⟨_, rfl, ?_⟩; have n0_ := Aside0.mk (Kd.R_elder' (GS.rR HO606.out) (Kd.R_base ho0) hb); have n1_ := Aside0.mk (Kd.R_below (GS.rR HO609.out) hb); have n2_ := Aside0.mk (Kd.R_below (GS.rR HO612.out) hb); have n3_ := Aside0.mk (Kd.R_below (GS.rR HO616.out) hb); have n4_ := Aside0.mk (Kd.R_lower (Kd.R_new' ho0 (Kd.R_lt (GS.rR HO606.out))) (lqZ (GS.lB HB.out))); have n5_ := Aside0.mk (bqB (GS.bqX BK599.out) hb); have n6_ := Aside0.mk (lqT (GS.lB HB.out) hb); clear HO606; clear HO609; clear HO612; clear HO616; clear BK599; clear HB; have HO606 := n0_; have HO609 := n1_; have HO612 := n2_; have HO616 := n3_; have HO621 := n4_; have BK599 := n5_; have HB := n6_; clear n0_ n1_ n2_ n3_ n4_ n5_ n6_; (try clear hb); (try clear hb2); (try clear hk); (try clear hi); (try clear ho0)) | ((with_reducible refine gqC (f := 13) rfl ?_); refine GS.gL (some 51) Try.func13 #[.slice A1 l1.length c1] ?_; (with_reducible refine (clone13.calls _ _ l1 t622 _ ?side1 ?side2 A26.out).mono ?_); (case side1 => exact GS.rC (Kd.C_below HR1.out HB.out)); (case side2 => exact HC1.out); rintro e w44 ⟨v623, rfl, ho0, hb⟩; refine ⟨_, rfl, ?_⟩; have n0_ := Aside0.mk (Kd.R_below (GS.rR HO606.out) hb); have n1_ := Aside0.mk (Kd.R_elder' (GS.rR HO609.out) (Kd.R_base ho0) hb); have n2_ := Aside0.mk (Kd.R_below (GS.rR HO612.out) hb); have n3_ := Aside0.mk (Kd.R_below (GS.rR HO616.out) hb); have n4_ := Aside0.mk (Kd.R_below (GS.rR HO621.out) hb); have n5_ := Aside0.mk (Kd.R_lower (Kd.R_new' ho0 (Kd.R_lt (GS.rR HO609.out))) (lqZ (GS.lB HB.out))); have n6_ := Aside0.mk (bqB (GS.bqX BK599.out) hb); have n7_ := Aside0.mk (lqT (GS.lB HB.out) hb); clear HO606; clear HO609; clear HO612; clear HO616; clear HO621; clear BK599; clear HB; have HO606 := n0_; have HO609 := n1_; have HO612 := n2_; have HO616 := n3_; have HO621 := n4_; have HO624 := n5_; have BK599 := n6_; have HB := n7_; clear n0_ n1_ n2_ n3_ n4_ n5_ n6_ n7_; (try clear hb); (try clear hb2); (try clear hk); (try clear hi); (try clear ho0)) | ((with_reducible refine gqC (f := 22) rfl ?_); refine GS.gL (some 53) Try.func22 #[.slice A2 l2.length c2] ?_; (with_reducible refine (clone22.calls _ _ l2 t625 _ ?side1 ?side2 A27.out).mono ?_); (case side1 => exact GS.rC (Kd.C_below HR2.out HB.out)); (case side2 => exact HC2.out); rintro e w45 ⟨v626, rfl, ho0, hb⟩; refine ⟨_, rfl, ?_⟩; have n0_ := Aside0.mk (Kd.R_below (GS.rR HO606.out) hb); have n1_ := Aside0.mk (Kd.R_below (GS.rR HO609.out) hb); have n2_ := Aside0.mk (Kd.R_elder' (GS.rR HO612.out) (Kd.R_base ho0) hb); have n3_ := Aside0.mk (Kd.R_elder' (GS.rR HO616.out) (Kd.R_base ho0) hb); have n4_ := Aside0.mk (Kd.R_below (GS.rR HO621.out) hb); have n5_ := Aside0.mk (Kd.R_below (GS.rR HO624.out) hb); have n6_ := Aside0.mk (Kd.R_lower (Kd.R_new' (Kd.R_new' ho0 (Kd.R_lt (GS.rR HO612.out))) (Kd.R_lt (GS.rR HO616.out))) (lqZ (GS.lB HB.out))); have n7_ := Aside0.mk (bqB (GS.bqX BK599.out) hb); have n8_ := Aside0.mk (lqT (GS.lB HB.out) hb); clear HO606; clear HO609; clear HO612; clear HO616; clear HO621; clear HO624; clear BK599; clear HB; have HO606 := n0_; have HO609 := n1_; have HO612 := n2_; have HO616 := n3_; have HO621 := n4_; have HO624 := n5_; have HO627 := n6_; have BK599 := n7_; have HB := n8_; clear n0_ n1_ n2_ n3_ n4_ n5_ n6_ n7_ n8_; (try clear hb); (try clear hb2); (try clear hk); (try clear hi); (try clear ho0); obtain ⟨Ao46, co46, eo46⟩ := Kd.R_slice HO621.out; subst eo46; obtain ⟨Ao47, co47, eo47⟩ := Kd.R_slice HO624.out; subst eo47; obtain ⟨Ao48, co48, eo48⟩ := Kd.R_slice HO627.out; subst eo48) | ((with_reducible refine gqC (f := 21) rfl ?_); refine GS.gL (some 55) Try.func21 #[.agg #[.int .i64 t618, .slice Ao46 t619.length co46], .slice Ao47 t622.length co47, .slice Ao48 t625.length co48, .int .i64 a3] ?_; (with_reducible refine (liability_Sum.calls kj4 t618 _ _ t619 _ _ t622 _ _ t625 a3 t628 t629 _ ?side1 ?side2 ?side3 ?side4 ?side5 ?side6 A28.out).mono ?_); (case side1 => repeat (first | exact (Kd.R_reads' HO621.out).2.2 | (with_reducible refine Kd.C_alloc ?_ _) | (with_reducible refine Kd.C_drewN ?_ _) | (with_reducible refine Kd.C_drew ?_))); (case side2 => exact (Kd.R_reads' HO621.out).2.1); (case side3 => repeat (first | exact (Kd.R_reads' HO624.out).2.2 | (with_reducible refine Kd.C_alloc ?_ _) | (with_reducible refine Kd.C_drewN ?_ _) | (with_reducible refine Kd.C_drew ?_))); (case side4 => exact (Kd.R_reads' HO624.out).2.1); (case side5 => repeat (first | exact (Kd.R_reads' HO627.out).2.2 | (with_reducible refine Kd.C_alloc ?_ _) | (with_reducible refine Kd.C_drewN ?_ _) | (with_reducible refine Kd.C_drew ?_))); (case side6 => exact (Kd.R_reads' HO627.out).2.1); rintro e w49 ⟨rfl, hb⟩; refine ⟨_, rfl, ?_⟩; have n0_ := Aside0.mk (Kd.R_below (GS.rR HO606.out) hb); have n1_ := Aside0.mk (Kd.R_below (GS.rR HO609.out) hb); have n2_ := Aside0.mk (Kd.R_below (GS.rR HO612.out) hb); have n3_ := Aside0.mk (Kd.R_below (GS.rR HO616.out) hb); have n4_ := Aside0.mk (Kd.R_below (GS.rR HO621.out) hb); have n5_ := Aside0.mk (Kd.R_below (GS.rR HO624.out) hb); have n6_ := Aside0.mk (Kd.R_below (GS.rR HO627.out) hb); have n7_ := Aside0.mk (bqB (GS.bqX BK599.out) hb); have n8_ := Aside0.mk (lqT (GS.lB HB.out) hb); clear HO606; clear HO609; clear HO612; clear HO616; clear HO621; clear HO624; clear HO627; clear BK599; clear HB; have HO606 := n0_; have HO609 := n1_; have HO612 := n2_; have HO616 := n3_; have HO621 := n4_; have HO624 := n5_; have HO627 := n6_; have BK599 := n7_; have HB := n8_; clear n0_ n1_ n2_ n3_ n4_ n5_ n6_ n7_ n8_; (try clear hb); (try clear hb2); (try clear hk); (try clear hi); obtain ⟨hcz50_0, hcz50_1, hfz50_0, hfz50_1⟩ := GS.c2 BK599.out) | ((with_reducible refine gqC (f := 23) rfl ?_); refine GS.gL (some 63) Try.func23 #[.agg #[.int .i64 a0_0, .slice A0_1 l0_1.length c0_1], .slice A1 l1.length c1, .slice A2 l2.length c2, .int .i64 a3] ?_; (with_reducible refine (spileref51_Sum.calls kj4 a0_0 _ _ l0_1 _ _ l1 _ _ l2 a3 t630 t631 _ ?side1 ?side2 ?side3 ?side4 ?side5 ?side6 A29.out).mono ?_); (case side1 => exact GS.rC (Kd.C_below HR0_1.out HB.out)); (case side2 => exact HC0_1.out); (case side3 => exact GS.rC (Kd.C_below HR1.out HB.out)); (case side4 => exact HC1.out); (case side5 => exact GS.rC (Kd.C_below HR2.out HB.out)); (case side6 => exact HC2.out); rintro e w51 ⟨rfl, hb⟩; refine ⟨_, rfl, ?_⟩; have n0_ := Aside0.mk (Kd.R_below (GS.rR HO606.out) hb); have n1_ := Aside0.mk (Kd.R_below (GS.rR HO609.out) hb); have n2_ := Aside0.mk (Kd.R_below (GS.rR HO612.out) hb); have n3_ := Aside0.mk (Kd.R_below (GS.rR HO616.out) hb); have n4_ := Aside0.mk (Kd.R_below (GS.rR HO621.out) hb); have n5_ := Aside0.mk (Kd.R_below (GS.rR HO624.out) hb); have n6_ := Aside0.mk (Kd.R_below (GS.rR HO627.out) hb); have n7_ := Aside0.mk (bqB (GS.bqX BK599.out) hb); have n8_ := Aside0.mk (lqT (GS.lB HB.out) hb); clear HO606; clear HO609; clear HO612; clear HO616; clear HO621; clear HO624; clear HO627; clear BK599; clear HB; have HO606 := n0_; have HO609 := n1_; have HO612 := n2_; have HO616 := n3_; have HO621 := n4_; have HO624 := n5_; have HO627 := n6_; have BK599 := n7_; have HB := n8_; clear n0_ n1_ n2_ n3_ n4_ n5_ n6_ n7_ n8_; (try clear hb); (try clear hb2); (try clear hk); (try clear hi); obtain ⟨Ao52, co52, eo52⟩ := Kd.R_slice HO612.out; subst eo52; obtain ⟨Ao53, co53, eo53⟩ := Kd.R_slice HO616.out; subst eo53) | ((with_reducible refine gqC (f := 24) rfl ?_); refine GS.gL (some 68) Try.func24 #[.slice Ao52 t610.length co52, .slice Ao53 t614.length co53] ?_; (with_reducible refine (api_Outcome_24.calls kj4 _ _ t610 _ _ t614 true _ ?side1 ?side2 ?side3 ?side4 A30.out).mono ?_); (case side1 => repeat (first | exact (Kd.R_reads' HO612.out).2.2 | (with_reducible refine Kd.C_alloc ?_ _) | (with_reducible refine Kd.C_drewN ?_ _) | (with_reducible refine Kd.C_drew ?_))); (case side2 => exact (Kd.R_reads' HO612.out).2.1); (case side3 => repeat (first | exact (Kd.R_reads' HO616.out).2.2 | (with_reducible refine Kd.C_alloc ?_ _) | (with_reducible refine Kd.C_drewN ?_ _) | (with_reducible refine Kd.C_drew ?_))); (case side4 => exact (Kd.R_reads' HO616.out).2.1); rintro e w' ⟨rfl, ⟨nd, rfl⟩⟩; refine ⟨_, rfl, ?_⟩))
       go_ret
       exact ⟨by first | rfl | (simp [errW_none, errW_some] <;> rfl) | (simp [*, errW_none, errW_some] <;> rfl), GS.lB HB.out⟩
      ·rw [if_neg c33] at H
       exact absurd H (by simp)
     ·rw [if_neg c32] at H
      exact absurd H (by simp)
    ·replace c31 := Bool.eq_false_iff.mpr c31
     subst c31
     have H1 : (none) = some r := by rw [if_neg (show ¬ (false = true) by decide)] at H; exact H
     clear H
     have H := H1
     clear H1
     exact absurd H (by simp)

end Go.Proofs.Ythboaobgipodiaa.K
