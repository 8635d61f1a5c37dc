-- PRINTED by print.py (a twelfth state) out of the translation. Not trusted: Lean checks it.
import Derived.Test.YthboaobgipodiaaK0
import Derived.Test.YthboaobgipodiaaGShort
import Derived.Test.YthboaobgipodiaaK7
import Derived.Test.YthboaobgipodiaaK15
import Derived.Test.YthboaobgipodiaaK17
import Derived.Test.YthboaobgipodiaaK18
import Derived.Test.YthboaobgipodiaaK20
import Derived.Test.YthboaobgipodiaaK21
import Derived.Test.YthboaobgipodiaaK31
import Derived.Test.YthboaobgipodiaaGBonds
import Derived.Test.YthboaobgipodiaaGClone
namespace Go.Proofs.Ythboaobgipodiaa.K
open Go.RowKit Go.Proofs.YthboaobgipodiaaW.PrintWords Go.Proofs.YthboaobgipodiaaW.PrintLast Go.Proofs.YthboaobgipodiaaW.PrintMore
attribute [local go_sem] max2_int min2_int max_two min_two max_three min_three max_four min_four   -- for this text's walks alone
set_option linter.unusedVariables false
set_option linter.unusedSimpArgs false

/-! ### spilelaw51_LiabilitySums: function 3 -/
def spilelaw51_LiabilitySums.j0 : Nat → List (S35) → Int → Bool → Int → List (S60) → Option (Bool)
 | 0, _, _, _, _, _ => none
 | k + 1, x1, x2, x24, x558000, x558001 => if x24 = true then ((spilelaw51_awake.f k).bind fun t560 => (some t560)) else ((spilelaw51_ct.f x558000 x558001).bind fun bt561 => ((clone13.f x1).bind fun t565 => ((liability_Greatest.f k bt561.1 bt561.2 t565 x2).bind fun bt568 => ((spileref51_Greatest.f k x558000 x558001 x1 x2).bind fun bt573 => ((spilelaw51_ct.f x558000 x558001).bind fun bt578 => ((clone13.f x1).bind fun t582 => ((liability_Bonds.f k bt578.1 bt578.2 t582 x2).bind fun bt585 => ((spileref51_Bonds.f k x558000 x558001 x1 x2).bind fun bt589 => ((slices_Equal_int_int.f k bt568.1 bt573.1).bind fun t593 => (if t593 = true then (if bt568.2.1 = bt573.2.1 then (if bt568.2.2 = bt573.2.2 then ((api_Hold.f k bt585.1 bt589.1).bind fun t594 => (if t594 = true then (some (bt585.2 == bt589.2)) else (none))) else (none)) else (none)) else (none)))))))))))
def spilelaw51_LiabilitySums.f (k : Nat) (a0_0 : Int) (l0_1 : List (S60)) (l1 : List (S35)) (a2 : Int) : Option (Bool) := (spilelaw51_awake.f k).bind fun t558 => (if t558 = true then ((spilelaw51_few.f a0_0 l0_1 l1).bind fun t559 => (spilelaw51_LiabilitySums.j0 k l1 a2 (!t559) a0_0 l0_1)) else (spilelaw51_LiabilitySums.j0 k l1 a2 true a0_0 l0_1))
theorem spilelaw51_LiabilitySums.mono_l : ∀ k, (∀ y0 y1 y2 y3 y4, LeO (spilelaw51_LiabilitySums.j0 k y0 y1 y2 y3 y4) (spilelaw51_LiabilitySums.j0 (k + 1) y0 y1 y2 y3 y4))
 | 0 => fun _ _ _ _ _ r h => by simp [spilelaw51_LiabilitySums.j0] at h
 | k + 1 => by
  have ih0 := spilelaw51_LiabilitySums.mono_l k
  ·intro y0 y1 y2 y3 y4
   unfold spilelaw51_LiabilitySums.j0
   repeat' first
   | (with_reducible exact ih0 _ _ _ _ _)
   | (with_reducible exact api_Hold.mono _ _ _)
   | (with_reducible exact liability_Bonds.mono _ _ _ _ _)
   | (with_reducible exact liability_Greatest.mono _ _ _ _ _)
   | (with_reducible exact slices_Equal_int_int.mono _ _ _)
   | (with_reducible exact spilelaw51_awake.mono _)
   | (with_reducible exact spileref51_Bonds.mono _ _ _ _ _)
   | (with_reducible exact spileref51_Greatest.mono _ _ _ _ _)
   | (with_reducible exact LeO.refl _)
   | (with_reducible exact LeO.none _)
   | (with_reducible refine LeO.ite ?_ ?_)
   | (with_reducible refine LeO.bind ?_ (fun _ => ?_))
   | exact ih0 _ _ _ _ _
   | exact api_Hold.mono _ _ _
   | exact liability_Bonds.mono _ _ _ _ _
   | exact liability_Greatest.mono _ _ _ _ _
   | exact slices_Equal_int_int.mono _ _ _
   | exact spilelaw51_awake.mono _
   | exact spileref51_Bonds.mono _ _ _ _ _
   | exact spileref51_Greatest.mono _ _ _ _ _
   | exact LeO.none _
   | refine LeO.ite ?_ ?_
   | refine LeO.bind ?_ (fun _ => ?_)
theorem spilelaw51_LiabilitySums.mono : ∀ a0 a1 a2 a3 k, LeO (spilelaw51_LiabilitySums.f k a0 a1 a2 a3) (spilelaw51_LiabilitySums.f (k + 1) a0 a1 a2 a3) := by
 intro a0 a1 a2 a3 k
 have ih0 := spilelaw51_LiabilitySums.mono_l k
 unfold spilelaw51_LiabilitySums.f
 repeat' first
   | (with_reducible exact ih0 _ _ _ _ _)
   | (with_reducible exact api_Hold.mono _ _ _)
   | (with_reducible exact liability_Bonds.mono _ _ _ _ _)
   | (with_reducible exact liability_Greatest.mono _ _ _ _ _)
   | (with_reducible exact slices_Equal_int_int.mono _ _ _)
   | (with_reducible exact spilelaw51_awake.mono _)
   | (with_reducible exact spileref51_Bonds.mono _ _ _ _ _)
   | (with_reducible exact spileref51_Greatest.mono _ _ _ _ _)
   | (with_reducible exact LeO.refl _)
   | (with_reducible exact LeO.none _)
   | (with_reducible refine LeO.ite ?_ ?_)
   | (with_reducible refine LeO.bind ?_ (fun _ => ?_))
   | exact ih0 _ _ _ _ _
   | exact api_Hold.mono _ _ _
   | exact liability_Bonds.mono _ _ _ _ _
   | exact liability_Greatest.mono _ _ _ _ _
   | exact slices_Equal_int_int.mono _ _ _
   | exact spilelaw51_awake.mono _
   | exact spileref51_Bonds.mono _ _ _ _ _
   | exact spileref51_Greatest.mono _ _ _ _ _
   | exact LeO.none _
   | refine LeO.ite ?_ ?_
   | refine LeO.bind ?_ (fun _ => ?_)
set_option maxHeartbeats 8000000 in
set_option maxRecDepth 100000 in
theorem spilelaw51_LiabilitySums.calls (k : Nat) (a0_0 : Int) (A0_1 : Option Addr) (c0_1 : Nat) (l0_1 : List (S60)) (A1 : Option Addr) (c1 : Nat) (l1 : List (S35)) (a2 : Int) (r : Bool) (w : World) (hr0_1 : Kd.C k60 w A0_1 l0_1.length l0_1) (hc0_1 : l0_1.length ≤ c0_1) (hr1 : Kd.C k35 w A1 l1.length l1) (hc1 : l1.length ≤ c1) (h : spilelaw51_LiabilitySums.f k a0_0 l0_1 l1 a2 = some r) :
  Calls Try.prog 3 #[.agg #[.int .i64 a0_0, .slice A0_1 l0_1.length c0_1], .slice A1 l1.length c1, .int .i64 a2] w fun e w' => e = .returned (.bool r) ∧ Below w.heap.size w w' := by
 have hu24 := Try.underlying24
 have HR0_1 := Aside0.mk hr0_1
 have HC0_1 := Aside0.mk hc0_1
 clear hr0_1 hc0_1
 have HR1 := Aside0.mk hr1
 have HC1 := Aside0.mk hc1
 clear hr1 hc1
 have HB := Aside0.mk (Below.refl w.heap.size w)
 have H : ((spilelaw51_awake.f k).bind fun t558 => (if t558 = true then ((spilelaw51_few.f a0_0 l0_1 l1).bind fun t559 => (spilelaw51_LiabilitySums.j0 k l1 a2 (!t559) a0_0 l0_1)) else (spilelaw51_LiabilitySums.j0 k l1 a2 true a0_0 l0_1))) = some r := h
 clear h
 have HC4 := Aside0.mk H
 clear H
 go_enter Try.func3, Try.ntmps3
 go_upto_region 1 with (first | ((with_reducible refine gqD (N := 3) rfl ?_); refine GS.bx (N := 3) (cs := #[.int .i64 a0_0, .slice A0_1 l0_1.length c0_1]) (t := 24) ?_; intro gb557 hg w5 hbox hb; have n0_ := Aside0.mk (lqT (GS.lB HB.out) hb); have n1_ := Aside0.mk (hbox); have n2_ := Aside0.mk ((by rw [hg]; exact (lqZ (GS.lB HB.out)) : w.heap.size ≤ gb557)); have n3_ := Aside0.mk ((by rw [hg]; exact (lqZ (GS.lB HB.out)) : w.heap.size ≤ gb557)); clear HB; have HB := n0_; have BK557 := n1_; have GW557 := n2_; have GE557 := n3_; clear n0_ n1_ n2_ n3_; clear hb hbox hg))
 (try simp only [Act.put, List.setIfInBounds_toArray, List.set_cons_zero, List.set_cons_succ])
 go_cut [24] (fun v24 wc => ∃ (kq : Nat) (x24_3 : Bool), v24 = .bool x24_3 ∧ Aside0 (spilelaw51_LiabilitySums.j0 kq l1 a2 x24_3 a0_0 l0_1 = some r) ∧ Aside0 (kq ≤ k) ∧ Aside0 (wc.heap[gb557]? = some (.cells #[.int .i64 a0_0, (.slice A0_1 l0_1.length c0_1)] 24 (0, 0))) ∧ Aside0 (Below w.heap.size w wc))
 case first =>
  have H := HC4.out
  clear HC4
  replace H := Option.bind_eq_some_iff.mp H
  obtain ⟨t558, A60, H⟩ := H
  replace H : (if t558 = true then ((spilelaw51_few.f a0_0 l0_1 l1).bind fun t559 => (spilelaw51_LiabilitySums.j0 k l1 a2 (!t559) a0_0 l0_1)) else (spilelaw51_LiabilitySums.j0 k l1 a2 true a0_0 l0_1)) = some r := H
  have A6 := Aside0.mk A60
  clear A60
  by_cases c7 : t558 = true
  ·subst c7
   have H1 : ((spilelaw51_few.f a0_0 l0_1 l1).bind fun t559 => (spilelaw51_LiabilitySums.j0 k l1 a2 (!t559) a0_0 l0_1)) = some r := by rw [if_pos rfl] at H; exact H
   clear H
   have H := H1
   clear H1
   replace H := Option.bind_eq_some_iff.mp H
   obtain ⟨t559, A80, H⟩ := H
   replace H : (spilelaw51_LiabilitySums.j0 k l1 a2 (!t559) a0_0 l0_1) = some r := H
   have A8 := Aside0.mk A80
   clear A80
   have H' := Aside0.mk H
   clear H
   go_wp2_with (first | ((with_reducible refine gqC (f := 9) rfl ?_); refine GS.gL (some 17) Try.func9 #[] ?_; (with_reducible refine (spilelaw51_awake.calls k  true _ A6.out).mono ?_); rintro e w9 ⟨rfl, hb⟩; refine ⟨_, rfl, ?_⟩; have n0_ := Aside0.mk (bqB (GS.bqX BK557.out) hb); have n1_ := Aside0.mk (lqT (GS.lB HB.out) hb); clear BK557; clear HB; have BK557 := n0_; have HB := n1_; clear n0_ n1_; (try clear hb); (try clear hb2); (try clear hk); (try clear hi); obtain ⟨hcz10_0, hcz10_1, hfz10_0, hfz10_1⟩ := GS.c2 BK557.out) | (go_at_call 10; (with_reducible refine (spilelaw51_few.calls a0_0 _ _ l0_1 _ _ l1 t559 _ ?side1 ?side2 ?side3 ?side4 A8.out).mono ?_); (case side1 => exact GS.rC (Kd.C_below HR0_1.out HB.out)); (case side2 => exact HC0_1.out); (case side3 => exact GS.rC (Kd.C_below HR1.out HB.out)); (case side4 => exact HC1.out); rintro e w11 ⟨rfl, hb⟩; have n0_ := Aside0.mk (bqB (GS.bqX BK557.out) hb); have n1_ := Aside0.mk (lqT (GS.lB HB.out) hb); clear BK557; clear HB; have BK557 := n0_; have HB := n1_; clear n0_ n1_; (try clear hb); (try clear hb2); (try clear hk); (try clear hi)))
   go_meet
   case rel => exact ⟨_, (!t559), (by first | rfl | (simp; done) | (simp [*]; done)), H', ⟨by first | omega | exact Nat.le_refl _⟩, ⟨GS.bqX BK557.out⟩, ⟨GS.lB HB.out⟩⟩
  ·replace c7 := Bool.eq_false_iff.mpr c7
   subst c7
   have H1 : (spilelaw51_LiabilitySums.j0 k l1 a2 true a0_0 l0_1) = some r := by rw [if_neg (show ¬ (false = true) by decide)] at H; exact H
   clear H
   have H := H1
   clear H1
   have H' := Aside0.mk H
   clear H
   go_wp2_with (first | ((with_reducible refine gqC (f := 9) rfl ?_); refine GS.gL (some 17) Try.func9 #[] ?_; (with_reducible refine (spilelaw51_awake.calls k  false _ A6.out).mono ?_); rintro e w12 ⟨rfl, hb⟩; refine ⟨_, rfl, ?_⟩; have n0_ := Aside0.mk (bqB (GS.bqX BK557.out) hb); have n1_ := Aside0.mk (lqT (GS.lB HB.out) hb); clear BK557; clear HB; have BK557 := n0_; have HB := n1_; clear n0_ n1_; (try clear hb); (try clear hb2); (try clear hk); (try clear hi)))
   go_meet
   case rel => exact ⟨_, (true), (by first | rfl | (simp; done) | (simp [*]; done)), H', ⟨by first | omega | exact Nat.le_refl _⟩, ⟨GS.bqX BK557.out⟩, ⟨GS.lB HB.out⟩⟩
 case rest =>
  clear HC4
  try clear c1
  try clear p2
  try clear c3
  try clear c7
  try clear c9
  try clear hcz10_0
  try clear hcz10_1
  try clear hfz10_0
  try clear hfz10_1
  obtain ⟨kq, x24_3, rfl, HA, HJ3, BK557, HB⟩ := hcut
  cases kq with
  | zero => exact absurd HA.out (by simp [spilelaw51_LiabilitySums.j0])
  | succ kj3 =>
   have H := HA.out
   clear HA
   simp only [spilelaw51_LiabilitySums.j0] at H
   by_cases c13 : x24_3 = true
   ·subst c13
    have H1 : ((spilelaw51_awake.f kj3).bind fun t560 => (some t560)) = some r := by rw [if_pos rfl] at H; exact H
    clear H
    have H := H1
    clear H1
    replace H := Option.bind_eq_some_iff.mp H
    obtain ⟨t560, A140, H⟩ := H
    replace H : (some t560) = some r := H
    have A14 := Aside0.mk A140
    clear A140
    obtain rfl := Option.some.inj H
    go_wp2_with (first | ((with_reducible refine gqC (f := 9) rfl ?_); refine GS.gL (some 25) Try.func9 #[] ?_; (with_reducible refine (spilelaw51_awake.calls kj3  t560 _ A14.out).mono ?_); rintro e w15 ⟨rfl, hb⟩; refine ⟨_, rfl, ?_⟩; have n0_ := Aside0.mk (bqB (GS.bqX BK557.out) hb); have n1_ := Aside0.mk (lqT (GS.lB HB.out) hb); clear BK557; clear HB; have BK557 := n0_; have HB := n1_; clear n0_ n1_; (try clear hb); (try clear hb2); (try clear hk); (try clear hi)))
    go_ret
    exact ⟨by first | rfl | (simp [errW_none, errW_some] <;> rfl) | (simp [*, errW_none, errW_some] <;> rfl), GS.lB HB.out⟩
   ·replace c13 := Bool.eq_false_iff.mpr c13
    subst c13
    have H1 : ((spilelaw51_ct.f a0_0 l0_1).bind fun bt561 => ((clone13.f l1).bind fun t565 => ((liability_Greatest.f kj3 bt561.1 bt561.2 t565 a2).bind fun bt568 => ((spileref51_Greatest.f kj3 a0_0 l0_1 l1 a2).bind fun bt573 => ((spilelaw51_ct.f a0_0 l0_1).bind fun bt578 => ((clone13.f l1).bind fun t582 => ((liability_Bonds.f kj3 bt578.1 bt578.2 t582 a2).bind fun bt585 => ((spileref51_Bonds.f kj3 a0_0 l0_1 l1 a2).bind fun bt589 => ((slices_Equal_int_int.f kj3 bt568.1 bt573.1).bind fun t593 => (if t593 = true then (if bt568.2.1 = bt573.2.1 then (if bt568.2.2 = bt573.2.2 then ((api_Hold.f kj3 bt585.1 bt589.1).bind fun t594 => (if t594 = true then (some (bt585.2 == bt589.2)) else (none))) else (none)) else (none)) else (none))))))))))) = some r := by rw [if_neg (show ¬ (false = true) by decide)] at H; exact H
    clear H
    have H := H1
    clear H1
    replace H := Option.bind_eq_some_iff.mp H
    obtain ⟨⟨t561, t562⟩, A160, H⟩ := H
    replace H : ((clone13.f l1).bind fun t565 => ((liability_Greatest.f kj3 t561 t562 t565 a2).bind fun bt568 => ((spileref51_Greatest.f kj3 a0_0 l0_1 l1 a2).bind fun bt573 => ((spilelaw51_ct.f a0_0 l0_1).bind fun bt578 => ((clone13.f l1).bind fun t582 => ((liability_Bonds.f kj3 bt578.1 bt578.2 t582 a2).bind fun bt585 => ((spileref51_Bonds.f kj3 a0_0 l0_1 l1 a2).bind fun bt589 => ((slices_Equal_int_int.f kj3 bt568.1 bt573.1).bind fun t593 => (if t593 = true then (if bt568.2.1 = bt573.2.1 then (if bt568.2.2 = bt573.2.2 then ((api_Hold.f kj3 bt585.1 bt589.1).bind fun t594 => (if t594 = true then (some (bt585.2 == bt589.2)) else (none))) else (none)) else (none)) else (none)))))))))) = some r := H
    have A16 := Aside0.mk A160
    clear A160
    replace H := Option.bind_eq_some_iff.mp H
    obtain ⟨t565, A170, H⟩ := H
    replace H : ((liability_Greatest.f kj3 t561 t562 t565 a2).bind fun bt568 => ((spileref51_Greatest.f kj3 a0_0 l0_1 l1 a2).bind fun bt573 => ((spilelaw51_ct.f a0_0 l0_1).bind fun bt578 => ((clone13.f l1).bind fun t582 => ((liability_Bonds.f kj3 bt578.1 bt578.2 t582 a2).bind fun bt585 => ((spileref51_Bonds.f kj3 a0_0 l0_1 l1 a2).bind fun bt589 => ((slices_Equal_int_int.f kj3 bt568.1 bt573.1).bind fun t593 => (if t593 = true then (if bt568.2.1 = bt573.2.1 then (if bt568.2.2 = bt573.2.2 then ((api_Hold.f kj3 bt585.1 bt589.1).bind fun t594 => (if t594 = true then (some (bt585.2 == bt589.2)) else (none))) else (none)) else (none)) else (none))))))))) = some r := H
    have A17 := Aside0.mk A170
    clear A170
    replace H := Option.bind_eq_some_iff.mp H
    obtain ⟨⟨t568, t571, t572⟩, A180, H⟩ := H
    replace H : ((spileref51_Greatest.f kj3 a0_0 l0_1 l1 a2).bind fun bt573 => ((spilelaw51_ct.f a0_0 l0_1).bind fun bt578 => ((clone13.f l1).bind fun t582 => ((liability_Bonds.f kj3 bt578.1 bt578.2 t582 a2).bind fun bt585 => ((spileref51_Bonds.f kj3 a0_0 l0_1 l1 a2).bind fun bt589 => ((slices_Equal_int_int.f kj3 t568 bt573.1).bind fun t593 => (if t593 = true then (if t571 = bt573.2.1 then (if t572 = bt573.2.2 then ((api_Hold.f kj3 bt585.1 bt589.1).bind fun t594 => (if t594 = true then (some (bt585.2 == bt589.2)) else (none))) else (none)) else (none)) else (none)))))))) = some r := H
    have A18 := Aside0.mk A180
    clear A180
    replace H := Option.bind_eq_some_iff.mp H
    obtain ⟨⟨t573, t576, t577⟩, A190, H⟩ := H
    replace H : ((spilelaw51_ct.f a0_0 l0_1).bind fun bt578 => ((clone13.f l1).bind fun t582 => ((liability_Bonds.f kj3 bt578.1 bt578.2 t582 a2).bind fun bt585 => ((spileref51_Bonds.f kj3 a0_0 l0_1 l1 a2).bind fun bt589 => ((slices_Equal_int_int.f kj3 t568 t573).bind fun t593 => (if t593 = true then (if t571 = t576 then (if t572 = t577 then ((api_Hold.f kj3 bt585.1 bt589.1).bind fun t594 => (if t594 = true then (some (bt585.2 == bt589.2)) else (none))) else (none)) else (none)) else (none))))))) = some r := H
    have A19 := Aside0.mk A190
    clear A190
    replace H := Option.bind_eq_some_iff.mp H
    obtain ⟨⟨t578, t579⟩, A200, H⟩ := H
    replace H : ((clone13.f l1).bind fun t582 => ((liability_Bonds.f kj3 t578 t579 t582 a2).bind fun bt585 => ((spileref51_Bonds.f kj3 a0_0 l0_1 l1 a2).bind fun bt589 => ((slices_Equal_int_int.f kj3 t568 t573).bind fun t593 => (if t593 = true then (if t571 = t576 then (if t572 = t577 then ((api_Hold.f kj3 bt585.1 bt589.1).bind fun t594 => (if t594 = true then (some (bt585.2 == bt589.2)) else (none))) else (none)) else (none)) else (none)))))) = some r := H
    have A20 := Aside0.mk A200
    clear A200
    replace H := Option.bind_eq_some_iff.mp H
    obtain ⟨t582, A210, H⟩ := H
    replace H : ((liability_Bonds.f kj3 t578 t579 t582 a2).bind fun bt585 => ((spileref51_Bonds.f kj3 a0_0 l0_1 l1 a2).bind fun bt589 => ((slices_Equal_int_int.f kj3 t568 t573).bind fun t593 => (if t593 = true then (if t571 = t576 then (if t572 = t577 then ((api_Hold.f kj3 bt585.1 bt589.1).bind fun t594 => (if t594 = true then (some (bt585.2 == bt589.2)) else (none))) else (none)) else (none)) else (none))))) = some r := H
    have A21 := Aside0.mk A210
    clear A210
    replace H := Option.bind_eq_some_iff.mp H
    obtain ⟨⟨t585, t588⟩, A220, H⟩ := H
    replace H : ((spileref51_Bonds.f kj3 a0_0 l0_1 l1 a2).bind fun bt589 => ((slices_Equal_int_int.f kj3 t568 t573).bind fun t593 => (if t593 = true then (if t571 = t576 then (if t572 = t577 then ((api_Hold.f kj3 t585 bt589.1).bind fun t594 => (if t594 = true then (some (t588 == bt589.2)) else (none))) else (none)) else (none)) else (none)))) = some r := H
    have A22 := Aside0.mk A220
    clear A220
    replace H := Option.bind_eq_some_iff.mp H
    obtain ⟨⟨t589, t592⟩, A230, H⟩ := H
    replace H : ((slices_Equal_int_int.f kj3 t568 t573).bind fun t593 => (if t593 = true then (if t571 = t576 then (if t572 = t577 then ((api_Hold.f kj3 t585 t589).bind fun t594 => (if t594 = true then (some (t588 == t592)) else (none))) else (none)) else (none)) else (none))) = some r := H
    have A23 := Aside0.mk A230
    clear A230
    replace H := Option.bind_eq_some_iff.mp H
    obtain ⟨t593, A240, H⟩ := H
    replace H : (if t593 = true then (if t571 = t576 then (if t572 = t577 then ((api_Hold.f kj3 t585 t589).bind fun t594 => (if t594 = true then (some (t588 == t592)) else (none))) else (none)) else (none)) else (none)) = some r := H
    have A24 := Aside0.mk A240
    clear A240
    by_cases c25 : t593 = true
    ·subst c25
     have H1 : (if t571 = t576 then (if t572 = t577 then ((api_Hold.f kj3 t585 t589).bind fun t594 => (if t594 = true then (some (t588 == t592)) else (none))) else (none)) else (none)) = some r := by rw [if_pos rfl] at H; exact H
     clear H
     have H := H1
     clear H1
     by_cases c26 : t571 = t576
     ·rw [if_pos c26] at H
      have c26b0 : (t571 == t576) = true := beq_iff_eq.mpr c26
      try simp only [beq_self_eq_true, Bool.not_true, Bool.false_or, Bool.true_and] at c26b0
      have c26b1 : (t571 != t576) = false := bne_eq_false_iff_eq.mpr c26
      clear c26
      by_cases c27 : t572 = t577
      ·rw [if_pos c27] at H
       have c27b0 : (t572 == t577) = true := beq_iff_eq.mpr c27
       try simp only [beq_self_eq_true, Bool.not_true, Bool.false_or, Bool.true_and] at c27b0
       have c27b1 : (t572 != t577) = false := bne_eq_false_iff_eq.mpr c27
       clear c27
       replace H := Option.bind_eq_some_iff.mp H
       obtain ⟨t594, A280, H⟩ := H
       replace H : (if t594 = true then (some (t588 == t592)) else (none)) = some r := H
       have A28 := Aside0.mk A280
       clear A280
       by_cases c29 : t594 = true
       ·subst c29
        have H1 : (some (t588 == t592)) = some r := by rw [if_pos rfl] at H; exact H
        clear H
        have H := H1
        clear H1
        obtain rfl := Option.some.inj H
        obtain ⟨hcz30_0, hcz30_1, hfz30_0, hfz30_1⟩ := GS.c2 BK557.out
        go_wp2_with (first | ((with_reducible refine gqC (f := 12) rfl ?_); refine GS.gL (some 28) Try.func12 #[.agg #[.int .i64 a0_0, .slice A0_1 l0_1.length c0_1]] ?_; (with_reducible refine (spilelaw51_ct.calls a0_0 _ _ l0_1 t561 t562 _ ?side1 ?side2 A16.out).mono ?_); (case side1 => exact GS.rC (Kd.C_below HR0_1.out HB.out)); (case side2 => exact HC0_1.out); rintro e w31 ⟨v563, rfl, ho0, hb⟩; refine ⟨_, rfl, ?_⟩; have n0_ := Aside0.mk (Kd.R_lower ho0 (lqZ (GS.lB HB.out))); have n1_ := Aside0.mk (bqB (GS.bqX BK557.out) hb); have n2_ := Aside0.mk (lqT (GS.lB HB.out) hb); clear BK557; clear HB; have HO564 := n0_; have BK557 := n1_; have HB := n2_; clear n0_ n1_ n2_; (try clear hb); (try clear hb2); (try clear hk); (try clear hi); (try clear ho0)) | ((with_reducible refine gqC (f := 13) rfl ?_); refine GS.gL (some 30) Try.func13 #[.slice A1 l1.length c1] ?_; (with_reducible refine (clone13.calls _ _ l1 t565 _ ?side1 ?side2 A17.out).mono ?_); (case side1 => exact GS.rC (Kd.C_below HR1.out HB.out)); (case side2 => exact HC1.out); rintro e w32 ⟨v566, rfl, ho0, hb⟩; refine ⟨_, rfl, ?_⟩; have n0_ := Aside0.mk (Kd.R_below (GS.rR HO564.out) hb); have n1_ := Aside0.mk (Kd.R_lower ho0 (lqZ (GS.lB HB.out))); have n2_ := Aside0.mk (bqB (GS.bqX BK557.out) hb); have n3_ := Aside0.mk (lqT (GS.lB HB.out) hb); clear HO564; clear BK557; clear HB; have HO564 := n0_; have HO567 := n1_; have BK557 := n2_; have HB := n3_; clear n0_ n1_ n2_ n3_; (try clear hb); (try clear hb2); (try clear hk); (try clear hi); (try clear ho0); obtain ⟨Ao33, co33, eo33⟩ := Kd.R_slice HO564.out; subst eo33; obtain ⟨Ao34, co34, eo34⟩ := Kd.R_slice HO567.out; subst eo34) | ((with_reducible refine gqC (f := 11) rfl ?_); refine GS.gL (some 32) Try.func11 #[.agg #[.int .i64 t561, .slice Ao33 t562.length co33], .slice Ao34 t565.length co34, .int .i64 a2] ?_; (with_reducible refine (liability_Greatest.calls kj3 t561 _ _ t562 _ _ t565 a2 t568 t571 t572 _ ?side1 ?side2 ?side3 ?side4 A18.out).mono ?_); (case side1 => repeat (first | exact (Kd.R_reads' HO564.out).2.2 | (with_reducible refine Kd.C_alloc ?_ _) | (with_reducible refine Kd.C_drewN ?_ _) | (with_reducible refine Kd.C_drew ?_))); (case side2 => exact (Kd.R_reads' HO564.out).2.1); (case side3 => repeat (first | exact (Kd.R_reads' HO567.out).2.2 | (with_reducible refine Kd.C_alloc ?_ _) | (with_reducible refine Kd.C_drewN ?_ _) | (with_reducible refine Kd.C_drew ?_))); (case side4 => exact (Kd.R_reads' HO567.out).2.1); rintro e w35 ⟨v569, rfl, ho0, hb⟩; refine ⟨_, rfl, ?_⟩; have n0_ := Aside0.mk (Kd.R_below (GS.rR HO564.out) hb); have n1_ := Aside0.mk (Kd.R_below (GS.rR HO567.out) hb); have n2_ := Aside0.mk (Kd.R_lower ho0 (lqZ (GS.lB HB.out))); have n3_ := Aside0.mk (bqB (GS.bqX BK557.out) hb); have n4_ := Aside0.mk (lqT (GS.lB HB.out) hb); clear HO564; clear HO567; clear BK557; clear HB; have HO564 := n0_; have HO567 := n1_; have HO570 := n2_; have BK557 := n3_; have HB := n4_; clear n0_ n1_ n2_ n3_ n4_; (try clear hb); (try clear hb2); (try clear hk); (try clear hi); (try clear ho0); obtain ⟨hcz36_0, hcz36_1, hfz36_0, hfz36_1⟩ := GS.c2 BK557.out) | ((with_reducible refine gqC (f := 14) rfl ?_); refine GS.gL (some 40) Try.func14 #[.agg #[.int .i64 a0_0, .slice A0_1 l0_1.length c0_1], .slice A1 l1.length c1, .int .i64 a2] ?_; (with_reducible refine (spileref51_Greatest.calls kj3 a0_0 _ _ l0_1 _ _ l1 a2 t573 t576 t577 _ ?side1 ?side2 ?side3 ?side4 A19.out).mono ?_); (case side1 => exact GS.rC (Kd.C_below HR0_1.out HB.out)); (case side2 => exact HC0_1.out); (case side3 => exact GS.rC (Kd.C_below HR1.out HB.out)); (case side4 => exact HC1.out); rintro e w37 ⟨v574, rfl, ho0, hb⟩; refine ⟨_, rfl, ?_⟩; have n0_ := Aside0.mk (Kd.R_below (GS.rR HO564.out) hb); have n1_ := Aside0.mk (Kd.R_below (GS.rR HO567.out) hb); have n2_ := Aside0.mk (Kd.R_elder' (GS.rR HO570.out) (Kd.R_base ho0) hb); have n3_ := Aside0.mk (Kd.R_lower (Kd.R_new' ho0 (Kd.R_lt (GS.rR HO570.out))) (lqZ (GS.lB HB.out))); have n4_ := Aside0.mk (bqB (GS.bqX BK557.out) hb); have n5_ := Aside0.mk (lqT (GS.lB HB.out) hb); clear HO564; clear HO567; clear HO570; clear BK557; clear HB; have HO564 := n0_; have HO567 := n1_; have HO570 := n2_; have HO575 := n3_; have BK557 := n4_; have HB := n5_; clear n0_ n1_ n2_ n3_ n4_ n5_; (try clear hb); (try clear hb2); (try clear hk); (try clear hi); (try clear ho0); obtain ⟨hcz38_0, hcz38_1, hfz38_0, hfz38_1⟩ := GS.c2 BK557.out) | ((with_reducible refine gqC (f := 12) rfl ?_); refine GS.gL (some 46) Try.func12 #[.agg #[.int .i64 a0_0, .slice A0_1 l0_1.length c0_1]] ?_; (with_reducible refine (spilelaw51_ct.calls a0_0 _ _ l0_1 t578 t579 _ ?side1 ?side2 A20.out).mono ?_); (case side1 => exact GS.rC (Kd.C_below HR0_1.out HB.out)); (case side2 => exact HC0_1.out); rintro e w39 ⟨v580, rfl, ho0, hb⟩; refine ⟨_, rfl, ?_⟩; have n0_ := Aside0.mk (Kd.R_elder' (GS.rR HO564.out) (Kd.R_base ho0) hb); have n1_ := Aside0.mk (Kd.R_below (GS.rR HO567.out) hb); have n2_ := Aside0.mk (Kd.R_below (GS.rR HO570.out) hb); have n3_ := Aside0.mk (Kd.R_below (GS.rR HO575.out) hb); have n4_ := Aside0.mk (Kd.R_lower (Kd.R_new' ho0 (Kd.R_lt (GS.rR HO564.out))) (lqZ (GS.lB HB.out))); have n5_ := Aside0.mk (bqB (GS.bqX BK557.out) hb); have n6_ := Aside0.mk (lqT (GS.lB HB.out) hb); clear HO564; clear HO567; clear HO570; clear HO575; clear BK557; clear HB; have HO564 := n0_; have HO567 := n1_; have HO570 := n2_; have HO575 := n3_; have HO581 := n4_; have BK557 := n5_; have HB := n6_; clear n0_ n1_ n2_ n3_ n4_ n5_ n6_; (try clear hb); (try clear hb2); (try clear hk); (try clear hi); (try clear ho0)) | ((with_reducible refine gqC (f := 13) rfl ?_); refine GS.gL (some 48) Try.func13 #[.slice A1 l1.length c1] ?_; (with_reducible refine (clone13.calls _ _ l1 t582 _ ?side1 ?side2 A21.out).mono ?_); (case side1 => exact GS.rC (Kd.C_below HR1.out HB.out)); (case side2 => exact HC1.out); rintro e w40 ⟨v583, rfl, ho0, hb⟩; refine ⟨_, rfl, ?_⟩; have n0_ := Aside0.mk (Kd.R_below (GS.rR HO564.out) hb); have n1_ := Aside0.mk (Kd.R_elder' (GS.rR HO567.out) (Kd.R_base ho0) hb); have n2_ := Aside0.mk (Kd.R_below (GS.rR HO570.out) hb); have n3_ := Aside0.mk (Kd.R_below (GS.rR HO575.out) hb); have n4_ := Aside0.mk (Kd.R_below (GS.rR HO581.out) hb); have n5_ := Aside0.mk (Kd.R_lower (Kd.R_new' ho0 (Kd.R_lt (GS.rR HO567.out))) (lqZ (GS.lB HB.out))); have n6_ := Aside0.mk (bqB (GS.bqX BK557.out) hb); have n7_ := Aside0.mk (lqT (GS.lB HB.out) hb); clear HO564; clear HO567; clear HO570; clear HO575; clear HO581; clear BK557; clear HB; have HO564 := n0_; have HO567 := n1_; have HO570 := n2_; have HO575 := n3_; have HO581 := n4_; have HO584 := n5_; have BK557 := n6_; have HB := n7_; clear n0_ n1_ n2_ n3_ n4_ n5_ n6_ n7_; (try clear hb); (try clear hb2); (try clear hk); (try clear hi); (try clear ho0); obtain ⟨Ao41, co41, eo41⟩ := Kd.R_slice HO581.out; subst eo41; obtain ⟨Ao42, co42, eo42⟩ := Kd.R_slice HO584.out; subst eo42) | ((with_reducible refine gqC (f := 15) rfl ?_); refine GS.gL (some 50) Try.func15 #[.agg #[.int .i64 t578, .slice Ao41 t579.length co41], .slice Ao42 t582.length co42, .int .i64 a2] ?_; (with_reducible refine (liability_Bonds.calls kj3 t578 _ _ t579 _ _ t582 a2 t585 t588 _ ?side1 ?side2 ?side3 ?side4 A22.out).mono ?_); (case side1 => repeat (first | exact (Kd.R_reads' HO581.out).2.2 | (with_reducible refine Kd.C_alloc ?_ _) | (with_reducible refine Kd.C_drewN ?_ _) | (with_reducible refine Kd.C_drew ?_))); (case side2 => exact (Kd.R_reads' HO581.out).2.1); (case side3 => repeat (first | exact (Kd.R_reads' HO584.out).2.2 | (with_reducible refine Kd.C_alloc ?_ _) | (with_reducible refine Kd.C_drewN ?_ _) | (with_reducible refine Kd.C_drew ?_))); (case side4 => exact (Kd.R_reads' HO584.out).2.1); rintro e w43 ⟨v586, rfl, ho0, hb⟩; refine ⟨_, rfl, ?_⟩; have n0_ := Aside0.mk (Kd.R_below (GS.rR HO564.out) hb); have n1_ := Aside0.mk (Kd.R_below (GS.rR HO567.out) hb); have n2_ := Aside0.mk (Kd.R_below (GS.rR HO570.out) hb); have n3_ := Aside0.mk (Kd.R_below (GS.rR HO575.out) hb); have n4_ := Aside0.mk (Kd.R_below (GS.rR HO581.out) hb); have n5_ := Aside0.mk (Kd.R_below (GS.rR HO584.out) hb); have n6_ := Aside0.mk (Kd.R_lower ho0 (lqZ (GS.lB HB.out))); have n7_ := Aside0.mk (bqB (GS.bqX BK557.out) hb); have n8_ := Aside0.mk (lqT (GS.lB HB.out) hb); clear HO564; clear HO567; clear HO570; clear HO575; clear HO581; clear HO584; clear BK557; clear HB; have HO564 := n0_; have HO567 := n1_; have HO570 := n2_; have HO575 := n3_; have HO581 := n4_; have HO584 := n5_; have HO587 := n6_; have BK557 := n7_; have HB := n8_; clear n0_ n1_ n2_ n3_ n4_ n5_ n6_ n7_ n8_; (try clear hb); (try clear hb2); (try clear hk); (try clear hi); (try clear ho0); obtain ⟨hcz44_0, hcz44_1, hfz44_0, hfz44_1⟩ := GS.c2 BK557.out) | ((with_reducible refine gqC (f := 16) rfl ?_); refine GS.gL (some 57) Try.func16 #[.agg #[.int .i64 a0_0, .slice A0_1 l0_1.length c0_1], .slice A1 l1.length c1, .int .i64 a2] ?_; (with_reducible refine (spileref51_Bonds.calls kj3 a0_0 _ _ l0_1 _ _ l1 a2 t589 t592 _ ?side1 ?side2 ?side3 ?side4 A23.out).mono ?_); (case side1 => exact GS.rC (Kd.C_below HR0_1.out HB.out)); (case side2 => exact HC0_1.out); (case side3 => exact GS.rC (Kd.C_below HR1.out HB.out)); (case side4 => exact HC1.out); rintro e w45 ⟨v590, rfl, ho0, hb⟩; refine ⟨_, rfl, ?_⟩; have n0_ := Aside0.mk (Kd.R_below (GS.rR HO564.out) hb); have n1_ := Aside0.mk (Kd.R_below (GS.rR HO567.out) hb); have n2_ := Aside0.mk (Kd.R_below (GS.rR HO570.out) hb); have n3_ := Aside0.mk (Kd.R_below (GS.rR HO575.out) hb); have n4_ := Aside0.mk (Kd.R_below (GS.rR HO581.out) hb); have n5_ := Aside0.mk (Kd.R_below (GS.rR HO584.out) hb); have n6_ := Aside0.mk (Kd.R_elder' (GS.rR HO587.out) (Kd.R_base ho0) hb); have n7_ := Aside0.mk (Kd.R_lower (Kd.R_new' ho0 (Kd.R_lt (GS.rR HO587.out))) (lqZ (GS.lB HB.out))); have n8_ := Aside0.mk (bqB (GS.bqX BK557.out) hb); have n9_ := Aside0.mk (lqT (GS.lB HB.out) hb); clear HO564; clear HO567; clear HO570; clear HO575; clear HO581; clear HO584; clear HO587; clear BK557; clear HB; have HO564 := n0_; have HO567 := n1_; have HO570 := n2_; have HO575 := n3_; have HO581 := n4_; have HO584 := n5_; have HO587 := n6_; have HO591 := n7_; have BK557 := n8_; have HB := n9_; clear n0_ n1_ n2_ n3_ n4_ n5_ n6_ n7_ n8_ n9_; (try clear hb); (try clear hb2); (try clear hk); (try clear hi); (try clear ho0); obtain ⟨Ao46, co46, eo46⟩ := Kd.R_slice HO570.out; subst eo46; obtain ⟨Ao47, co47, eo47⟩ := Kd.R_slice HO575.out; subst eo47) | ((with_reducible refine gqC (f := 17) rfl ?_); refine GS.gL (some 62) Try.func17 #[.slice Ao46 t568.length co46, .slice Ao47 t573.length co47] ?_; (with_reducible refine (slices_Equal_int_int.calls kj3 _ _ t568 _ _ t573 true _ ?side1 ?side2 ?side3 ?side4 A24.out).mono ?_); (case side1 => repeat (first | exact (Kd.R_reads' HO570.out).2.2 | (with_reducible refine Kd.C_alloc ?_ _) | (with_reducible refine Kd.C_drewN ?_ _) | (with_reducible refine Kd.C_drew ?_))); (case side2 => exact (Kd.R_reads' HO570.out).2.1); (case side3 => repeat (first | exact (Kd.R_reads' HO575.out).2.2 | (with_reducible refine Kd.C_alloc ?_ _) | (with_reducible refine Kd.C_drewN ?_ _) | (with_reducible refine Kd.C_drew ?_))); (case side4 => exact (Kd.R_reads' HO575.out).2.1); rintro e w' ⟨rfl, ⟨nd, rfl⟩⟩; refine ⟨_, rfl, ?_⟩; obtain ⟨Ao48, co48, eo48⟩ := Kd.R_slice HO587.out; subst eo48; obtain ⟨Ao49, co49, eo49⟩ := Kd.R_slice HO591.out; subst eo49) | (go_at_call 18; (with_reducible refine (api_Hold.calls kj3 _ _ t585 _ _ t589 true _ ?side1 ?side2 ?side3 ?side4 A28.out).mono ?_); (case side1 => repeat (first | exact (Kd.R_reads' HO587.out).2.2 | (with_reducible refine Kd.C_alloc ?_ _) | (with_reducible refine Kd.C_drewN ?_ _) | (with_reducible refine Kd.C_drew ?_))); (case side2 => exact (Kd.R_reads' HO587.out).2.1); (case side3 => repeat (first | exact (Kd.R_reads' HO591.out).2.2 | (with_reducible refine Kd.C_alloc ?_ _) | (with_reducible refine Kd.C_drewN ?_ _) | (with_reducible refine Kd.C_drew ?_))); (case side4 => exact (Kd.R_reads' HO591.out).2.1); rintro e w' ⟨rfl, ⟨nd, rfl⟩⟩))
        go_ret
        exact ⟨by first | rfl | (simp [errW_none, errW_some] <;> rfl) | (simp [*, errW_none, errW_some] <;> rfl), GS.lB HB.out⟩
       ·replace c29 := Bool.eq_false_iff.mpr c29
        subst c29
        have H1 : (none) = some r := by rw [if_neg (show ¬ (false = true) by decide)] at H; exact H
        clear H
        have H := H1
        clear H1
        exact absurd H (by simp)
      ·rw [if_neg c27] at H
       exact absurd H (by simp)
     ·rw [if_neg c26] at H
      exact absurd H (by simp)
    ·replace c25 := Bool.eq_false_iff.mpr c25
     subst c25
     have H1 : (none) = some r := by rw [if_neg (show ¬ (false = true) by decide)] at H; exact H
     clear H
     have H := H1
     clear H1
     exact absurd H (by simp)

end Go.Proofs.Ythboaobgipodiaa.K
