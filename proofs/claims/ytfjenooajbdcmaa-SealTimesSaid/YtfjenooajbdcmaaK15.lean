-- PRINTED by print.py (a twelfth state) out of the translation. Not trusted: Lean checks it.
import Derived.Test.YtfjenooajbdcmaaK0
import Derived.Test.YtfjenooajbdcmaaGPu
import Derived.Test.YtfjenooajbdcmaaGShort
import Derived.Test.YtfjenooajbdcmaaK9
import Derived.Test.YtfjenooajbdcmaaK14
import Derived.Test.YtfjenooajbdcmaaGClone
import Derived.Test.YtfjenooajbdcmaaGIntact
import Derived.Test.YtfjenooajbdcmaaGOpen
import Derived.Test.YtfjenooajbdcmaaGUnbroken
namespace Go.Proofs.Ytfjenooajbdcmaa.K
open Go.RowKit Go.Proofs.YtfjenooajbdcmaaW.PrintWords Go.Proofs.YtfjenooajbdcmaaW.PrintLast Go.Proofs.YtfjenooajbdcmaaW.PrintMore
attribute [local go_sem] max2_int min2_int max_two min_two max_three min_three max_four min_four   -- for this text's walks alone
set_option linter.unusedVariables false
set_option linter.unusedSimpArgs false

/-! ### spilelaw39_SealTimes: function 3 -/
def spilelaw39_SealTimes.j0 : Nat → List (S34) → Bool → Int → Int → Int → Option (Bool)
 | 0, _, _, _, _, _ => none
 | k + 1, x0, x26, x331000, x331001, x331002 => if x26 = true then (some true) else ((clone34.f x0).bind fun t334 => ((seal_Intact.f t334 x331000 x331001).bind fun bt337 => ((spileref39_Intact.f k x0 x331000 x331001).bind fun bt341 => ((clone34.f x0).bind fun t345 => ((seal_Unbroken.f t345 x331000 x331001 x331002).bind fun bt348 => ((spileref39_Unbroken.f k x0 x331000 x331001 x331002).bind fun bt350 => ((clone34.f x0).bind fun t352 => ((seal_Open.f t352 x331000 x331001 x331002).bind fun bt355 => ((spileref39_Open.f k x0 x331000 x331001 x331002).bind fun bt357 => ((spileref33_Same.f k bt337.1 bt341.1).bind fun t359 => (if t359 = true then (if bt337.2 = bt341.2 then (if (bt348.1 == bt350.1) = true then (if bt348.2 = bt350.2 then (if bt355.1 = bt357.1 then (some (bt355.2 == bt357.2)) else (none)) else (none)) else (none)) else (none)) else (none))))))))))))
def spilelaw39_SealTimes.f (k : Nat) (l0 : List (S34)) (a1_0 : Int) (a1_1 : Int) (a1_2 : Int) : Option (Bool) := (spilelaw39_awake.f k).bind fun t331 => (if t331 = true then ((spileref39_Few.f l0).bind fun t332 => (if t332 = true then ((spilelaw39_short.f a1_0 a1_1 a1_2).bind fun t333 => (spilelaw39_SealTimes.j0 k l0 (!t333) a1_0 a1_1 a1_2)) else (spilelaw39_SealTimes.j0 k l0 true a1_0 a1_1 a1_2))) else (none))
theorem spilelaw39_SealTimes.mono_l : ∀ k, (∀ y0 y1 y2 y3 y4, LeO (spilelaw39_SealTimes.j0 k y0 y1 y2 y3 y4) (spilelaw39_SealTimes.j0 (k + 1) y0 y1 y2 y3 y4))
 | 0 => fun _ _ _ _ _ r h => by simp [spilelaw39_SealTimes.j0] at h
 | k + 1 => by
  have ih0 := spilelaw39_SealTimes.mono_l k
  ·intro y0 y1 y2 y3 y4
   unfold spilelaw39_SealTimes.j0
   repeat' first
   | (with_reducible exact ih0 _ _ _ _ _)
   | (with_reducible exact spilelaw39_awake.mono _)
   | (with_reducible exact spileref33_Same.mono _ _ _)
   | (with_reducible exact spileref39_Intact.mono _ _ _ _)
   | (with_reducible exact spileref39_Open.mono _ _ _ _ _)
   | (with_reducible exact spileref39_Unbroken.mono _ _ _ _ _)
   | (with_reducible exact LeO.refl _)
   | (with_reducible exact LeO.none _)
   | (with_reducible refine LeO.ite ?_ ?_)
   | (with_reducible refine LeO.bind ?_ (fun _ => ?_))
   | exact ih0 _ _ _ _ _
   | exact spilelaw39_awake.mono _
   | exact spileref33_Same.mono _ _ _
   | exact spileref39_Intact.mono _ _ _ _
   | exact spileref39_Open.mono _ _ _ _ _
   | exact spileref39_Unbroken.mono _ _ _ _ _
   | exact LeO.none _
   | refine LeO.ite ?_ ?_
   | refine LeO.bind ?_ (fun _ => ?_)
theorem spilelaw39_SealTimes.mono : ∀ a0 a1 a2 a3 k, LeO (spilelaw39_SealTimes.f k a0 a1 a2 a3) (spilelaw39_SealTimes.f (k + 1) a0 a1 a2 a3) := by
 intro a0 a1 a2 a3 k
 have ih0 := spilelaw39_SealTimes.mono_l k
 unfold spilelaw39_SealTimes.f
 repeat' first
   | (with_reducible exact ih0 _ _ _ _ _)
   | (with_reducible exact spilelaw39_awake.mono _)
   | (with_reducible exact spileref33_Same.mono _ _ _)
   | (with_reducible exact spileref39_Intact.mono _ _ _ _)
   | (with_reducible exact spileref39_Open.mono _ _ _ _ _)
   | (with_reducible exact spileref39_Unbroken.mono _ _ _ _ _)
   | (with_reducible exact LeO.refl _)
   | (with_reducible exact LeO.none _)
   | (with_reducible refine LeO.ite ?_ ?_)
   | (with_reducible refine LeO.bind ?_ (fun _ => ?_))
   | exact ih0 _ _ _ _ _
   | exact spilelaw39_awake.mono _
   | exact spileref33_Same.mono _ _ _
   | exact spileref39_Intact.mono _ _ _ _
   | exact spileref39_Open.mono _ _ _ _ _
   | exact spileref39_Unbroken.mono _ _ _ _ _
   | exact LeO.none _
   | refine LeO.ite ?_ ?_
   | refine LeO.bind ?_ (fun _ => ?_)
def spilelaw39_SealTimes.T5 : Bool × List (List Nat × List Nat) := (true, [([], []), ([0], [0]), ([], []), ([2], [2]), ([], []), ([4], [4]), ([1, 3, 5, 1], [1, 3, 5]), ([6], [6]), ([7], [7]), ([7], [7]), ([8, 6, 0, 1, 2, 3, 4, 5, 6, 7, 8], [8]), ([9, 10, 0, 1, 2, 3, 4, 5, 6, 7, 8, 9, 10], [9])])
def spilelaw39_SealTimes.B5 : List Nat := [0, 1, 0, 4, 0, 16, 63, 127, 255, 255, 511, 2047]
theorem spilelaw39_SealTimes.tab5 : rtab .any (opsOf Try.f3 5) = spilelaw39_SealTimes.T5 := by kernel_rfl
theorem spilelaw39_SealTimes.bits5 : waitsOk spilelaw39_SealTimes.T5.2 spilelaw39_SealTimes.B5 = true := by kernel_rfl
def spilelaw39_SealTimes.T7 : Bool × List (List Nat × List Nat) := (true, [([], []), ([0], [0]), ([], []), ([2], [2]), ([], []), ([4], [4]), ([], []), ([6], [6]), ([1, 3, 5, 7, 1], [1, 3, 5, 7]), ([8], [8]), ([9], [9]), ([9], [9]), ([10, 8, 0, 1, 2, 3, 4, 5, 6, 7, 8, 9, 10], [10]), ([11, 12, 0, 1, 2, 3, 4, 5, 6, 7, 8, 9, 10, 11, 12], [11])])
def spilelaw39_SealTimes.B7 : List Nat := [0, 1, 0, 4, 0, 16, 0, 64, 255, 511, 1023, 1023, 2047, 8191]
theorem spilelaw39_SealTimes.tab7 : rtab .any (opsOf Try.f3 7) = spilelaw39_SealTimes.T7 := by kernel_rfl
theorem spilelaw39_SealTimes.bits7 : waitsOk spilelaw39_SealTimes.T7.2 spilelaw39_SealTimes.B7 = true := by kernel_rfl
def spilelaw39_SealTimes.T9 : Bool × List (List Nat × List Nat) := (true, [([], []), ([0], [0]), ([], []), ([2], [2]), ([], []), ([4], [4]), ([], []), ([6], [6]), ([1, 3, 5, 7, 1], [1, 3, 5, 7]), ([8], [8]), ([9], [9]), ([9], [9]), ([10, 8, 0, 1, 2, 3, 4, 5, 6, 7, 8, 9, 10], [10]), ([11, 12, 0, 1, 2, 3, 4, 5, 6, 7, 8, 9, 10, 11, 12], [11])])
def spilelaw39_SealTimes.B9 : List Nat := [0, 1, 0, 4, 0, 16, 0, 64, 255, 511, 1023, 1023, 2047, 8191]
theorem spilelaw39_SealTimes.tab9 : rtab .any (opsOf Try.f3 9) = spilelaw39_SealTimes.T9 := by kernel_rfl
theorem spilelaw39_SealTimes.bits9 : waitsOk spilelaw39_SealTimes.T9.2 spilelaw39_SealTimes.B9 = true := by kernel_rfl
set_option maxHeartbeats 8000000 in
set_option maxRecDepth 100000 in
theorem spilelaw39_SealTimes.calls (k : Nat) (A0 : Option Addr) (c0 : Nat) (l0 : List (S34)) (a1_0 : Int) (a1_1 : Int) (a1_2 : Int) (r : Bool) (w : World) (hr0 : Kd.C k34 w A0 l0.length l0) (hc0 : l0.length ≤ c0) (h : spilelaw39_SealTimes.f k l0 a1_0 a1_1 a1_2 = some r) :
  Calls Try.prog 3 #[.slice A0 l0.length c0, .agg #[.int .i64 a1_0, .int .i64 a1_1, .int .i64 a1_2]] w fun e w' => e = .returned (.bool r) ∧ Below w.heap.size w w' := by
 have hu24 := Try.underlying24
 have HR0 := Aside0.mk hr0
 have HC0 := Aside0.mk hc0
 clear hr0 hc0
 have HB := Aside0.mk (Below.refl w.heap.size w)
 have H : ((spilelaw39_awake.f k).bind fun t331 => (if t331 = true then ((spileref39_Few.f l0).bind fun t332 => (if t332 = true then ((spilelaw39_short.f a1_0 a1_1 a1_2).bind fun t333 => (spilelaw39_SealTimes.j0 k l0 (!t333) a1_0 a1_1 a1_2)) else (spilelaw39_SealTimes.j0 k l0 true a1_0 a1_1 a1_2))) else (none))) = some r := h
 clear h
 replace H := Option.bind_eq_some_iff.mp H
 obtain ⟨t331, A30, H⟩ := H
 replace H : (if t331 = true then ((spileref39_Few.f l0).bind fun t332 => (if t332 = true then ((spilelaw39_short.f a1_0 a1_1 a1_2).bind fun t333 => (spilelaw39_SealTimes.j0 k l0 (!t333) a1_0 a1_1 a1_2)) else (spilelaw39_SealTimes.j0 k l0 true a1_0 a1_1 a1_2))) else (none)) = some r := H
 have A3 := Aside0.mk A30
 clear A30
 by_cases c4 : t331 = true
 ·subst c4
  have H1 : ((spileref39_Few.f l0).bind fun t332 => (if t332 = true then ((spilelaw39_short.f a1_0 a1_1 a1_2).bind fun t333 => (spilelaw39_SealTimes.j0 k l0 (!t333) a1_0 a1_1 a1_2)) else (spilelaw39_SealTimes.j0 k l0 true a1_0 a1_1 a1_2))) = some r := by rw [if_pos rfl] at H; exact H
  clear H
  have H := H1
  clear H1
  have HC5 := Aside0.mk H
  clear H
  go_enter Try.func3, Try.ntmps3
  go_upto_region 3 with (first | ((with_reducible refine gqD (N := 3) rfl ?_); refine GS.bx (N := 3) (cs := #[.int .i64 a1_0, .int .i64 a1_1, .int .i64 a1_2]) (t := 24) ?_; intro gb330 hg w6 hbox hb; have n0_ := Aside0.mk (lqT (GS.lB HB.out) hb); have n1_ := Aside0.mk (hbox); have n2_ := Aside0.mk ((by rw [hg]; exact (lqZ (GS.lB HB.out)) : w.heap.size ≤ gb330)); have n3_ := Aside0.mk ((by rw [hg]; exact (lqZ (GS.lB HB.out)) : w.heap.size ≤ gb330)); clear HB; have HB := n0_; have BK330 := n1_; have GW330 := n2_; have GE330 := n3_; clear n0_ n1_ n2_ n3_; clear hb hbox hg) | ((with_reducible refine gqC (f := 10) rfl ?_); refine GS.gL (some 17) Try.func10 #[] ?_; (with_reducible refine (spilelaw39_awake.calls k  true _ A3.out).mono ?_); rintro e w7 ⟨rfl, hb⟩; refine ⟨_, rfl, ?_⟩; have n0_ := Aside0.mk (bqB (GS.bqX BK330.out) hb); have n1_ := Aside0.mk (lqT (GS.lB HB.out) hb); clear BK330; clear HB; have BK330 := n0_; have HB := n1_; clear n0_ n1_; (try clear hb); (try clear hb2); (try clear hk); (try clear hi)))
  (try simp only [Act.put, List.setIfInBounds_toArray, List.set_cons_zero, List.set_cons_succ])
  go_cut [26] (fun v26 wc => ∃ (kq : Nat) (x26_4 : Bool), v26 = .bool x26_4 ∧ Aside0 (spilelaw39_SealTimes.j0 kq l0 x26_4 a1_0 a1_1 a1_2 = some r) ∧ Aside0 (kq ≤ k) ∧ Aside0 (wc.heap[gb330]? = some (.cells #[.int .i64 a1_0, .int .i64 a1_1, .int .i64 a1_2] 24 (0, 0))) ∧ Aside0 (Below w.heap.size w wc))
  case first =>
   have H := HC5.out
   clear HC5
   replace H := Option.bind_eq_some_iff.mp H
   obtain ⟨t332, A80, H⟩ := H
   replace H : (if t332 = true then ((spilelaw39_short.f a1_0 a1_1 a1_2).bind fun t333 => (spilelaw39_SealTimes.j0 k l0 (!t333) a1_0 a1_1 a1_2)) else (spilelaw39_SealTimes.j0 k l0 true a1_0 a1_1 a1_2)) = some r := H
   have A8 := Aside0.mk A80
   clear A80
   by_cases c9 : t332 = true
   ·subst c9
    have H1 : ((spilelaw39_short.f a1_0 a1_1 a1_2).bind fun t333 => (spilelaw39_SealTimes.j0 k l0 (!t333) a1_0 a1_1 a1_2)) = some r := by rw [if_pos rfl] at H; exact H
    clear H
    have H := H1
    clear H1
    replace H := Option.bind_eq_some_iff.mp H
    obtain ⟨t333, A100, H⟩ := H
    replace H : (spilelaw39_SealTimes.j0 k l0 (!t333) a1_0 a1_1 a1_2) = some r := H
    have A10 := Aside0.mk A100
    clear A100
    have H' := Aside0.mk H
    clear H
    go_wp2_with (first | ((with_reducible refine gqC (f := 11) rfl ?_); refine GS.gL (some 20) Try.func11 #[.slice A0 l0.length c0] ?_; (with_reducible refine (spileref39_Few.calls _ _ l0 true _ ?side1 ?side2 A8.out).mono ?_); (case side1 => exact GS.rC (Kd.C_below HR0.out HB.out)); (case side2 => exact HC0.out); rintro e w' ⟨rfl, ⟨nd, rfl⟩⟩; refine ⟨_, rfl, ?_⟩; obtain ⟨hcz11_0, hcz11_1, hcz11_2, hfz11_0, hfz11_1, hfz11_2⟩ := GS.c3 BK330.out) | (go_at_call 12; (with_reducible refine (spilelaw39_short.calls a1_0 a1_1 a1_2 t333 _ A10.out).mono ?_); rintro e w12 ⟨rfl, hb⟩; have n0_ := Aside0.mk (bqB (GS.bqX BK330.out) hb); have n1_ := Aside0.mk (lqT (GS.lB HB.out) hb); clear BK330; clear HB; have BK330 := n0_; have HB := n1_; clear n0_ n1_; (try clear hb); (try clear hb2); (try clear hk); (try clear hi)))
    go_meet
    case rel => exact ⟨_, (!t333), (by first | rfl | (simp; done) | (simp [*]; done)), H', ⟨by first | omega | exact Nat.le_refl _⟩, ⟨GS.bqX BK330.out⟩, ⟨GS.lB HB.out⟩⟩
   ·replace c9 := Bool.eq_false_iff.mpr c9
    subst c9
    have H1 : (spilelaw39_SealTimes.j0 k l0 true a1_0 a1_1 a1_2) = some r := by rw [if_neg (show ¬ (false = true) by decide)] at H; exact H
    clear H
    have H := H1
    clear H1
    have H' := Aside0.mk H
    clear H
    go_wp2_with (first | ((with_reducible refine gqC (f := 11) rfl ?_); refine GS.gL (some 20) Try.func11 #[.slice A0 l0.length c0] ?_; (with_reducible refine (spileref39_Few.calls _ _ l0 false _ ?side1 ?side2 A8.out).mono ?_); (case side1 => exact GS.rC (Kd.C_below HR0.out HB.out)); (case side2 => exact HC0.out); rintro e w' ⟨rfl, ⟨nd, rfl⟩⟩; refine ⟨_, rfl, ?_⟩))
    go_meet
    case rel => exact ⟨_, (true), (by first | rfl | (simp; done) | (simp [*]; done)), H', ⟨by first | omega | exact Nat.le_refl _⟩, ⟨GS.bqX BK330.out⟩, ⟨GS.lB HB.out⟩⟩
  case rest =>
   clear HC5
   try clear c1
   try clear p2
   try clear c3
   try clear c4
   try clear c9
   try clear c10
   try clear c11
   try clear hcz11_0
   try clear hcz11_1
   try clear hcz11_2
   try clear hfz11_0
   try clear hfz11_1
   try clear hfz11_2
   obtain ⟨kq, x26_4, rfl, HA, HJ4, BK330, HB⟩ := hcut
   cases kq with
   | zero => exact absurd HA.out (by simp [spilelaw39_SealTimes.j0])
   | succ kj4 =>
    have H := HA.out
    clear HA
    simp only [spilelaw39_SealTimes.j0] at H
    by_cases c13 : x26_4 = true
    ·subst c13
     have H1 : (some true) = some r := by rw [if_pos rfl] at H; exact H
     clear H
     have H := H1
     clear H1
     obtain rfl := Option.some.inj H
     go_wp2
     go_ret
     exact ⟨by first | rfl | (simp [errW_none, errW_some] <;> rfl) | (simp [*, errW_none, errW_some] <;> rfl), GS.lB HB.out⟩
    ·replace c13 := Bool.eq_false_iff.mpr c13
     subst c13
     have H1 : ((clone34.f l0).bind fun t334 => ((seal_Intact.f t334 a1_0 a1_1).bind fun bt337 => ((spileref39_Intact.f kj4 l0 a1_0 a1_1).bind fun bt341 => ((clone34.f l0).bind fun t345 => ((seal_Unbroken.f t345 a1_0 a1_1 a1_2).bind fun bt348 => ((spileref39_Unbroken.f kj4 l0 a1_0 a1_1 a1_2).bind fun bt350 => ((clone34.f l0).bind fun t352 => ((seal_Open.f t352 a1_0 a1_1 a1_2).bind fun bt355 => ((spileref39_Open.f kj4 l0 a1_0 a1_1 a1_2).bind fun bt357 => ((spileref33_Same.f kj4 bt337.1 bt341.1).bind fun t359 => (if t359 = true then (if bt337.2 = bt341.2 then (if (bt348.1 == bt350.1) = true then (if bt348.2 = bt350.2 then (if bt355.1 = bt357.1 then (some (bt355.2 == bt357.2)) else (none)) else (none)) else (none)) else (none)) else (none)))))))))))) = some r := by rw [if_neg (show ¬ (false = true) by decide)] at H; exact H
     clear H
     have H := H1
     clear H1
     replace H := Option.bind_eq_some_iff.mp H
     obtain ⟨t334, A140, H⟩ := H
     replace H : ((seal_Intact.f t334 a1_0 a1_1).bind fun bt337 => ((spileref39_Intact.f kj4 l0 a1_0 a1_1).bind fun bt341 => ((clone34.f l0).bind fun t345 => ((seal_Unbroken.f t345 a1_0 a1_1 a1_2).bind fun bt348 => ((spileref39_Unbroken.f kj4 l0 a1_0 a1_1 a1_2).bind fun bt350 => ((clone34.f l0).bind fun t352 => ((seal_Open.f t352 a1_0 a1_1 a1_2).bind fun bt355 => ((spileref39_Open.f kj4 l0 a1_0 a1_1 a1_2).bind fun bt357 => ((spileref33_Same.f kj4 bt337.1 bt341.1).bind fun t359 => (if t359 = true then (if bt337.2 = bt341.2 then (if (bt348.1 == bt350.1) = true then (if bt348.2 = bt350.2 then (if bt355.1 = bt357.1 then (some (bt355.2 == bt357.2)) else (none)) else (none)) else (none)) else (none)) else (none))))))))))) = some r := H
     have A14 := Aside0.mk A140
     clear A140
     replace H := Option.bind_eq_some_iff.mp H
     obtain ⟨⟨t337, t338⟩, A150, H⟩ := H
     replace H : ((spileref39_Intact.f kj4 l0 a1_0 a1_1).bind fun bt341 => ((clone34.f l0).bind fun t345 => ((seal_Unbroken.f t345 a1_0 a1_1 a1_2).bind fun bt348 => ((spileref39_Unbroken.f kj4 l0 a1_0 a1_1 a1_2).bind fun bt350 => ((clone34.f l0).bind fun t352 => ((seal_Open.f t352 a1_0 a1_1 a1_2).bind fun bt355 => ((spileref39_Open.f kj4 l0 a1_0 a1_1 a1_2).bind fun bt357 => ((spileref33_Same.f kj4 t337 bt341.1).bind fun t359 => (if t359 = true then (if t338 = bt341.2 then (if (bt348.1 == bt350.1) = true then (if bt348.2 = bt350.2 then (if bt355.1 = bt357.1 then (some (bt355.2 == bt357.2)) else (none)) else (none)) else (none)) else (none)) else (none)))))))))) = some r := H
     have A15 := Aside0.mk A150
     clear A150
     replace H := Option.bind_eq_some_iff.mp H
     obtain ⟨⟨t341, t342⟩, A160, H⟩ := H
     replace H : ((clone34.f l0).bind fun t345 => ((seal_Unbroken.f t345 a1_0 a1_1 a1_2).bind fun bt348 => ((spileref39_Unbroken.f kj4 l0 a1_0 a1_1 a1_2).bind fun bt350 => ((clone34.f l0).bind fun t352 => ((seal_Open.f t352 a1_0 a1_1 a1_2).bind fun bt355 => ((spileref39_Open.f kj4 l0 a1_0 a1_1 a1_2).bind fun bt357 => ((spileref33_Same.f kj4 t337 t341).bind fun t359 => (if t359 = true then (if t338 = t342 then (if (bt348.1 == bt350.1) = true then (if bt348.2 = bt350.2 then (if bt355.1 = bt357.1 then (some (bt355.2 == bt357.2)) else (none)) else (none)) else (none)) else (none)) else (none))))))))) = some r := H
     have A16 := Aside0.mk A160
     clear A160
     replace H := Option.bind_eq_some_iff.mp H
     obtain ⟨t345, A170, H⟩ := H
     replace H : ((seal_Unbroken.f t345 a1_0 a1_1 a1_2).bind fun bt348 => ((spileref39_Unbroken.f kj4 l0 a1_0 a1_1 a1_2).bind fun bt350 => ((clone34.f l0).bind fun t352 => ((seal_Open.f t352 a1_0 a1_1 a1_2).bind fun bt355 => ((spileref39_Open.f kj4 l0 a1_0 a1_1 a1_2).bind fun bt357 => ((spileref33_Same.f kj4 t337 t341).bind fun t359 => (if t359 = true then (if t338 = t342 then (if (bt348.1 == bt350.1) = true then (if bt348.2 = bt350.2 then (if bt355.1 = bt357.1 then (some (bt355.2 == bt357.2)) else (none)) else (none)) else (none)) else (none)) else (none)))))))) = some r := H
     have A17 := Aside0.mk A170
     clear A170
     replace H := Option.bind_eq_some_iff.mp H
     obtain ⟨⟨t348, t349⟩, A180, H⟩ := H
     replace H : ((spileref39_Unbroken.f kj4 l0 a1_0 a1_1 a1_2).bind fun bt350 => ((clone34.f l0).bind fun t352 => ((seal_Open.f t352 a1_0 a1_1 a1_2).bind fun bt355 => ((spileref39_Open.f kj4 l0 a1_0 a1_1 a1_2).bind fun bt357 => ((spileref33_Same.f kj4 t337 t341).bind fun t359 => (if t359 = true then (if t338 = t342 then (if (t348 == bt350.1) = true then (if t349 = bt350.2 then (if bt355.1 = bt357.1 then (some (bt355.2 == bt357.2)) else (none)) else (none)) else (none)) else (none)) else (none))))))) = some r := H
     have A18 := Aside0.mk A180
     clear A180
     replace H := Option.bind_eq_some_iff.mp H
     obtain ⟨⟨t350, t351⟩, A190, H⟩ := H
     replace H : ((clone34.f l0).bind fun t352 => ((seal_Open.f t352 a1_0 a1_1 a1_2).bind fun bt355 => ((spileref39_Open.f kj4 l0 a1_0 a1_1 a1_2).bind fun bt357 => ((spileref33_Same.f kj4 t337 t341).bind fun t359 => (if t359 = true then (if t338 = t342 then (if (t348 == t350) = true then (if t349 = t351 then (if bt355.1 = bt357.1 then (some (bt355.2 == bt357.2)) else (none)) else (none)) else (none)) else (none)) else (none)))))) = some r := H
     have A19 := Aside0.mk A190
     clear A190
     replace H := Option.bind_eq_some_iff.mp H
     obtain ⟨t352, A200, H⟩ := H
     replace H : ((seal_Open.f t352 a1_0 a1_1 a1_2).bind fun bt355 => ((spileref39_Open.f kj4 l0 a1_0 a1_1 a1_2).bind fun bt357 => ((spileref33_Same.f kj4 t337 t341).bind fun t359 => (if t359 = true then (if t338 = t342 then (if (t348 == t350) = true then (if t349 = t351 then (if bt355.1 = bt357.1 then (some (bt355.2 == bt357.2)) else (none)) else (none)) else (none)) else (none)) else (none))))) = some r := H
     have A20 := Aside0.mk A200
     clear A200
     replace H := Option.bind_eq_some_iff.mp H
     obtain ⟨⟨t355, t356⟩, A210, H⟩ := H
     replace H : ((spileref39_Open.f kj4 l0 a1_0 a1_1 a1_2).bind fun bt357 => ((spileref33_Same.f kj4 t337 t341).bind fun t359 => (if t359 = true then (if t338 = t342 then (if (t348 == t350) = true then (if t349 = t351 then (if t355 = bt357.1 then (some (t356 == bt357.2)) else (none)) else (none)) else (none)) else (none)) else (none)))) = some r := H
     have A21 := Aside0.mk A210
     clear A210
     replace H := Option.bind_eq_some_iff.mp H
     obtain ⟨⟨t357, t358⟩, A220, H⟩ := H
     replace H : ((spileref33_Same.f kj4 t337 t341).bind fun t359 => (if t359 = true then (if t338 = t342 then (if (t348 == t350) = true then (if t349 = t351 then (if t355 = t357 then (some (t356 == t358)) else (none)) else (none)) else (none)) else (none)) else (none))) = some r := H
     have A22 := Aside0.mk A220
     clear A220
     replace H := Option.bind_eq_some_iff.mp H
     obtain ⟨t359, A230, H⟩ := H
     replace H : (if t359 = true then (if t338 = t342 then (if (t348 == t350) = true then (if t349 = t351 then (if t355 = t357 then (some (t356 == t358)) else (none)) else (none)) else (none)) else (none)) else (none)) = some r := H
     have A23 := Aside0.mk A230
     clear A230
     by_cases c24 : t359 = true
     ·subst c24
      have H1 : (if t338 = t342 then (if (t348 == t350) = true then (if t349 = t351 then (if t355 = t357 then (some (t356 == t358)) else (none)) else (none)) else (none)) else (none)) = some r := by rw [if_pos rfl] at H; exact H
      clear H
      have H := H1
      clear H1
      by_cases c25 : t338 = t342
      ·rw [if_pos c25] at H
       have c25b0 : (t338 == t342) = true := beq_iff_eq.mpr c25
       try simp only [beq_self_eq_true, Bool.not_true, Bool.false_or, Bool.true_and] at c25b0
       have c25b1 : (t338 != t342) = false := bne_eq_false_iff_eq.mpr c25
       clear c25
       by_cases c26 : (t348 == t350) = true
       ·rw [if_pos c26] at H
        have c26b0 : (t348 == t350) = true := c26
        try simp only [beq_self_eq_true, Bool.not_true, Bool.false_or, Bool.true_and] at c26b0
        (try (have c26b1 : decide (t348 = t350) = true := by simpa using c26))
        (try (have c26b2 : (t348 == t350) = true := by simpa using c26))
        clear c26
        by_cases c27 : t349 = t351
        ·rw [if_pos c27] at H
         have c27b0 : (t349 == t351) = true := beq_iff_eq.mpr c27
         try simp only [beq_self_eq_true, Bool.not_true, Bool.false_or, Bool.true_and] at c27b0
         have c27b1 : (t349 != t351) = false := bne_eq_false_iff_eq.mpr c27
         clear c27
         by_cases c28 : t355 = t357
         ·rw [if_pos c28] at H
          have c28b0 : (t355 == t357) = true := beq_iff_eq.mpr c28
          try simp only [beq_self_eq_true, Bool.not_true, Bool.false_or, Bool.true_and] at c28b0
          have c28b1 : (t355 != t357) = false := bne_eq_false_iff_eq.mpr c28
          clear c28
          obtain rfl := Option.some.inj H
          try go_wp2
          have n0_ := Aside0.mk (bqD BK330.out)
          have n1_ := Aside0.mk (lqD HB.out)
          clear BK330
          clear HB
          have BK330 := n0_
          have HB := n1_
          clear n0_ n1_
          refine start_ (n := 12) (S := fun w' => w'.cell? ⟨gb330, 0, none⟩ = some (.int .i64 a1_0) ∧ w'.cell? ⟨gb330, 1, none⟩ = some (.int .i64 a1_1) ∧ w'.cell? ⟨gb330, 2, none⟩ = some (.int .i64 a1_2)) (ds := []) #[false, false, false, false, false, false, false, false, false, false, false, false] (by kernel_rfl) rfl rfl ⟨(bqC BK330.out 0).trans rfl, (bqC BK330.out 1).trans rfl, (bqC BK330.out 2).trans rfl⟩ (fun hHeld => ?_); refine with_tabW spilelaw39_SealTimes.tab5 spilelaw39_SealTimes.bits5 (fun HT_ HW_ => ?_)
          generalize wc.drew = w29 at BK330 HB hHeld ⊢
          refine GS.pu 0 (some 28) HT_.out ?_
          refine GS.pu 2 (some 30) HT_.out ?_
          refine GS.pu 4 (some 32) HT_.out ?_
          refine GS.tk 3 (some 31) HT_.out HW_.out hHeld ?_
          refine GS.tk 5 (some 33) HT_.out HW_.out hHeld ?_
          refine one_ (i := 1) (N := some 29) #[true, true, true, true, true, true, false, false, false, false, false, false] rfl rfl (one_of HT_.out (by kernel_rfl)) (by decide) (fun K hK => ?_)
          refine goes_ Try.func14 (by kernel_rfl) rfl #[.slice A0 l0.length c0] (by rfl) rfl rfl (by (try simp only [List.map_toArray, List.map_cons, List.map_nil]); first | done | rfl | (simp only [List.length_drop, List.length_take]; rfl)) ?_
          with_reducible refine (clone34.calls _ _ l0 t334 _ ?side1 ?side2 A14.out).mono ?_
          (case side1 => exact GS.rC (Kd.C_below HR0.out HB.out))
          (case side2 => exact HC0.out)
          rintro e w30 ⟨v335, rfl, ho0, hb⟩
          refine ⟨_, rfl, ?_⟩
          have n0_ := Aside0.mk (Kd.R_lower ho0 (lqZ (GS.lB HB.out)))
          have n1_ := Aside0.mk (bqB (GS.bqX BK330.out) hb)
          have n2_ := Aside0.mk (lqT (GS.lB HB.out) hb)
          clear BK330
          clear HB
          have HO336 := n0_
          have BK330 := n1_
          have HB := n2_
          clear n0_ n1_ n2_
          (try clear hb)
          (try clear hb2)
          (try clear hk)
          (try clear hi)
          (try clear ho0)
          obtain ⟨Ao31, co31, eo31⟩ := Kd.R_slice HO336.out
          (first | subst eo31 | (injection eo31 with f1_ f2_ f3_; have f4_ := f1_.symm; have f5_ := f3_.symm; clear f1_ f2_ f3_; subst f4_; subst f5_))
          refine hK.out _ _ ⟨(bqC BK330.out 0).trans rfl, (bqC BK330.out 1).trans rfl, (bqC BK330.out 2).trans rfl⟩ (fun hHeld => ?_)
          clear hK K
          refine norm_ (a' := ?_) ?_ ?_
          rotate_left
          ·show Act.put _ (some 29) _ = _
           simp only [Act.put, List.setIfInBounds_toArray, List.set_cons_zero, List.set_cons_succ, i64_w, i32_w]
           rfl
          refine one_ (i := 6) (N := some 34) #[true, true, true, true, true, true, true, false, false, false, false, false] rfl rfl (one_of HT_.out (by kernel_rfl)) (by decide) (fun K hK => ?_)
          refine goes_ Try.func13 (by kernel_rfl) rfl #[.slice Ao31 t334.length co31, .int .i64 a1_0, .int .i64 a1_1] (by rfl) rfl rfl (by (try simp only [List.map_toArray, List.map_cons, List.map_nil]); first | done | rfl | (simp only [List.length_drop, List.length_take]; rfl)) ?_
          with_reducible refine (seal_Intact.calls _ _ t334 a1_0 a1_1 t337 t338 _ ?side1 ?side2 A15.out).mono ?_
          (case side1 => repeat (first | exact (Kd.R_reads' HO336.out).2.2 | (with_reducible refine Kd.C_alloc ?_ _) | (with_reducible refine Kd.C_drewN ?_ _) | (with_reducible refine Kd.C_drew ?_)))
          (case side2 => exact (Kd.R_reads' HO336.out).2.1)
          rintro e w32 ⟨v339, rfl, ho0, hb⟩
          refine ⟨_, rfl, ?_⟩
          have n0_ := Aside0.mk (Kd.R_below (GS.rR HO336.out) hb)
          have n1_ := Aside0.mk (Kd.R_lower ho0 (lqZ (GS.lB HB.out)))
          have n2_ := Aside0.mk (bqB (GS.bqX BK330.out) hb)
          have n3_ := Aside0.mk (lqT (GS.lB HB.out) hb)
          clear HO336
          clear BK330
          clear HB
          have HO336 := n0_
          have HO340 := n1_
          have BK330 := n2_
          have HB := n3_
          clear n0_ n1_ n2_ n3_
          (try clear hb)
          (try clear hb2)
          (try clear hk)
          (try clear hi)
          (try clear ho0)
          refine hK.out _ _ ⟨(bqC BK330.out 0).trans rfl, (bqC BK330.out 1).trans rfl, (bqC BK330.out 2).trans rfl⟩ (fun hHeld => ?_)
          clear hK K
          refine norm_ (a' := ?_) ?_ ?_
          rotate_left
          ·show Act.put _ (some 34) _ = _
           simp only [Act.put, List.setIfInBounds_toArray, List.set_cons_zero, List.set_cons_succ, i64_w, i32_w]
           rfl
          refine GS.pu 7 (some 27) HT_.out ?_
          refine GS.pu 8 (some 35) HT_.out ?_
          refine GS.pu 9 (some 36) HT_.out ?_
          refine GS.pu 10 (some 5) HT_.out ?_
          refine GS.pu 11 (some 6) HT_.out ?_
          refine done_ (done_of HT_.out (by kernel_rfl)) ?_
          obtain ⟨hcz33_0, hcz33_1, hcz33_2, hfz33_0, hfz33_1, hfz33_2⟩ := GS.c3 BK330.out
          try go_wp2_with (first | ((with_reducible refine gqC (f := 15) rfl ?_); refine GS.gL (some 43) Try.func15 #[.slice A0 l0.length c0, .int .i64 a1_0, .int .i64 a1_1] ?_; (with_reducible refine (spileref39_Intact.calls kj4 _ _ l0 a1_0 a1_1 t341 t342 _ ?side1 ?side2 A16.out).mono ?_); (case side1 => exact GS.rC (Kd.C_below HR0.out HB.out)); (case side2 => exact HC0.out); rintro e w34 ⟨v343, rfl, ho0, hb⟩; refine ⟨_, rfl, ?_⟩; have n0_ := Aside0.mk (Kd.R_below (GS.rR HO336.out) hb); have n1_ := Aside0.mk (Kd.R_elder' (GS.rR HO340.out) (Kd.R_base ho0) hb); have n2_ := Aside0.mk (Kd.R_lower (Kd.R_new' ho0 (Kd.R_lt (GS.rR HO340.out))) (lqZ (GS.lB HB.out))); have n3_ := Aside0.mk (bqB (GS.bqX BK330.out) hb); have n4_ := Aside0.mk (lqT (GS.lB HB.out) hb); clear HO336; clear HO340; clear BK330; clear HB; have HO336 := n0_; have HO340 := n1_; have HO344 := n2_; have BK330 := n3_; have HB := n4_; clear n0_ n1_ n2_ n3_ n4_; (try clear hb); (try clear hb2); (try clear hk); (try clear hi); (try clear ho0)))
          have n0_ := Aside0.mk (Kd.R_drew HO336.out)
          have n1_ := Aside0.mk (Kd.R_drew HO340.out)
          have n2_ := Aside0.mk (Kd.R_drew HO344.out)
          have n3_ := Aside0.mk (bqD BK330.out)
          have n4_ := Aside0.mk (lqD HB.out)
          clear HO336
          clear HO340
          clear HO344
          clear BK330
          clear HB
          have HO336 := n0_
          have HO340 := n1_
          have HO344 := n2_
          have BK330 := n3_
          have HB := n4_
          clear n0_ n1_ n2_ n3_ n4_
          refine start_ (n := 14) (S := fun w' => w'.cell? ⟨gb330, 0, none⟩ = some (.int .i64 a1_0) ∧ w'.cell? ⟨gb330, 1, none⟩ = some (.int .i64 a1_1) ∧ w'.cell? ⟨gb330, 2, none⟩ = some (.int .i64 a1_2)) (ds := []) #[false, false, false, false, false, false, false, false, false, false, false, false, false, false] (by kernel_rfl) rfl rfl ⟨(bqC BK330.out 0).trans rfl, (bqC BK330.out 1).trans rfl, (bqC BK330.out 2).trans rfl⟩ (fun hHeld => ?_); refine with_tabW spilelaw39_SealTimes.tab7 spilelaw39_SealTimes.bits7 (fun HT_ HW_ => ?_)
          generalize w34.drew = w35 at HO336 HO340 HO344 BK330 HB hHeld ⊢
          refine GS.pu 0 (some 47) HT_.out ?_
          refine GS.pu 2 (some 49) HT_.out ?_
          refine GS.pu 4 (some 51) HT_.out ?_
          refine GS.pu 6 (some 53) HT_.out ?_
          refine GS.tk 3 (some 50) HT_.out HW_.out hHeld ?_
          refine GS.tk 5 (some 52) HT_.out HW_.out hHeld ?_
          refine GS.tk 7 (some 54) HT_.out HW_.out hHeld ?_
          refine one_ (i := 1) (N := some 48) #[true, true, true, true, true, true, true, true, false, false, false, false, false, false] rfl rfl (one_of HT_.out (by kernel_rfl)) (by decide) (fun K hK => ?_)
          refine goes_ Try.func14 (by kernel_rfl) rfl #[.slice A0 l0.length c0] (by rfl) rfl rfl (by (try simp only [List.map_toArray, List.map_cons, List.map_nil]); first | done | rfl | (simp only [List.length_drop, List.length_take]; rfl)) ?_
          with_reducible refine (clone34.calls _ _ l0 t345 _ ?side1 ?side2 A17.out).mono ?_
          (case side1 => exact GS.rC (Kd.C_below HR0.out HB.out))
          (case side2 => exact HC0.out)
          rintro e w36 ⟨v346, rfl, ho0, hb⟩
          refine ⟨_, rfl, ?_⟩
          have n0_ := Aside0.mk (Kd.R_elder' (GS.rR HO336.out) (Kd.R_base ho0) hb)
          have n1_ := Aside0.mk (Kd.R_below (GS.rR HO340.out) hb)
          have n2_ := Aside0.mk (Kd.R_below (GS.rR HO344.out) hb)
          have n3_ := Aside0.mk (Kd.R_lower (Kd.R_new' ho0 (Kd.R_lt (GS.rR HO336.out))) (lqZ (GS.lB HB.out)))
          have n4_ := Aside0.mk (bqB (GS.bqX BK330.out) hb)
          have n5_ := Aside0.mk (lqT (GS.lB HB.out) hb)
          clear HO336
          clear HO340
          clear HO344
          clear BK330
          clear HB
          have HO336 := n0_
          have HO340 := n1_
          have HO344 := n2_
          have HO347 := n3_
          have BK330 := n4_
          have HB := n5_
          clear n0_ n1_ n2_ n3_ n4_ n5_
          (try clear hb)
          (try clear hb2)
          (try clear hk)
          (try clear hi)
          (try clear ho0)
          obtain ⟨Ao37, co37, eo37⟩ := Kd.R_slice HO347.out
          (first | subst eo37 | (injection eo37 with f1_ f2_ f3_; have f4_ := f1_.symm; have f5_ := f3_.symm; clear f1_ f2_ f3_; subst f4_; subst f5_))
          refine hK.out _ _ ⟨(bqC BK330.out 0).trans rfl, (bqC BK330.out 1).trans rfl, (bqC BK330.out 2).trans rfl⟩ (fun hHeld => ?_)
          clear hK K
          refine norm_ (a' := ?_) ?_ ?_
          rotate_left
          ·show Act.put _ (some 48) _ = _
           simp only [Act.put, List.setIfInBounds_toArray, List.set_cons_zero, List.set_cons_succ, i64_w, i32_w]
           rfl
          refine one_ (i := 8) (N := some 55) #[true, true, true, true, true, true, true, true, true, false, false, false, false, false] rfl rfl (one_of HT_.out (by kernel_rfl)) (by decide) (fun K hK => ?_)
          refine goes_ Try.func16 (by kernel_rfl) rfl #[.slice Ao37 t345.length co37, .int .i64 a1_0, .int .i64 a1_1, .int .i64 a1_2] (by rfl) rfl rfl (by (try simp only [List.map_toArray, List.map_cons, List.map_nil]); first | done | rfl | (simp only [List.length_drop, List.length_take]; rfl)) ?_
          with_reducible refine (seal_Unbroken.calls _ _ t345 a1_0 a1_1 a1_2 t348 t349 _ ?side1 ?side2 A18.out).mono ?_
          (case side1 => repeat (first | exact (Kd.R_reads' HO347.out).2.2 | (with_reducible refine Kd.C_alloc ?_ _) | (with_reducible refine Kd.C_drewN ?_ _) | (with_reducible refine Kd.C_drew ?_)))
          (case side2 => exact (Kd.R_reads' HO347.out).2.1)
          rintro e w38 ⟨rfl, hb⟩
          refine ⟨_, rfl, ?_⟩
          have n0_ := Aside0.mk (Kd.R_below (GS.rR HO336.out) hb)
          have n1_ := Aside0.mk (Kd.R_below (GS.rR HO340.out) hb)
          have n2_ := Aside0.mk (Kd.R_below (GS.rR HO344.out) hb)
          have n3_ := Aside0.mk (Kd.R_below (GS.rR HO347.out) hb)
          have n4_ := Aside0.mk (bqB (GS.bqX BK330.out) hb)
          have n5_ := Aside0.mk (lqT (GS.lB HB.out) hb)
          clear HO336
          clear HO340
          clear HO344
          clear HO347
          clear BK330
          clear HB
          have HO336 := n0_
          have HO340 := n1_
          have HO344 := n2_
          have HO347 := n3_
          have BK330 := n4_
          have HB := n5_
          clear n0_ n1_ n2_ n3_ n4_ n5_
          (try clear hb)
          (try clear hb2)
          (try clear hk)
          (try clear hi)
          refine hK.out _ _ ⟨(bqC BK330.out 0).trans rfl, (bqC BK330.out 1).trans rfl, (bqC BK330.out 2).trans rfl⟩ (fun hHeld => ?_)
          clear hK K
          refine norm_ (a' := ?_) ?_ ?_
          rotate_left
          ·show Act.put _ (some 55) _ = _
           simp only [Act.put, List.setIfInBounds_toArray, List.set_cons_zero, List.set_cons_succ, i64_w, i32_w]
           rfl
          refine GS.pu 9 (some 46) HT_.out ?_
          refine GS.pu 10 (some 56) HT_.out ?_
          refine GS.pu 11 (some 57) HT_.out ?_
          refine GS.pu 12 (some 9) HT_.out ?_
          refine GS.pu 13 (some 10) HT_.out ?_
          refine done_ (done_of HT_.out (by kernel_rfl)) ?_
          obtain ⟨hcz39_0, hcz39_1, hcz39_2, hfz39_0, hfz39_1, hfz39_2⟩ := GS.c3 BK330.out
          try go_wp2_with (first | ((with_reducible refine gqC (f := 17) rfl ?_); refine GS.gL (some 66) Try.func17 #[.slice A0 l0.length c0, .int .i64 a1_0, .int .i64 a1_1, .int .i64 a1_2] ?_; (with_reducible refine (spileref39_Unbroken.calls kj4 _ _ l0 a1_0 a1_1 a1_2 t350 t351 _ ?side1 ?side2 A19.out).mono ?_); (case side1 => exact GS.rC (Kd.C_below HR0.out HB.out)); (case side2 => exact HC0.out); rintro e w40 ⟨rfl, hb⟩; refine ⟨_, rfl, ?_⟩; have n0_ := Aside0.mk (Kd.R_below (GS.rR HO336.out) hb); have n1_ := Aside0.mk (Kd.R_below (GS.rR HO340.out) hb); have n2_ := Aside0.mk (Kd.R_below (GS.rR HO344.out) hb); have n3_ := Aside0.mk (Kd.R_below (GS.rR HO347.out) hb); have n4_ := Aside0.mk (bqB (GS.bqX BK330.out) hb); have n5_ := Aside0.mk (lqT (GS.lB HB.out) hb); clear HO336; clear HO340; clear HO344; clear HO347; clear BK330; clear HB; have HO336 := n0_; have HO340 := n1_; have HO344 := n2_; have HO347 := n3_; have BK330 := n4_; have HB := n5_; clear n0_ n1_ n2_ n3_ n4_ n5_; (try clear hb); (try clear hb2); (try clear hk); (try clear hi)))
          have n0_ := Aside0.mk (Kd.R_drew HO336.out)
          have n1_ := Aside0.mk (Kd.R_drew HO340.out)
          have n2_ := Aside0.mk (Kd.R_drew HO344.out)
          have n3_ := Aside0.mk (Kd.R_drew HO347.out)
          have n4_ := Aside0.mk (bqD BK330.out)
          have n5_ := Aside0.mk (lqD HB.out)
          clear HO336
          clear HO340
          clear HO344
          clear HO347
          clear BK330
          clear HB
          have HO336 := n0_
          have HO340 := n1_
          have HO344 := n2_
          have HO347 := n3_
          have BK330 := n4_
          have HB := n5_
          clear n0_ n1_ n2_ n3_ n4_ n5_
          refine start_ (n := 14) (S := fun w' => w'.cell? ⟨gb330, 0, none⟩ = some (.int .i64 a1_0) ∧ w'.cell? ⟨gb330, 1, none⟩ = some (.int .i64 a1_1) ∧ w'.cell? ⟨gb330, 2, none⟩ = some (.int .i64 a1_2)) (ds := []) #[false, false, false, false, false, false, false, false, false, false, false, false, false, false] (by kernel_rfl) rfl rfl ⟨(bqC BK330.out 0).trans rfl, (bqC BK330.out 1).trans rfl, (bqC BK330.out 2).trans rfl⟩ (fun hHeld => ?_); refine with_tabW spilelaw39_SealTimes.tab9 spilelaw39_SealTimes.bits9 (fun HT_ HW_ => ?_)
          generalize w40.drew = w41 at HO336 HO340 HO344 HO347 BK330 HB hHeld ⊢
          refine GS.pu 0 (some 70) HT_.out ?_
          refine GS.pu 2 (some 72) HT_.out ?_
          refine GS.pu 4 (some 74) HT_.out ?_
          refine GS.pu 6 (some 76) HT_.out ?_
          refine GS.tk 3 (some 73) HT_.out HW_.out hHeld ?_
          refine GS.tk 5 (some 75) HT_.out HW_.out hHeld ?_
          refine GS.tk 7 (some 77) HT_.out HW_.out hHeld ?_
          refine one_ (i := 1) (N := some 71) #[true, true, true, true, true, true, true, true, false, false, false, false, false, false] rfl rfl (one_of HT_.out (by kernel_rfl)) (by decide) (fun K hK => ?_)
          refine goes_ Try.func14 (by kernel_rfl) rfl #[.slice A0 l0.length c0] (by rfl) rfl rfl (by (try simp only [List.map_toArray, List.map_cons, List.map_nil]); first | done | rfl | (simp only [List.length_drop, List.length_take]; rfl)) ?_
          with_reducible refine (clone34.calls _ _ l0 t352 _ ?side1 ?side2 A20.out).mono ?_
          (case side1 => exact GS.rC (Kd.C_below HR0.out HB.out))
          (case side2 => exact HC0.out)
          rintro e w42 ⟨v353, rfl, ho0, hb⟩
          refine ⟨_, rfl, ?_⟩
          have n0_ := Aside0.mk (Kd.R_elder' (GS.rR HO336.out) (Kd.R_base ho0) hb)
          have n1_ := Aside0.mk (Kd.R_below (GS.rR HO340.out) hb)
          have n2_ := Aside0.mk (Kd.R_below (GS.rR HO344.out) hb)
          have n3_ := Aside0.mk (Kd.R_elder' (GS.rR HO347.out) (Kd.R_base ho0) hb)
          have n4_ := Aside0.mk (Kd.R_lower (Kd.R_new' (Kd.R_new' ho0 (Kd.R_lt (GS.rR HO336.out))) (Kd.R_lt (GS.rR HO347.out))) (lqZ (GS.lB HB.out)))
          have n5_ := Aside0.mk (bqB (GS.bqX BK330.out) hb)
          have n6_ := Aside0.mk (lqT (GS.lB HB.out) hb)
          clear HO336
          clear HO340
          clear HO344
          clear HO347
          clear BK330
          clear HB
          have HO336 := n0_
          have HO340 := n1_
          have HO344 := n2_
          have HO347 := n3_
          have HO354 := n4_
          have BK330 := n5_
          have HB := n6_
          clear n0_ n1_ n2_ n3_ n4_ n5_ n6_
          (try clear hb)
          (try clear hb2)
          (try clear hk)
          (try clear hi)
          (try clear ho0)
          obtain ⟨Ao43, co43, eo43⟩ := Kd.R_slice HO354.out
          (first | subst eo43 | (injection eo43 with f1_ f2_ f3_; have f4_ := f1_.symm; have f5_ := f3_.symm; clear f1_ f2_ f3_; subst f4_; subst f5_))
          refine hK.out _ _ ⟨(bqC BK330.out 0).trans rfl, (bqC BK330.out 1).trans rfl, (bqC BK330.out 2).trans rfl⟩ (fun hHeld => ?_)
          clear hK K
          refine norm_ (a' := ?_) ?_ ?_
          rotate_left
          ·show Act.put _ (some 71) _ = _
           simp only [Act.put, List.setIfInBounds_toArray, List.set_cons_zero, List.set_cons_succ, i64_w, i32_w]
           rfl
          refine one_ (i := 8) (N := some 78) #[true, true, true, true, true, true, true, true, true, false, false, false, false, false] rfl rfl (one_of HT_.out (by kernel_rfl)) (by decide) (fun K hK => ?_)
          refine goes_ Try.func18 (by kernel_rfl) rfl #[.slice Ao43 t352.length co43, .int .i64 a1_0, .int .i64 a1_1, .int .i64 a1_2] (by rfl) rfl rfl (by (try simp only [List.map_toArray, List.map_cons, List.map_nil]); first | done | rfl | (simp only [List.length_drop, List.length_take]; rfl)) ?_
          with_reducible refine (seal_Open.calls _ _ t352 a1_0 a1_1 a1_2 t355 t356 _ ?side1 ?side2 A21.out).mono ?_
          (case side1 => repeat (first | exact (Kd.R_reads' HO354.out).2.2 | (with_reducible refine Kd.C_alloc ?_ _) | (with_reducible refine Kd.C_drewN ?_ _) | (with_reducible refine Kd.C_drew ?_)))
          (case side2 => exact (Kd.R_reads' HO354.out).2.1)
          rintro e w44 ⟨rfl, hb⟩
          refine ⟨_, rfl, ?_⟩
          have n0_ := Aside0.mk (Kd.R_below (GS.rR HO336.out) hb)
          have n1_ := Aside0.mk (Kd.R_below (GS.rR HO340.out) hb)
          have n2_ := Aside0.mk (Kd.R_below (GS.rR HO344.out) hb)
          have n3_ := Aside0.mk (Kd.R_below (GS.rR HO347.out) hb)
          have n4_ := Aside0.mk (Kd.R_below (GS.rR HO354.out) hb)
          have n5_ := Aside0.mk (bqB (GS.bqX BK330.out) hb)
          have n6_ := Aside0.mk (lqT (GS.lB HB.out) hb)
          clear HO336
          clear HO340
          clear HO344
          clear HO347
          clear HO354
          clear BK330
          clear HB
          have HO336 := n0_
          have HO340 := n1_
          have HO344 := n2_
          have HO347 := n3_
          have HO354 := n4_
          have BK330 := n5_
          have HB := n6_
          clear n0_ n1_ n2_ n3_ n4_ n5_ n6_
          (try clear hb)
          (try clear hb2)
          (try clear hk)
          (try clear hi)
          refine hK.out _ _ ⟨(bqC BK330.out 0).trans rfl, (bqC BK330.out 1).trans rfl, (bqC BK330.out 2).trans rfl⟩ (fun hHeld => ?_)
          clear hK K
          refine norm_ (a' := ?_) ?_ ?_
          rotate_left
          ·show Act.put _ (some 78) _ = _
           simp only [Act.put, List.setIfInBounds_toArray, List.set_cons_zero, List.set_cons_succ, i64_w, i32_w]
           rfl
          refine GS.pu 9 (some 69) HT_.out ?_
          refine GS.pu 10 (some 79) HT_.out ?_
          refine GS.pu 11 (some 80) HT_.out ?_
          refine GS.pu 12 (some 13) HT_.out ?_
          refine GS.pu 13 (some 14) HT_.out ?_
          refine done_ (done_of HT_.out (by kernel_rfl)) ?_
          obtain ⟨hcz45_0, hcz45_1, hcz45_2, hfz45_0, hfz45_1, hfz45_2⟩ := GS.c3 BK330.out
          try go_wp2_with (first | ((with_reducible refine gqC (f := 19) rfl ?_); refine GS.gL (some 89) Try.func19 #[.slice A0 l0.length c0, .int .i64 a1_0, .int .i64 a1_1, .int .i64 a1_2] ?_; (with_reducible refine (spileref39_Open.calls kj4 _ _ l0 a1_0 a1_1 a1_2 t357 t358 _ ?side1 ?side2 A22.out).mono ?_); (case side1 => exact GS.rC (Kd.C_below HR0.out HB.out)); (case side2 => exact HC0.out); rintro e w46 ⟨rfl, hb⟩; refine ⟨_, rfl, ?_⟩; have n0_ := Aside0.mk (Kd.R_below (GS.rR HO336.out) hb); have n1_ := Aside0.mk (Kd.R_below (GS.rR HO340.out) hb); have n2_ := Aside0.mk (Kd.R_below (GS.rR HO344.out) hb); have n3_ := Aside0.mk (Kd.R_below (GS.rR HO347.out) hb); have n4_ := Aside0.mk (Kd.R_below (GS.rR HO354.out) hb); have n5_ := Aside0.mk (bqB (GS.bqX BK330.out) hb); have n6_ := Aside0.mk (lqT (GS.lB HB.out) hb); clear HO336; clear HO340; clear HO344; clear HO347; clear HO354; clear BK330; clear HB; have HO336 := n0_; have HO340 := n1_; have HO344 := n2_; have HO347 := n3_; have HO354 := n4_; have BK330 := n5_; have HB := n6_; clear n0_ n1_ n2_ n3_ n4_ n5_ n6_; (try clear hb); (try clear hb2); (try clear hk); (try clear hi); obtain ⟨Ao47, co47, eo47⟩ := Kd.R_slice HO340.out; subst eo47; obtain ⟨Ao48, co48, eo48⟩ := Kd.R_slice HO344.out; subst eo48) | ((with_reducible refine gqC (f := 20) rfl ?_); refine GS.gL (some 94) Try.func20 #[.slice Ao47 t337.length co47, .slice Ao48 t341.length co48] ?_; (with_reducible refine (spileref33_Same.calls kj4 _ _ t337 _ _ t341 true _ ?side1 ?side2 ?side3 ?side4 A23.out).mono ?_); (case side1 => repeat (first | exact (Kd.R_reads' HO340.out).2.2 | (with_reducible refine Kd.C_alloc ?_ _) | (with_reducible refine Kd.C_drewN ?_ _) | (with_reducible refine Kd.C_drew ?_))); (case side2 => exact (Kd.R_reads' HO340.out).2.1); (case side3 => repeat (first | exact (Kd.R_reads' HO344.out).2.2 | (with_reducible refine Kd.C_alloc ?_ _) | (with_reducible refine Kd.C_drewN ?_ _) | (with_reducible refine Kd.C_drew ?_))); (case side4 => exact (Kd.R_reads' HO344.out).2.1); rintro e w' ⟨rfl, ⟨nd, rfl⟩⟩; refine ⟨_, rfl, ?_⟩))
          go_ret
          exact ⟨by first | rfl | (simp [errW_none, errW_some] <;> rfl) | (simp [*, errW_none, errW_some] <;> rfl), GS.lB HB.out⟩
         ·rw [if_neg c28] at H
          exact absurd H (by simp)
        ·rw [if_neg c27] at H
         exact absurd H (by simp)
       ·rw [if_neg c26] at H
        exact absurd H (by simp)
      ·rw [if_neg c25] at H
       exact absurd H (by simp)
     ·replace c24 := Bool.eq_false_iff.mpr c24
      subst c24
      have H1 : (none) = some r := by rw [if_neg (show ¬ (false = true) by decide)] at H; exact H
      clear H
      have H := H1
      clear H1
      exact absurd H (by simp)
 ·replace c4 := Bool.eq_false_iff.mpr c4
  subst c4
  have H1 : (none) = some r := by rw [if_neg (show ¬ (false = true) by decide)] at H; exact H
  clear H
  have H := H1
  clear H1
  exact absurd H (by simp)

end Go.Proofs.Ytfjenooajbdcmaa.K
