-- PRINTED by print.py (a twelfth state) out of the translation. Not trusted: Lean checks it.
import Derived.Test.YthboaobgipodiaaK0
import Derived.Test.YthboaobgipodiaaGShort
import Derived.Test.YthboaobgipodiaaK18
import Derived.Test.YthboaobgipodiaaK19
namespace Go.Proofs.Ythboaobgipodiaa.K
open Go.RowKit Go.Proofs.YthboaobgipodiaaW.PrintWords Go.Proofs.YthboaobgipodiaaW.PrintLast Go.Proofs.YthboaobgipodiaaW.PrintMore
attribute [local go_sem] max2_int min2_int max_two min_two max_three min_three max_four min_four   -- for this text's walks alone
set_option linter.unusedVariables false
set_option linter.unusedSimpArgs false

/-! ### spileref51_asked: function 33 -/
def spileref51_asked.j0 : Nat → Int → Bool → Option (Int)
 | 0, _, _ => none
 | k + 1, x2, x20 => if x20 = true then (some 1) else ((spileref51_between.f x2 0 100000).bind fun t481 => (if t481 = true then (some 0) else (some 2)))
def spileref51_asked.f (k : Nat) (a0_0 : Int) (l0_1 : List (S60)) (l1 : List (S35)) (a2 : Int) : Option (Int) := (spileref51_Check.f k l1).bind fun bt478 => ((spileref46_Right.f k a0_0 l0_1).bind fun t480 => (if t480 = true then (spileref51_asked.j0 k a2 (bt478.2 != 0)) else (spileref51_asked.j0 k a2 true)))
theorem spileref51_asked.mono_l : ∀ k, (∀ y0 y1, LeO (spileref51_asked.j0 k y0 y1) (spileref51_asked.j0 (k + 1) y0 y1))
 | 0 => fun _ _ r h => by simp [spileref51_asked.j0] at h
 | k + 1 => by
  have ih0 := spileref51_asked.mono_l k
  ·intro y0 y1
   unfold spileref51_asked.j0
   repeat' first
   | (with_reducible exact ih0 _ _)
   | (with_reducible exact spileref46_Right.mono _ _ _)
   | (with_reducible exact spileref51_Check.mono _ _)
   | (with_reducible exact LeO.refl _)
   | (with_reducible exact LeO.none _)
   | (with_reducible refine LeO.ite ?_ ?_)
   | (with_reducible refine LeO.bind ?_ (fun _ => ?_))
   | exact ih0 _ _
   | exact spileref46_Right.mono _ _ _
   | exact spileref51_Check.mono _ _
   | exact LeO.none _
   | refine LeO.ite ?_ ?_
   | refine LeO.bind ?_ (fun _ => ?_)
theorem spileref51_asked.mono : ∀ a0 a1 a2 a3 k, LeO (spileref51_asked.f k a0 a1 a2 a3) (spileref51_asked.f (k + 1) a0 a1 a2 a3) := by
 intro a0 a1 a2 a3 k
 have ih0 := spileref51_asked.mono_l k
 unfold spileref51_asked.f
 repeat' first
   | (with_reducible exact ih0 _ _)
   | (with_reducible exact spileref46_Right.mono _ _ _)
   | (with_reducible exact spileref51_Check.mono _ _)
   | (with_reducible exact LeO.refl _)
   | (with_reducible exact LeO.none _)
   | (with_reducible refine LeO.ite ?_ ?_)
   | (with_reducible refine LeO.bind ?_ (fun _ => ?_))
   | exact ih0 _ _
   | exact spileref46_Right.mono _ _ _
   | exact spileref51_Check.mono _ _
   | exact LeO.none _
   | refine LeO.ite ?_ ?_
   | refine LeO.bind ?_ (fun _ => ?_)
set_option maxHeartbeats 8000000 in
set_option maxRecDepth 100000 in
theorem spileref51_asked.calls (k : Nat) (a0_0 : Int) (A0_1 : Option Addr) (c0_1 : Nat) (l0_1 : List (S60)) (A1 : Option Addr) (c1 : Nat) (l1 : List (S35)) (a2 : Int) (r : Int) (w : World) (hr0_1 : Kd.C k60 w A0_1 l0_1.length l0_1) (hc0_1 : l0_1.length ≤ c0_1) (hr1 : Kd.C k35 w A1 l1.length l1) (hc1 : l1.length ≤ c1) (h : spileref51_asked.f k a0_0 l0_1 l1 a2 = some r) :
  Calls Try.prog 33 #[.agg #[.int .i64 a0_0, .slice A0_1 l0_1.length c0_1], .slice A1 l1.length c1, .int .i64 a2] w fun e w' => e = .returned (.int .i64 r) ∧ Below w.heap.size w w' := by
 have hu24 := Try.underlying24
 have HR0_1 := Aside0.mk hr0_1
 have HC0_1 := Aside0.mk hc0_1
 clear hr0_1 hc0_1
 have HR1 := Aside0.mk hr1
 have HC1 := Aside0.mk hc1
 clear hr1 hc1
 have HB := Aside0.mk (Below.refl w.heap.size w)
 have H : ((spileref51_Check.f k l1).bind fun bt478 => ((spileref46_Right.f k a0_0 l0_1).bind fun t480 => (if t480 = true then (spileref51_asked.j0 k a2 (bt478.2 != 0)) else (spileref51_asked.j0 k a2 true)))) = some r := h
 clear h
 replace H := Option.bind_eq_some_iff.mp H
 obtain ⟨⟨t478, t479⟩, A40, H⟩ := H
 replace H : ((spileref46_Right.f k a0_0 l0_1).bind fun t480 => (if t480 = true then (spileref51_asked.j0 k a2 (t479 != 0)) else (spileref51_asked.j0 k a2 true))) = some r := H
 have A4 := Aside0.mk A40
 clear A40
 have HC5 := Aside0.mk H
 clear H
 go_enter Try.func33, Try.ntmps33
 go_upto_region 2 with (first | ((with_reducible refine gqD (N := 3) rfl ?_); refine GS.bx (N := 3) (cs := #[.int .i64 a0_0, .slice A0_1 l0_1.length c0_1]) (t := 24) ?_; intro gb477 hg w6 hbox hb; have n0_ := Aside0.mk (lqT (GS.lB HB.out) hb); have n1_ := Aside0.mk (hbox); have n2_ := Aside0.mk ((by rw [hg]; exact (lqZ (GS.lB HB.out)) : w.heap.size ≤ gb477)); have n3_ := Aside0.mk ((by rw [hg]; exact (lqZ (GS.lB HB.out)) : w.heap.size ≤ gb477)); clear HB; have HB := n0_; have BK477 := n1_; have GW477 := n2_; have GE477 := n3_; clear n0_ n1_ n2_ n3_; clear hb hbox hg) | ((with_reducible refine gqC (f := 45) rfl ?_); refine GS.gL (some 11) Try.func45 #[.slice A1 l1.length c1] ?_; (with_reducible refine (spileref51_Check.calls k _ _ l1 t478 t479 _ ?side1 ?side2 A4.out).mono ?_); (case side1 => exact GS.rC (Kd.C_below HR1.out HB.out)); (case side2 => exact HC1.out); rintro e w7 ⟨rfl, hb⟩; refine ⟨_, rfl, ?_⟩; have n0_ := Aside0.mk (bqB (GS.bqX BK477.out) hb); have n1_ := Aside0.mk (lqT (GS.lB HB.out) hb); clear BK477; clear HB; have BK477 := n0_; have HB := n1_; clear n0_ n1_; (try clear hb); (try clear hb2); (try clear hk); (try clear hi)))
 (try simp only [Act.put, List.setIfInBounds_toArray, List.set_cons_zero, List.set_cons_succ])
 go_cut [20] (fun v20 wc => ∃ (kq : Nat) (x20_4 : Bool), v20 = .bool x20_4 ∧ Aside0 (spileref51_asked.j0 kq a2 x20_4 = some r) ∧ Aside0 (kq ≤ k) ∧ Aside0 (wc.heap[gb477]? = some (.cells #[.int .i64 a0_0, (.slice A0_1 l0_1.length c0_1)] 24 (0, 0))) ∧ Aside0 (Below w.heap.size w wc))
 case first =>
  have H := HC5.out
  clear HC5
  replace H := Option.bind_eq_some_iff.mp H
  obtain ⟨t480, A80, H⟩ := H
  replace H : (if t480 = true then (spileref51_asked.j0 k a2 (t479 != 0)) else (spileref51_asked.j0 k a2 true)) = some r := H
  have A8 := Aside0.mk A80
  clear A80
  by_cases c9 : t480 = true
  ·subst c9
   have H1 : (spileref51_asked.j0 k a2 (t479 != 0)) = some r := by rw [if_pos rfl] at H; exact H
   clear H
   have H := H1
   clear H1
   have H' := Aside0.mk H
   clear H
   obtain ⟨hcz10_0, hcz10_1, hfz10_0, hfz10_1⟩ := GS.c2 BK477.out
   go_wp2_with (first | ((with_reducible refine gqC (f := 46) rfl ?_); refine GS.gL (some 15) Try.func46 #[.agg #[.int .i64 a0_0, .slice A0_1 l0_1.length c0_1]] ?_; (with_reducible refine (spileref46_Right.calls k a0_0 _ _ l0_1 true _ ?side1 ?side2 A8.out).mono ?_); (case side1 => exact GS.rC (Kd.C_below HR0_1.out HB.out)); (case side2 => exact HC0_1.out); rintro e w11 ⟨rfl, hb⟩; refine ⟨_, rfl, ?_⟩; have n0_ := Aside0.mk (bqB (GS.bqX BK477.out) hb); have n1_ := Aside0.mk (lqT (GS.lB HB.out) hb); clear BK477; clear HB; have BK477 := n0_; have HB := n1_; clear n0_ n1_; (try clear hb); (try clear hb2); (try clear hk); (try clear hi)))
   go_meet
   case rel => exact ⟨_, ((t479 != 0)), (by first | rfl | (simp; done) | (simp [*]; done)), H', ⟨by first | omega | exact Nat.le_refl _⟩, ⟨GS.bqX BK477.out⟩, ⟨GS.lB HB.out⟩⟩
  ·replace c9 := Bool.eq_false_iff.mpr c9
   subst c9
   have H1 : (spileref51_asked.j0 k a2 true) = some r := by rw [if_neg (show ¬ (false = true) by decide)] at H; exact H
   clear H
   have H := H1
   clear H1
   have H' := Aside0.mk H
   clear H
   obtain ⟨hcz12_0, hcz12_1, hfz12_0, hfz12_1⟩ := GS.c2 BK477.out
   go_wp2_with (first | ((with_reducible refine gqC (f := 46) rfl ?_); refine GS.gL (some 15) Try.func46 #[.agg #[.int .i64 a0_0, .slice A0_1 l0_1.length c0_1]] ?_; (with_reducible refine (spileref46_Right.calls k a0_0 _ _ l0_1 false _ ?side1 ?side2 A8.out).mono ?_); (case side1 => exact GS.rC (Kd.C_below HR0_1.out HB.out)); (case side2 => exact HC0_1.out); rintro e w13 ⟨rfl, hb⟩; refine ⟨_, rfl, ?_⟩; have n0_ := Aside0.mk (bqB (GS.bqX BK477.out) hb); have n1_ := Aside0.mk (lqT (GS.lB HB.out) hb); clear BK477; clear HB; have BK477 := n0_; have HB := n1_; clear n0_ n1_; (try clear hb); (try clear hb2); (try clear hk); (try clear hi)))
   go_meet
   case rel => exact ⟨_, (true), (by first | rfl | (simp; done) | (simp [*]; done)), H', ⟨by first | omega | exact Nat.le_refl _⟩, ⟨GS.bqX BK477.out⟩, ⟨GS.lB HB.out⟩⟩
 case rest =>
  clear HC5
  try clear c1
  try clear p2
  try clear c3
  try clear c4
  try clear c9
  try clear hcz10_0
  try clear hcz10_1
  try clear hcz12_0
  try clear hcz12_1
  try clear hfz10_0
  try clear hfz10_1
  try clear hfz12_0
  try clear hfz12_1
  obtain ⟨kq, x20_4, rfl, HA, HJ4, BK477, HB⟩ := hcut
  cases kq with
  | zero => exact absurd HA.out (by simp [spileref51_asked.j0])
  | succ kj4 =>
   have H := HA.out
   clear HA
   simp only [spileref51_asked.j0] at H
   by_cases c14 : x20_4 = true
   ·subst c14
    have H1 : (some 1) = some r := by rw [if_pos rfl] at H; exact H
    clear H
    have H := H1
    clear H1
    obtain rfl := Option.some.inj H
    go_wp2
    go_ret
    exact ⟨by first | rfl | (simp [errW_none, errW_some] <;> rfl) | (simp [*, errW_none, errW_some] <;> rfl), GS.lB HB.out⟩
   ·replace c14 := Bool.eq_false_iff.mpr c14
    subst c14
    have H1 : ((spileref51_between.f a2 0 100000).bind fun t481 => (if t481 = true then (some 0) else (some 2))) = some r := by rw [if_neg (show ¬ (false = true) by decide)] at H; exact H
    clear H
    have H := H1
    clear H1
    replace H := Option.bind_eq_some_iff.mp H
    obtain ⟨t481, A150, H⟩ := H
    replace H : (if t481 = true then (some 0) else (some 2)) = some r := H
    have A15 := Aside0.mk A150
    clear A150
    by_cases c16 : t481 = true
    ·subst c16
     have H1 : (some 0) = some r := by rw [if_pos rfl] at H; exact H
     clear H
     have H := H1
     clear H1
     obtain rfl := Option.some.inj H
     go_wp2_with (first | ((with_reducible refine gqC (f := 47) rfl ?_); refine GS.gL (some 22) Try.func47 #[.int .i64 a2, .int .i64 0, .int .i64 100000] ?_; (with_reducible refine (spileref51_between.calls a2 0 100000 true _ A15.out).mono ?_); rintro e w' ⟨rfl, ⟨nd, rfl⟩⟩; refine ⟨_, rfl, ?_⟩))
     go_ret
     exact ⟨by first | rfl | (simp [errW_none, errW_some] <;> rfl) | (simp [*, errW_none, errW_some] <;> rfl), GS.lB HB.out⟩
    ·replace c16 := Bool.eq_false_iff.mpr c16
     subst c16
     have H1 : (some 2) = some r := by rw [if_neg (show ¬ (false = true) by decide)] at H; exact H
     clear H
     have H := H1
     clear H1
     obtain rfl := Option.some.inj H
     go_wp2_with (first | ((with_reducible refine gqC (f := 47) rfl ?_); refine GS.gL (some 22) Try.func47 #[.int .i64 a2, .int .i64 0, .int .i64 100000] ?_; (with_reducible refine (spileref51_between.calls a2 0 100000 false _ A15.out).mono ?_); rintro e w' ⟨rfl, ⟨nd, rfl⟩⟩; refine ⟨_, rfl, ?_⟩))
     go_ret
     exact ⟨by first | rfl | (simp [errW_none, errW_some] <;> rfl) | (simp [*, errW_none, errW_some] <;> rfl), GS.lB HB.out⟩

/-! ### spileref46_Force: function 57 -/
def spileref46_Force.l0 : Nat → Int → Int → Bool → Int → Int → List (S60) → Int → Int → Int → Option (Int × Int × Int × Bool)
 | 0, _, _, _, _, _, _, _, _, _ => none
 | k + 1, x1, x2, x9, x10, x483000, x483001, x485000, x485001, x485002 => if x10 < (x483001.length : Int) then (if 0 ≤ x10 then (if ((rd_T60 x483001 x10).f0) = x1 then (if ((rd_T60 x483001 x10).f1) ≤ x2 then (spileref46_Force.l0 k x1 x2 true (wrap64 (x10 + 1)) x483000 x483001 ((rd_T60 x483001 x10).f0) ((rd_T60 x483001 x10).f1) ((rd_T60 x483001 x10).f2)) else (spileref46_Force.l0 k x1 x2 x9 (wrap64 (x10 + 1)) x483000 x483001 x485000 x485001 x485002)) else (spileref46_Force.l0 k x1 x2 x9 (wrap64 (x10 + 1)) x483000 x483001 x485000 x485001 x485002)) else (none)) else (some (x485000, x485001, x485002, x9))
def spileref46_Force.f (k : Nat) (a0_0 : Int) (l0_1 : List (S60)) (a1 : Int) (a2 : Int) : Option (Int × Int × Int × Bool) := spileref46_Force.l0 k a1 a2 false 0 a0_0 l0_1 0 0 0
theorem spileref46_Force.mono_l : ∀ k, (∀ y0 y1 y2 y3 y4 y5 y6 y7 y8, LeO (spileref46_Force.l0 k y0 y1 y2 y3 y4 y5 y6 y7 y8) (spileref46_Force.l0 (k + 1) y0 y1 y2 y3 y4 y5 y6 y7 y8))
 | 0 => fun _ _ _ _ _ _ _ _ _ r h => by simp [spileref46_Force.l0] at h
 | k + 1 => by
  have ih0 := spileref46_Force.mono_l k
  ·intro y0 y1 y2 y3 y4 y5 y6 y7 y8
   unfold spileref46_Force.l0
   repeat' first
   | (with_reducible exact ih0 _ _ _ _ _ _ _ _ _)
   | (with_reducible exact LeO.refl _)
   | (with_reducible exact LeO.none _)
   | (with_reducible refine LeO.ite ?_ ?_)
   | (with_reducible refine LeO.bind ?_ (fun _ => ?_))
   | exact ih0 _ _ _ _ _ _ _ _ _
   | exact LeO.none _
   | refine LeO.ite ?_ ?_
   | refine LeO.bind ?_ (fun _ => ?_)
theorem spileref46_Force.mono : ∀ a0 a1 a2 a3 k, LeO (spileref46_Force.f k a0 a1 a2 a3) (spileref46_Force.f (k + 1) a0 a1 a2 a3) := by
 intro a0 a1 a2 a3 k
 have ih0 := spileref46_Force.mono_l k
 unfold spileref46_Force.f
 repeat' first
   | (with_reducible exact ih0 _ _ _ _ _ _ _ _ _)
   | (with_reducible exact LeO.refl _)
   | (with_reducible exact LeO.none _)
   | (with_reducible refine LeO.ite ?_ ?_)
   | (with_reducible refine LeO.bind ?_ (fun _ => ?_))
   | exact ih0 _ _ _ _ _ _ _ _ _
   | exact LeO.none _
   | refine LeO.ite ?_ ?_
   | refine LeO.bind ?_ (fun _ => ?_)
set_option maxHeartbeats 8000000 in
set_option maxRecDepth 100000 in
theorem spileref46_Force.calls (k : Nat) (a0_0 : Int) (A0_1 : Option Addr) (c0_1 : Nat) (l0_1 : List (S60)) (a1 : Int) (a2 : Int) (r1 : Int) (r2 : Int) (r3 : Int) (r4 : Bool) (w : World) (hr0_1 : Kd.C k60 w A0_1 l0_1.length l0_1) (hc0_1 : l0_1.length ≤ c0_1) (h : spileref46_Force.f k a0_0 l0_1 a1 a2 = some (r1, r2, r3, r4)) :
  Calls Try.prog 57 #[.agg #[.int .i64 a0_0, .slice A0_1 l0_1.length c0_1], .int .i64 a1, .int .i64 a2] w fun e w' => e = .returned (.tuple #[.agg #[.int .i64 r1, .int .i64 r2, .int .i64 r3], .bool r4]) ∧ Below w.heap.size w w' := by
 have hu24 := Try.underlying24
 have hu60 := Try.underlying60
 have HR0_1 := Aside0.mk hr0_1
 have HC0_1 := Aside0.mk hc0_1
 clear hr0_1 hc0_1
 have HB := Aside0.mk (Below.refl w.heap.size w)
 have H : (spileref46_Force.l0 k a1 a2 false 0 a0_0 l0_1 0 0 0) = some (r1, r2, r3, r4) := h
 clear h
 have H' := Aside0.mk H
 clear H
 go_enter Try.func57, Try.ntmps57
 go_wp2_with (first | ((with_reducible refine gqD (N := 3) rfl ?_); refine GS.bx (N := 3) (cs := #[.int .i64 a0_0, .slice A0_1 l0_1.length c0_1]) (t := 24) ?_; intro gb482 hg w4 hbox hb; have n0_ := Aside0.mk (lqT (GS.lB HB.out) hb); have n1_ := Aside0.mk (hbox); have n2_ := Aside0.mk ((by rw [hg]; exact (lqZ (GS.lB HB.out)) : w.heap.size ≤ gb482)); have n3_ := Aside0.mk ((by rw [hg]; exact (lqZ (GS.lB HB.out)) : w.heap.size ≤ gb482)); clear HB; have HB := n0_; have BK482 := n1_; have GW482 := n2_; have GE482 := n3_; clear n0_ n1_ n2_ n3_; clear hb hbox hg) | ((with_reducible refine gqD (N := 6) rfl ?_); refine GS.bx (N := 6) (cs := #[.int .i64 0, .int .i64 0, .int .i64 0]) (t := 60) ?_; intro gb483 hg w5 hbox hb; have n0_ := Aside0.mk (bqB (GS.bqX BK482.out) hb); have n1_ := Aside0.mk (lqT (GS.lB HB.out) hb); have n2_ := Aside0.mk (hbox); have n3_ := Aside0.mk ((by rw [hg]; exact (lqZ (GS.lB HB.out)) : w.heap.size ≤ gb483)); have n4_ := Aside0.mk ((by rw [hg]; exact (lqZ (GS.lB HB.out)) : w.heap.size ≤ gb483)); have n5_ := Aside0.mk ((by rw [hg]; exact Nat.ne_of_lt (blk_lt (GS.bqX BK482.out)) : gb482 ≠ gb483)); have n6_ := Aside0.mk ((by rw [hg]; exact Nat.ne_of_gt (blk_lt (GS.bqX BK482.out)) : gb483 ≠ gb482)); clear BK482; clear HB; have BK482 := n0_; have HB := n1_; have BK483 := n2_; have GW483 := n3_; have GE483 := n4_; have NB482_483 := n5_; have NB483_482 := n6_; clear n0_ n1_ n2_ n3_ n4_ n5_ n6_; clear hb hbox hg) | ((with_reducible refine gqD (N := 8) rfl ?_); refine GS.bx (N := 8) (cs := #[.int .i64 0, .int .i64 0, .int .i64 0]) (t := 60) ?_; intro gb484 hg w6 hbox hb; have n0_ := Aside0.mk (bqB (GS.bqX BK482.out) hb); have n1_ := Aside0.mk (bqB (GS.bqX BK483.out) hb); have n2_ := Aside0.mk (lqT (GS.lB HB.out) hb); have n3_ := Aside0.mk (hbox); have n4_ := Aside0.mk ((by rw [hg]; exact (lqZ (GS.lB HB.out)) : w.heap.size ≤ gb484)); have n5_ := Aside0.mk ((by rw [hg]; exact (lqZ (GS.lB HB.out)) : w.heap.size ≤ gb484)); have n6_ := Aside0.mk ((by rw [hg]; exact Nat.ne_of_lt (blk_lt (GS.bqX BK482.out)) : gb482 ≠ gb484)); have n7_ := Aside0.mk ((by rw [hg]; exact Nat.ne_of_gt (blk_lt (GS.bqX BK482.out)) : gb484 ≠ gb482)); have n8_ := Aside0.mk ((by rw [hg]; exact Nat.ne_of_lt (blk_lt (GS.bqX BK483.out)) : gb483 ≠ gb484)); have n9_ := Aside0.mk ((by rw [hg]; exact Nat.ne_of_gt (blk_lt (GS.bqX BK483.out)) : gb484 ≠ gb483)); clear BK482; clear BK483; clear HB; have BK482 := n0_; have BK483 := n1_; have HB := n2_; have BK484 := n3_; have GW484 := n4_; have GE484 := n5_; have NB482_484 := n6_; have NB484_482 := n7_; have NB483_484 := n8_; have NB484_483 := n9_; clear n0_ n1_ n2_ n3_ n4_ n5_ n6_ n7_ n8_ n9_; clear hb hbox hg; have hnb7 := NB484_482.out; have hnc7 := NB482_484.out; have hnb8 := NB484_483.out; have hnc8 := NB483_484.out; obtain ⟨hcz9_0, hcz9_1, hcz9_2, hfz9_0, hfz9_1, hfz9_2⟩ := GS.c3 BK484.out))
 go_loopg [9, 10] k (fun kq v9 v10 w' => ∃ (x9_1 : Bool) (x10_1 : Int) (x485000_1 : Int) (x485001_1 : Int) (x485002_1 : Int), v9 = .bool x9_1 ∧ v10 = .int .i64 x10_1 ∧ Aside0 (spileref46_Force.l0 kq a1 a2 x9_1 x10_1 a0_0 l0_1 x485000_1 x485001_1 x485002_1 = some (r1, r2, r3, r4)) ∧ Aside0 (kq ≤ k) ∧ Aside0 (w'.heap[gb482]? = some (.cells #[.int .i64 a0_0, (.slice A0_1 l0_1.length c0_1)] 24 (0, 0))) ∧ Aside0 (w'.heap[gb483]? = some (.cells #[.int .i64 0, .int .i64 0, .int .i64 0] 60 (0, 0))) ∧ Aside0 (w'.heap[gb484]? = some (.cells #[.int .i64 x485000_1, .int .i64 x485001_1, .int .i64 x485002_1] 60 (0, 0))) ∧ Aside0 (Below w.heap.size w w'))
 case atStart => exact ⟨(false), (0), (0), (0), (0), (by first | rfl | (simp; done) | (simp [*]; done)), (by first | rfl | (simp; done) | (simp [*]; done)), H', ⟨Nat.le_refl _⟩, ⟨GS.bqX BK482.out⟩, ⟨GS.bqX BK483.out⟩, ⟨GS.bqZ BK484.out⟩, ⟨GS.lB HB.out⟩⟩
 case round =>
  clear H'
  try clear p2
  try clear c5
  try clear c7
  try clear c8
  try clear hcz9_0
  try clear hcz9_1
  try clear hcz9_2
  try clear hfz9_0
  try clear hfz9_1
  try clear hfz9_2
  obtain ⟨x9_1, x10_1, x485000_1, x485001_1, x485002_1, rfl, rfl, HA, HK1, BK482, BK483, BK484, HB⟩ := hrel
  cases gk with
  | zero => exact absurd HA.out (by simp [spileref46_Force.l0])
  | succ k1 =>
   have H := HA.out
   clear HA
   simp only [spileref46_Force.l0] at H
   by_cases c10 : x10_1 < (l0_1.length : Int)
   ·rw [if_pos c10] at H
    have c10b0 : decide (x10_1 < (l0_1.length : Int)) = true := decide_eq_true c10
    clear c10
    by_cases c11 : 0 ≤ x10_1
    ·rw [if_pos c11] at H
     have c11b0 : decide (0 ≤ x10_1) = true := decide_eq_true c11
     clear c11
     by_cases c12 : ((rd_T60 l0_1 x10_1).f0) = a1
     ·rw [if_pos c12] at H
      have c12b0 : (((rd_T60 l0_1 x10_1).f0) == a1) = true := beq_iff_eq.mpr c12
      try simp only [beq_self_eq_true, Bool.not_true, Bool.false_or, Bool.true_and] at c12b0
      have c12b1 : (((rd_T60 l0_1 x10_1).f0) != a1) = false := bne_eq_false_iff_eq.mpr c12
      clear c12
      by_cases c13 : ((rd_T60 l0_1 x10_1).f1) ≤ a2
      ·rw [if_pos c13] at H
       have c13b0 : decide (((rd_T60 l0_1 x10_1).f1) ≤ a2) = true := decide_eq_true c13
       clear c13
       have H' := Aside0.mk H
       clear H
       have hnb14 := NB482_483.out
       have hnc14 := NB483_482.out
       have hnb15 := NB482_484.out
       have hnc15 := NB484_482.out
       obtain ⟨hcz16_0, hcz16_1, hfz16_0, hfz16_1⟩ := GS.c2 BK482.out
       have p485 : 0 ≤ (x10_1 : Int) := of_decide_eq_true (by first | (with_reducible assumption) | assumption)
       have q485 : x10_1 < (l0_1.length : Int) := of_decide_eq_true (by first | (with_reducible assumption) | assumption)
       obtain ⟨ad485, e485, hx485_0, hx485_1, hx485_2⟩ := at_T60 HR0_1.out x10_1 p485 q485
       cases e485
       replace hx485_0 := (HB.out.cell (World.block_lt_of_cell? w _ hx485_0)).trans hx485_0
       replace hx485_1 := (HB.out.cell (World.block_lt_of_cell? w _ hx485_1)).trans hx485_1
       replace hx485_2 := (HB.out.cell (World.block_lt_of_cell? w _ hx485_2)).trans hx485_2
       replace p485 := eq_true p485
       replace q485 := eq_true q485
       go_wp2_with (first | ((with_reducible refine gqD (N := 11) rfl ?_); refine GS.bx (N := 11) (cs := #[.int .i64 0, .int .i64 0, .int .i64 0]) (t := 60) ?_; intro gb486 hg w17 hbox hb; have n0_ := Aside0.mk (bqB (GS.bqX BK482.out) hb); have n1_ := Aside0.mk (bqB (GS.bqX BK483.out) hb); have n2_ := Aside0.mk (bqB (GS.bqX BK484.out) hb); have n3_ := Aside0.mk (lqT (GS.lB HB.out) hb); have n4_ := Aside0.mk (hbox); have n5_ := Aside0.mk ((by rw [hg]; exact (lqZ (GS.lB HB.out)) : w.heap.size ≤ gb486)); have n6_ := Aside0.mk ((by rw [hg]; exact (lqZ (GS.lB HB.out)) : w.heap.size ≤ gb486)); have n7_ := Aside0.mk ((by rw [hg]; exact Nat.ne_of_lt (blk_lt (GS.bqX BK482.out)) : gb482 ≠ gb486)); have n8_ := Aside0.mk ((by rw [hg]; exact Nat.ne_of_gt (blk_lt (GS.bqX BK482.out)) : gb486 ≠ gb482)); have n9_ := Aside0.mk ((by rw [hg]; exact Nat.ne_of_lt (blk_lt (GS.bqX BK483.out)) : gb483 ≠ gb486)); have n10_ := Aside0.mk ((by rw [hg]; exact Nat.ne_of_gt (blk_lt (GS.bqX BK483.out)) : gb486 ≠ gb483)); have n11_ := Aside0.mk ((by rw [hg]; exact Nat.ne_of_lt (blk_lt (GS.bqX BK484.out)) : gb484 ≠ gb486)); have n12_ := Aside0.mk ((by rw [hg]; exact Nat.ne_of_gt (blk_lt (GS.bqX BK484.out)) : gb486 ≠ gb484)); clear BK482; clear BK483; clear BK484; clear HB; have BK482 := n0_; have BK483 := n1_; have BK484 := n2_; have HB := n3_; have BK486 := n4_; have GW486 := n5_; have GE486 := n6_; have NB482_486 := n7_; have NB486_482 := n8_; have NB483_486 := n9_; have NB486_483 := n10_; have NB484_486 := n11_; have NB486_484 := n12_; clear n0_ n1_ n2_ n3_ n4_ n5_ n6_ n7_ n8_ n9_ n10_ n11_ n12_; clear hb hbox hg; have hnb18 := NB486_482.out; have hnc18 := NB482_486.out; have hnb19 := NB486_483.out; have hnc19 := NB483_486.out; have hnb20 := NB486_484.out; have hnc20 := NB484_486.out; obtain ⟨hcz21_0, hcz21_1, hcz21_2, hfz21_0, hfz21_1, hfz21_2⟩ := GS.c3 BK486.out; have hnb22 := NB484_483.out; have hnc22 := NB483_484.out; obtain ⟨hcz23_0, hcz23_1, hcz23_2, hfz23_0, hfz23_1, hfz23_2⟩ := GS.c3 BK484.out))
       go_roundg k1
       case measure => have := HK1.out; omega
       case rel => exact ⟨(true), (wrap64 (x10_1 + 1)), ((rd_T60 l0_1 x10_1).f0), ((rd_T60 l0_1 x10_1).f1), ((rd_T60 l0_1 x10_1).f2), (by first | rfl | (simp; done) | (simp [*]; done)), (by first | rfl | (simp; done) | (simp [*]; done)), H', ⟨by have := HK1.out; omega⟩, ⟨GS.bqX BK482.out⟩, ⟨GS.bqX BK483.out⟩, ⟨GS.bqZ BK484.out⟩, ⟨GS.lB HB.out⟩⟩
      ·rw [if_neg c13] at H
       have c13b0 : decide (((rd_T60 l0_1 x10_1).f1) ≤ a2) = false := decide_eq_false c13
       clear c13
       have H' := Aside0.mk H
       clear H
       have hnb24 := NB482_483.out
       have hnc24 := NB483_482.out
       have hnb25 := NB482_484.out
       have hnc25 := NB484_482.out
       obtain ⟨hcz26_0, hcz26_1, hfz26_0, hfz26_1⟩ := GS.c2 BK482.out
       have p485 : 0 ≤ (x10_1 : Int) := of_decide_eq_true (by first | (with_reducible assumption) | assumption)
       have q485 : x10_1 < (l0_1.length : Int) := of_decide_eq_true (by first | (with_reducible assumption) | assumption)
       obtain ⟨ad485, e485, hx485_0, hx485_1, hx485_2⟩ := at_T60 HR0_1.out x10_1 p485 q485
       cases e485
       replace hx485_0 := (HB.out.cell (World.block_lt_of_cell? w _ hx485_0)).trans hx485_0
       replace hx485_1 := (HB.out.cell (World.block_lt_of_cell? w _ hx485_1)).trans hx485_1
       replace hx485_2 := (HB.out.cell (World.block_lt_of_cell? w _ hx485_2)).trans hx485_2
       replace p485 := eq_true p485
       replace q485 := eq_true q485
       go_wp2_with (first | ((with_reducible refine gqD (N := 11) rfl ?_); refine GS.bx (N := 11) (cs := #[.int .i64 0, .int .i64 0, .int .i64 0]) (t := 60) ?_; intro gb486 hg w27 hbox hb; have n0_ := Aside0.mk (bqB (GS.bqX BK482.out) hb); have n1_ := Aside0.mk (bqB (GS.bqX BK483.out) hb); have n2_ := Aside0.mk (bqB (GS.bqX BK484.out) hb); have n3_ := Aside0.mk (lqT (GS.lB HB.out) hb); have n4_ := Aside0.mk (hbox); have n5_ := Aside0.mk ((by rw [hg]; exact (lqZ (GS.lB HB.out)) : w.heap.size ≤ gb486)); have n6_ := Aside0.mk ((by rw [hg]; exact (lqZ (GS.lB HB.out)) : w.heap.size ≤ gb486)); have n7_ := Aside0.mk ((by rw [hg]; exact Nat.ne_of_lt (blk_lt (GS.bqX BK482.out)) : gb482 ≠ gb486)); have n8_ := Aside0.mk ((by rw [hg]; exact Nat.ne_of_gt (blk_lt (GS.bqX BK482.out)) : gb486 ≠ gb482)); have n9_ := Aside0.mk ((by rw [hg]; exact Nat.ne_of_lt (blk_lt (GS.bqX BK483.out)) : gb483 ≠ gb486)); have n10_ := Aside0.mk ((by rw [hg]; exact Nat.ne_of_gt (blk_lt (GS.bqX BK483.out)) : gb486 ≠ gb483)); have n11_ := Aside0.mk ((by rw [hg]; exact Nat.ne_of_lt (blk_lt (GS.bqX BK484.out)) : gb484 ≠ gb486)); have n12_ := Aside0.mk ((by rw [hg]; exact Nat.ne_of_gt (blk_lt (GS.bqX BK484.out)) : gb486 ≠ gb484)); clear BK482; clear BK483; clear BK484; clear HB; have BK482 := n0_; have BK483 := n1_; have BK484 := n2_; have HB := n3_; have BK486 := n4_; have GW486 := n5_; have GE486 := n6_; have NB482_486 := n7_; have NB486_482 := n8_; have NB483_486 := n9_; have NB486_483 := n10_; have NB484_486 := n11_; have NB486_484 := n12_; clear n0_ n1_ n2_ n3_ n4_ n5_ n6_ n7_ n8_ n9_ n10_ n11_ n12_; clear hb hbox hg; have hnb28 := NB486_482.out; have hnc28 := NB482_486.out; have hnb29 := NB486_483.out; have hnc29 := NB483_486.out; have hnb30 := NB486_484.out; have hnc30 := NB484_486.out; obtain ⟨hcz31_0, hcz31_1, hcz31_2, hfz31_0, hfz31_1, hfz31_2⟩ := GS.c3 BK486.out))
       go_roundg k1
       case measure => have := HK1.out; omega
       case rel => exact ⟨(x9_1), (wrap64 (x10_1 + 1)), (x485000_1), (x485001_1), (x485002_1), (by first | rfl | (simp; done) | (simp [*]; done)), (by first | rfl | (simp; done) | (simp [*]; done)), H', ⟨by have := HK1.out; omega⟩, ⟨GS.bqX BK482.out⟩, ⟨GS.bqX BK483.out⟩, ⟨GS.bqX BK484.out⟩, ⟨GS.lB HB.out⟩⟩
     ·rw [if_neg c12] at H
      have c12b0 : (((rd_T60 l0_1 x10_1).f0) == a1) = false := beq_eq_false_iff_ne.mpr c12
      try simp only [beq_self_eq_true, Bool.not_true, Bool.false_or, Bool.true_and] at c12b0
      have c12b1 : (((rd_T60 l0_1 x10_1).f0) != a1) = true := bne_iff_ne.mpr c12
      have H' := Aside0.mk H
      clear H
      have hnb32 := NB482_483.out
      have hnc32 := NB483_482.out
      have hnb33 := NB482_484.out
      have hnc33 := NB484_482.out
      obtain ⟨hcz34_0, hcz34_1, hfz34_0, hfz34_1⟩ := GS.c2 BK482.out
      have p485 : 0 ≤ (x10_1 : Int) := of_decide_eq_true (by first | (with_reducible assumption) | assumption)
      have q485 : x10_1 < (l0_1.length : Int) := of_decide_eq_true (by first | (with_reducible assumption) | assumption)
      obtain ⟨ad485, e485, hx485_0, hx485_1, hx485_2⟩ := at_T60 HR0_1.out x10_1 p485 q485
      cases e485
      replace hx485_0 := (HB.out.cell (World.block_lt_of_cell? w _ hx485_0)).trans hx485_0
      replace hx485_1 := (HB.out.cell (World.block_lt_of_cell? w _ hx485_1)).trans hx485_1
      replace hx485_2 := (HB.out.cell (World.block_lt_of_cell? w _ hx485_2)).trans hx485_2
      replace p485 := eq_true p485
      replace q485 := eq_true q485
      go_wp2_with (first | ((with_reducible refine gqD (N := 11) rfl ?_); refine GS.bx (N := 11) (cs := #[.int .i64 0, .int .i64 0, .int .i64 0]) (t := 60) ?_; intro gb486 hg w35 hbox hb; have n0_ := Aside0.mk (bqB (GS.bqX BK482.out) hb); have n1_ := Aside0.mk (bqB (GS.bqX BK483.out) hb); have n2_ := Aside0.mk (bqB (GS.bqX BK484.out) hb); have n3_ := Aside0.mk (lqT (GS.lB HB.out) hb); have n4_ := Aside0.mk (hbox); have n5_ := Aside0.mk ((by rw [hg]; exact (lqZ (GS.lB HB.out)) : w.heap.size ≤ gb486)); have n6_ := Aside0.mk ((by rw [hg]; exact (lqZ (GS.lB HB.out)) : w.heap.size ≤ gb486)); have n7_ := Aside0.mk ((by rw [hg]; exact Nat.ne_of_lt (blk_lt (GS.bqX BK482.out)) : gb482 ≠ gb486)); have n8_ := Aside0.mk ((by rw [hg]; exact Nat.ne_of_gt (blk_lt (GS.bqX BK482.out)) : gb486 ≠ gb482)); have n9_ := Aside0.mk ((by rw [hg]; exact Nat.ne_of_lt (blk_lt (GS.bqX BK483.out)) : gb483 ≠ gb486)); have n10_ := Aside0.mk ((by rw [hg]; exact Nat.ne_of_gt (blk_lt (GS.bqX BK483.out)) : gb486 ≠ gb483)); have n11_ := Aside0.mk ((by rw [hg]; exact Nat.ne_of_lt (blk_lt (GS.bqX BK484.out)) : gb484 ≠ gb486)); have n12_ := Aside0.mk ((by rw [hg]; exact Nat.ne_of_gt (blk_lt (GS.bqX BK484.out)) : gb486 ≠ gb484)); clear BK482; clear BK483; clear BK484; clear HB; have BK482 := n0_; have BK483 := n1_; have BK484 := n2_; have HB := n3_; have BK486 := n4_; have GW486 := n5_; have GE486 := n6_; have NB482_486 := n7_; have NB486_482 := n8_; have NB483_486 := n9_; have NB486_483 := n10_; have NB484_486 := n11_; have NB486_484 := n12_; clear n0_ n1_ n2_ n3_ n4_ n5_ n6_ n7_ n8_ n9_ n10_ n11_ n12_; clear hb hbox hg; have hnb36 := NB486_482.out; have hnc36 := NB482_486.out; have hnb37 := NB486_483.out; have hnc37 := NB483_486.out; have hnb38 := NB486_484.out; have hnc38 := NB484_486.out; obtain ⟨hcz39_0, hcz39_1, hcz39_2, hfz39_0, hfz39_1, hfz39_2⟩ := GS.c3 BK486.out))
      go_roundg k1
      case measure => have := HK1.out; omega
      case rel => exact ⟨(x9_1), (wrap64 (x10_1 + 1)), (x485000_1), (x485001_1), (x485002_1), (by first | rfl | (simp; done) | (simp [*]; done)), (by first | rfl | (simp; done) | (simp [*]; done)), H', ⟨by have := HK1.out; omega⟩, ⟨GS.bqX BK482.out⟩, ⟨GS.bqX BK483.out⟩, ⟨GS.bqX BK484.out⟩, ⟨GS.lB HB.out⟩⟩
    ·rw [if_neg c11] at H
     exact absurd H (by simp)
   ·rw [if_neg c10] at H
    have c10b0 : decide (x10_1 < (l0_1.length : Int)) = false := decide_eq_false c10
    clear c10
    simp only [Option.some.injEq, Prod.mk.injEq] at H
    obtain ⟨rfl, rfl, rfl, rfl⟩ := H
    have hnb40 := NB482_483.out
    have hnc40 := NB483_482.out
    have hnb41 := NB482_484.out
    have hnc41 := NB484_482.out
    obtain ⟨hcz42_0, hcz42_1, hfz42_0, hfz42_1⟩ := GS.c2 BK482.out
    have hnb43 := NB484_483.out
    have hnc43 := NB483_484.out
    obtain ⟨hcz44_0, hcz44_1, hcz44_2, hfz44_0, hfz44_1, hfz44_2⟩ := GS.c3 BK484.out
    obtain ⟨hcz45_0, hcz45_1, hcz45_2, hfz45_0, hfz45_1, hfz45_2⟩ := GS.c3 BK483.out
    go_wp2
    refine bodyPost_ret (results_ct rfl _ _ gb483 60 #[.int .i64 x485000_1, .int .i64 x485001_1, .int .i64 x485002_1] (0, 0) _ rfl (GS.bqZ BK483.out) Try.underlying60 rfl (by kernel_rfl)) rfl ?_
    exact ⟨by first | rfl | (simp [errW_none, errW_some] <;> rfl) | (simp [*, errW_none, errW_some] <;> rfl), GS.lB HB.out⟩

/-! ### spileref46_Most: function 48 -/
mutual
def spileref46_Most.l0 : Nat → Int → Int → Int → Bool → Int → Int → List (S60) → Int → Int → Int → Option (Int × Int × Int × Bool)
 | 0, _, _, _, _, _, _, _, _, _, _ => none
 | k + 1, x1, x2, x3, x11, x12, x488000, x488001, x494000, x494001, x494002 => if x12 < (x488001.length : Int) then (if 0 ≤ x12 then (if ((rd_T60 x488001 x12).f0) = x1 then (if ((rd_T60 x488001 x12).f1) > x2 then (if ((rd_T60 x488001 x12).f1) ≤ x3 then (if x11 = true then (spileref46_Most.j1 k x1 x2 x3 x11 x12 (decide (((rd_T60 x488001 x12).f2) > x494002)) x488000 x488001 x494000 x494001 x494002 ((rd_T60 x488001 x12).f0) ((rd_T60 x488001 x12).f1) ((rd_T60 x488001 x12).f2)) else (spileref46_Most.j1 k x1 x2 x3 x11 x12 true x488000 x488001 x494000 x494001 x494002 ((rd_T60 x488001 x12).f0) ((rd_T60 x488001 x12).f1) ((rd_T60 x488001 x12).f2))) else (spileref46_Most.j1 k x1 x2 x3 x11 x12 false x488000 x488001 x494000 x494001 x494002 ((rd_T60 x488001 x12).f0) ((rd_T60 x488001 x12).f1) ((rd_T60 x488001 x12).f2))) else (spileref46_Most.j1 k x1 x2 x3 x11 x12 false x488000 x488001 x494000 x494001 x494002 ((rd_T60 x488001 x12).f0) ((rd_T60 x488001 x12).f1) ((rd_T60 x488001 x12).f2))) else (spileref46_Most.j1 k x1 x2 x3 x11 x12 false x488000 x488001 x494000 x494001 x494002 ((rd_T60 x488001 x12).f0) ((rd_T60 x488001 x12).f1) ((rd_T60 x488001 x12).f2))) else (none)) else (some (x494000, x494001, x494002, x11))
def spileref46_Most.j1 : Nat → Int → Int → Int → Bool → Int → Bool → Int → List (S60) → Int → Int → Int → Int → Int → Int → Option (Int × Int × Int × Bool)
 | 0, _, _, _, _, _, _, _, _, _, _, _, _, _, _ => none
 | k + 1, x1, x2, x3, x11, x12, x59, x488000, x488001, x494000, x494001, x494002, x496000, x496001, x496002 => if x59 = true then (spileref46_Most.l0 k x1 x2 x3 true (wrap64 (x12 + 1)) x488000 x488001 x496000 x496001 x496002) else (spileref46_Most.l0 k x1 x2 x3 x11 (wrap64 (x12 + 1)) x488000 x488001 x494000 x494001 x494002)
end
def spileref46_Most.f (k : Nat) (a0_0 : Int) (l0_1 : List (S60)) (a1 : Int) (a2 : Int) (a3 : Int) : Option (Int × Int × Int × Bool) := (spileref46_Force.f k a0_0 l0_1 a1 a2).bind fun bt489 => (spileref46_Most.l0 k a1 a2 a3 bt489.2.2.2 0 a0_0 l0_1 bt489.1 bt489.2.1 bt489.2.2.1)
theorem spileref46_Most.mono_l : ∀ k, (∀ y0 y1 y2 y3 y4 y5 y6 y7 y8 y9, LeO (spileref46_Most.l0 k y0 y1 y2 y3 y4 y5 y6 y7 y8 y9) (spileref46_Most.l0 (k + 1) y0 y1 y2 y3 y4 y5 y6 y7 y8 y9)) ∧ (∀ y0 y1 y2 y3 y4 y5 y6 y7 y8 y9 y10 y11 y12 y13, LeO (spileref46_Most.j1 k y0 y1 y2 y3 y4 y5 y6 y7 y8 y9 y10 y11 y12 y13) (spileref46_Most.j1 (k + 1) y0 y1 y2 y3 y4 y5 y6 y7 y8 y9 y10 y11 y12 y13))
 | 0 => ⟨fun _ _ _ _ _ _ _ _ _ _ r h => by simp [spileref46_Most.l0] at h, fun _ _ _ _ _ _ _ _ _ _ _ _ _ _ r h => by simp [spileref46_Most.j1] at h⟩
 | k + 1 => by
  obtain ⟨ih0, ih1⟩ := spileref46_Most.mono_l k
  refine ⟨?_, ?_⟩
  ·intro y0 y1 y2 y3 y4 y5 y6 y7 y8 y9
   unfold spileref46_Most.l0
   repeat' first
   | (with_reducible exact ih0 _ _ _ _ _ _ _ _ _ _)
   | (with_reducible exact ih1 _ _ _ _ _ _ _ _ _ _ _ _ _ _)
   | (with_reducible exact spileref46_Force.mono _ _ _ _ _)
   | (with_reducible exact LeO.refl _)
   | (with_reducible exact LeO.none _)
   | (with_reducible refine LeO.ite ?_ ?_)
   | (with_reducible refine LeO.bind ?_ (fun _ => ?_))
   | exact ih0 _ _ _ _ _ _ _ _ _ _
   | exact ih1 _ _ _ _ _ _ _ _ _ _ _ _ _ _
   | exact spileref46_Force.mono _ _ _ _ _
   | exact LeO.none _
   | refine LeO.ite ?_ ?_
   | refine LeO.bind ?_ (fun _ => ?_)
  ·intro y0 y1 y2 y3 y4 y5 y6 y7 y8 y9 y10 y11 y12 y13
   unfold spileref46_Most.j1
   repeat' first
   | (with_reducible exact ih0 _ _ _ _ _ _ _ _ _ _)
   | (with_reducible exact ih1 _ _ _ _ _ _ _ _ _ _ _ _ _ _)
   | (with_reducible exact spileref46_Force.mono _ _ _ _ _)
   | (with_reducible exact LeO.refl _)
   | (with_reducible exact LeO.none _)
   | (with_reducible refine LeO.ite ?_ ?_)
   | (with_reducible refine LeO.bind ?_ (fun _ => ?_))
   | exact ih0 _ _ _ _ _ _ _ _ _ _
   | exact ih1 _ _ _ _ _ _ _ _ _ _ _ _ _ _
   | exact spileref46_Force.mono _ _ _ _ _
   | exact LeO.none _
   | refine LeO.ite ?_ ?_
   | refine LeO.bind ?_ (fun _ => ?_)
theorem spileref46_Most.mono : ∀ a0 a1 a2 a3 a4 k, LeO (spileref46_Most.f k a0 a1 a2 a3 a4) (spileref46_Most.f (k + 1) a0 a1 a2 a3 a4) := by
 intro a0 a1 a2 a3 a4 k
 obtain ⟨ih0, ih1⟩ := spileref46_Most.mono_l k
 unfold spileref46_Most.f
 repeat' first
   | (with_reducible exact ih0 _ _ _ _ _ _ _ _ _ _)
   | (with_reducible exact ih1 _ _ _ _ _ _ _ _ _ _ _ _ _ _)
   | (with_reducible exact spileref46_Force.mono _ _ _ _ _)
   | (with_reducible exact LeO.refl _)
   | (with_reducible exact LeO.none _)
   | (with_reducible refine LeO.ite ?_ ?_)
   | (with_reducible refine LeO.bind ?_ (fun _ => ?_))
   | exact ih0 _ _ _ _ _ _ _ _ _ _
   | exact ih1 _ _ _ _ _ _ _ _ _ _ _ _ _ _
   | exact spileref46_Force.mono _ _ _ _ _
   | exact LeO.none _
   | refine LeO.ite ?_ ?_
   | refine LeO.bind ?_ (fun _ => ?_)
set_option maxHeartbeats 8000000 in
set_option maxRecDepth 100000 in
theorem spileref46_Most.calls (k : Nat) (a0_0 : Int) (A0_1 : Option Addr) (c0_1 : Nat) (l0_1 : List (S60)) (a1 : Int) (a2 : Int) (a3 : Int) (r1 : Int) (r2 : Int) (r3 : Int) (r4 : Bool) (w : World) (hr0_1 : Kd.C k60 w A0_1 l0_1.length l0_1) (hc0_1 : l0_1.length ≤ c0_1) (h : spileref46_Most.f k a0_0 l0_1 a1 a2 a3 = some (r1, r2, r3, r4)) :
  Calls Try.prog 48 #[.agg #[.int .i64 a0_0, .slice A0_1 l0_1.length c0_1], .int .i64 a1, .int .i64 a2, .int .i64 a3] w fun e w' => e = .returned (.tuple #[.agg #[.int .i64 r1, .int .i64 r2, .int .i64 r3], .bool r4]) ∧ Below w.heap.size w w' := by
 have hu24 := Try.underlying24
 have hu60 := Try.underlying60
 have HR0_1 := Aside0.mk hr0_1
 have HC0_1 := Aside0.mk hc0_1
 clear hr0_1 hc0_1
 have HB := Aside0.mk (Below.refl w.heap.size w)
 have H : ((spileref46_Force.f k a0_0 l0_1 a1 a2).bind fun bt489 => (spileref46_Most.l0 k a1 a2 a3 bt489.2.2.2 0 a0_0 l0_1 bt489.1 bt489.2.1 bt489.2.2.1)) = some (r1, r2, r3, r4) := h
 clear h
 replace H := Option.bind_eq_some_iff.mp H
 obtain ⟨⟨t489, t490, t491, t492⟩, A50, H⟩ := H
 replace H : (spileref46_Most.l0 k a1 a2 a3 t492 0 a0_0 l0_1 t489 t490 t491) = some (r1, r2, r3, r4) := H
 have A5 := Aside0.mk A50
 clear A50
 have H' := Aside0.mk H
 clear H
 go_enter Try.func48, Try.ntmps48
 go_wp2_with (first | ((with_reducible refine gqD (N := 4) rfl ?_); refine GS.bx (N := 4) (cs := #[.int .i64 a0_0, .slice A0_1 l0_1.length c0_1]) (t := 24) ?_; intro gb487 hg w6 hbox hb; have n0_ := Aside0.mk (lqT (GS.lB HB.out) hb); have n1_ := Aside0.mk (hbox); have n2_ := Aside0.mk ((by rw [hg]; exact (lqZ (GS.lB HB.out)) : w.heap.size ≤ gb487)); have n3_ := Aside0.mk ((by rw [hg]; exact (lqZ (GS.lB HB.out)) : w.heap.size ≤ gb487)); clear HB; have HB := n0_; have BK487 := n1_; have GW487 := n2_; have GE487 := n3_; clear n0_ n1_ n2_ n3_; clear hb hbox hg) | ((with_reducible refine gqD (N := 8) rfl ?_); refine GS.bx (N := 8) (cs := #[.int .i64 0, .int .i64 0, .int .i64 0]) (t := 60) ?_; intro gb488 hg w7 hbox hb; have n0_ := Aside0.mk (bqB (GS.bqX BK487.out) hb); have n1_ := Aside0.mk (lqT (GS.lB HB.out) hb); have n2_ := Aside0.mk (hbox); have n3_ := Aside0.mk ((by rw [hg]; exact (lqZ (GS.lB HB.out)) : w.heap.size ≤ gb488)); have n4_ := Aside0.mk ((by rw [hg]; exact (lqZ (GS.lB HB.out)) : w.heap.size ≤ gb488)); have n5_ := Aside0.mk ((by rw [hg]; exact Nat.ne_of_lt (blk_lt (GS.bqX BK487.out)) : gb487 ≠ gb488)); have n6_ := Aside0.mk ((by rw [hg]; exact Nat.ne_of_gt (blk_lt (GS.bqX BK487.out)) : gb488 ≠ gb487)); clear BK487; clear HB; have BK487 := n0_; have HB := n1_; have BK488 := n2_; have GW488 := n3_; have GE488 := n4_; have NB487_488 := n5_; have NB488_487 := n6_; clear n0_ n1_ n2_ n3_ n4_ n5_ n6_; clear hb hbox hg; have hnb8 := NB487_488.out; have hnc8 := NB488_487.out; obtain ⟨hcz9_0, hcz9_1, hfz9_0, hfz9_1⟩ := GS.c2 BK487.out) | ((with_reducible refine gqC (f := 57) rfl ?_); refine GS.gL (some 18) Try.func57 #[.agg #[.int .i64 a0_0, .slice A0_1 l0_1.length c0_1], .int .i64 a1, .int .i64 a2] ?_; (with_reducible refine (spileref46_Force.calls k a0_0 _ _ l0_1 a1 a2 t489 t490 t491 t492 _ ?side1 ?side2 A5.out).mono ?_); (case side1 => exact GS.rC (Kd.C_below HR0_1.out HB.out)); (case side2 => exact HC0_1.out); rintro e w10 ⟨rfl, hb⟩; refine ⟨_, rfl, ?_⟩; have n0_ := Aside0.mk (bqB (GS.bqX BK487.out) hb); have n1_ := Aside0.mk (bqB (GS.bqX BK488.out) hb); have n2_ := Aside0.mk (lqT (GS.lB HB.out) hb); clear BK487; clear BK488; clear HB; have BK487 := n0_; have BK488 := n1_; have HB := n2_; clear n0_ n1_ n2_; (try clear hb); (try clear hb2); (try clear hk); (try clear hi)) | ((with_reducible refine gqD (N := 10) rfl ?_); refine GS.bx (N := 10) (cs := #[.int .i64 0, .int .i64 0, .int .i64 0]) (t := 60) ?_; intro gb493 hg w11 hbox hb; have n0_ := Aside0.mk (bqB (GS.bqX BK487.out) hb); have n1_ := Aside0.mk (bqB (GS.bqX BK488.out) hb); have n2_ := Aside0.mk (lqT (GS.lB HB.out) hb); have n3_ := Aside0.mk (hbox); have n4_ := Aside0.mk ((by rw [hg]; exact (lqZ (GS.lB HB.out)) : w.heap.size ≤ gb493)); have n5_ := Aside0.mk ((by rw [hg]; exact (lqZ (GS.lB HB.out)) : w.heap.size ≤ gb493)); have n6_ := Aside0.mk ((by rw [hg]; exact Nat.ne_of_lt (blk_lt (GS.bqX BK487.out)) : gb487 ≠ gb493)); have n7_ := Aside0.mk ((by rw [hg]; exact Nat.ne_of_gt (blk_lt (GS.bqX BK487.out)) : gb493 ≠ gb487)); have n8_ := Aside0.mk ((by rw [hg]; exact Nat.ne_of_lt (blk_lt (GS.bqX BK488.out)) : gb488 ≠ gb493)); have n9_ := Aside0.mk ((by rw [hg]; exact Nat.ne_of_gt (blk_lt (GS.bqX BK488.out)) : gb493 ≠ gb488)); clear BK487; clear BK488; clear HB; have BK487 := n0_; have BK488 := n1_; have HB := n2_; have BK493 := n3_; have GW493 := n4_; have GE493 := n5_; have NB487_493 := n6_; have NB493_487 := n7_; have NB488_493 := n8_; have NB493_488 := n9_; clear n0_ n1_ n2_ n3_ n4_ n5_ n6_ n7_ n8_ n9_; clear hb hbox hg; have hnb12 := NB493_487.out; have hnc12 := NB487_493.out; have hnb13 := NB493_488.out; have hnc13 := NB488_493.out; obtain ⟨hcz14_0, hcz14_1, hcz14_2, hfz14_0, hfz14_1, hfz14_2⟩ := GS.c3 BK493.out))
 go_loopg [11, 12] k (fun kq v11 v12 w' => ∃ (x11_1 : Bool) (x12_1 : Int) (x494000_1 : Int) (x494001_1 : Int) (x494002_1 : Int), v11 = .bool x11_1 ∧ v12 = .int .i64 x12_1 ∧ Aside0 (spileref46_Most.l0 kq a1 a2 a3 x11_1 x12_1 a0_0 l0_1 x494000_1 x494001_1 x494002_1 = some (r1, r2, r3, r4)) ∧ Aside0 (kq ≤ k) ∧ Aside0 (w'.heap[gb487]? = some (.cells #[.int .i64 a0_0, (.slice A0_1 l0_1.length c0_1)] 24 (0, 0))) ∧ Aside0 (w'.heap[gb488]? = some (.cells #[.int .i64 0, .int .i64 0, .int .i64 0] 60 (0, 0))) ∧ Aside0 (w'.heap[gb493]? = some (.cells #[.int .i64 x494000_1, .int .i64 x494001_1, .int .i64 x494002_1] 60 (0, 0))) ∧ Aside0 (Below w.heap.size w w'))
 case atStart => exact ⟨(t492), (0), (t489), (t490), (t491), (by first | rfl | (simp; done) | (simp [*]; done)), (by first | rfl | (simp; done) | (simp [*]; done)), H', ⟨Nat.le_refl _⟩, ⟨GS.bqX BK487.out⟩, ⟨GS.bqX BK488.out⟩, ⟨GS.bqZ BK493.out⟩, ⟨GS.lB HB.out⟩⟩
 case round =>
  clear H'
  try clear c1
  try clear p2
  try clear c4
  try clear c5
  try clear c8
  try clear c12
  try clear c13
  try clear hcz14_0
  try clear hcz14_1
  try clear hcz14_2
  try clear hcz9_0
  try clear hcz9_1
  try clear hfz14_0
  try clear hfz14_1
  try clear hfz14_2
  try clear hfz9_0
  try clear hfz9_1
  obtain ⟨x11_1, x12_1, x494000_1, x494001_1, x494002_1, rfl, rfl, HA, HK1, BK487, BK488, BK493, HB⟩ := hrel
  cases gk with
  | zero => exact absurd HA.out (by simp [spileref46_Most.l0])
  | succ k1 =>
   have H := HA.out
   clear HA
   simp only [spileref46_Most.l0] at H
   by_cases c15 : x12_1 < (l0_1.length : Int)
   ·rw [if_pos c15] at H
    have c15b0 : decide (x12_1 < (l0_1.length : Int)) = true := decide_eq_true c15
    clear c15
    by_cases c16 : 0 ≤ x12_1
    ·rw [if_pos c16] at H
     have c16b0 : decide (0 ≤ x12_1) = true := decide_eq_true c16
     clear c16
     have HC17 := Aside0.mk H
     clear H
     have hnb18 := NB487_488.out
     have hnc18 := NB488_487.out
     have hnb19 := NB487_493.out
     have hnc19 := NB493_487.out
     obtain ⟨hcz20_0, hcz20_1, hfz20_0, hfz20_1⟩ := GS.c2 BK487.out
     have p494 : 0 ≤ (x12_1 : Int) := of_decide_eq_true (by first | (with_reducible assumption) | assumption)
     have q494 : x12_1 < (l0_1.length : Int) := of_decide_eq_true (by first | (with_reducible assumption) | assumption)
     obtain ⟨ad494, e494, hx494_0, hx494_1, hx494_2⟩ := at_T60 HR0_1.out x12_1 p494 q494
     cases e494
     replace hx494_0 := (HB.out.cell (World.block_lt_of_cell? w _ hx494_0)).trans hx494_0
     replace hx494_1 := (HB.out.cell (World.block_lt_of_cell? w _ hx494_1)).trans hx494_1
     replace hx494_2 := (HB.out.cell (World.block_lt_of_cell? w _ hx494_2)).trans hx494_2
     replace p494 := eq_true p494
     replace q494 := eq_true q494
     go_upto_region 6 with (first | ((with_reducible refine gqD (N := 13) rfl ?_); refine GS.bx (N := 13) (cs := #[.int .i64 0, .int .i64 0, .int .i64 0]) (t := 60) ?_; intro gb495 hg w21 hbox hb; have n0_ := Aside0.mk (bqB (GS.bqX BK487.out) hb); have n1_ := Aside0.mk (bqB (GS.bqX BK488.out) hb); have n2_ := Aside0.mk (bqB (GS.bqX BK493.out) hb); have n3_ := Aside0.mk (lqT (GS.lB HB.out) hb); have n4_ := Aside0.mk (hbox); have n5_ := Aside0.mk ((by rw [hg]; exact (lqZ (GS.lB HB.out)) : w.heap.size ≤ gb495)); have n6_ := Aside0.mk ((by rw [hg]; exact (lqZ (GS.lB HB.out)) : w.heap.size ≤ gb495)); have n7_ := Aside0.mk ((by rw [hg]; exact Nat.ne_of_lt (blk_lt (GS.bqX BK487.out)) : gb487 ≠ gb495)); have n8_ := Aside0.mk ((by rw [hg]; exact Nat.ne_of_gt (blk_lt (GS.bqX BK487.out)) : gb495 ≠ gb487)); have n9_ := Aside0.mk ((by rw [hg]; exact Nat.ne_of_lt (blk_lt (GS.bqX BK488.out)) : gb488 ≠ gb495)); have n10_ := Aside0.mk ((by rw [hg]; exact Nat.ne_of_gt (blk_lt (GS.bqX BK488.out)) : gb495 ≠ gb488)); have n11_ := Aside0.mk ((by rw [hg]; exact Nat.ne_of_lt (blk_lt (GS.bqX BK493.out)) : gb493 ≠ gb495)); have n12_ := Aside0.mk ((by rw [hg]; exact Nat.ne_of_gt (blk_lt (GS.bqX BK493.out)) : gb495 ≠ gb493)); clear BK487; clear BK488; clear BK493; clear HB; have BK487 := n0_; have BK488 := n1_; have BK493 := n2_; have HB := n3_; have BK495 := n4_; have GW495 := n5_; have GE495 := n6_; have NB487_495 := n7_; have NB495_487 := n8_; have NB488_495 := n9_; have NB495_488 := n10_; have NB493_495 := n11_; have NB495_493 := n12_; clear n0_ n1_ n2_ n3_ n4_ n5_ n6_ n7_ n8_ n9_ n10_ n11_ n12_; clear hb hbox hg; have hnb22 := NB495_487.out; have hnc22 := NB487_495.out; have hnb23 := NB495_488.out; have hnc23 := NB488_495.out; have hnb24 := NB495_493.out; have hnc24 := NB493_495.out; obtain ⟨hcz25_0, hcz25_1, hcz25_2, hfz25_0, hfz25_1, hfz25_2⟩ := GS.c3 BK495.out))
     (try simp only [Act.put, List.setIfInBounds_toArray, List.set_cons_zero, List.set_cons_succ])
     go_cut [59] (fun v59 wc => ∃ (kq : Nat) (x59_16 : Bool), v59 = .bool x59_16 ∧ Aside0 (spileref46_Most.j1 kq a1 a2 a3 x11_1 x12_1 x59_16 a0_0 l0_1 x494000_1 x494001_1 x494002_1 ((rd_T60 l0_1 x12_1).f0) ((rd_T60 l0_1 x12_1).f1) ((rd_T60 l0_1 x12_1).f2) = some (r1, r2, r3, r4)) ∧ Aside0 (kq ≤ k1) ∧ Aside0 (wc.heap[gb487]? = some (.cells #[.int .i64 a0_0, (.slice (some ad494) l0_1.length c0_1)] 24 (0, 0))) ∧ Aside0 (wc.heap[gb488]? = some (.cells #[.int .i64 0, .int .i64 0, .int .i64 0] 60 (0, 0))) ∧ Aside0 (wc.heap[gb493]? = some (.cells #[.int .i64 x494000_1, .int .i64 x494001_1, .int .i64 x494002_1] 60 (0, 0))) ∧ Aside0 (wc.heap[gb495]? = some (.cells #[.int .i64 ((rd_T60 l0_1 x12_1).f0), .int .i64 ((rd_T60 l0_1 x12_1).f1), .int .i64 ((rd_T60 l0_1 x12_1).f2)] 60 (0, 0))) ∧ Aside0 (Below w.heap.size w wc))
     case first =>
      have H := HC17.out
      clear HC17
      by_cases c26 : ((rd_T60 l0_1 x12_1).f0) = a1
      ·rw [if_pos c26] at H
       have c26b0 : (((rd_T60 l0_1 x12_1).f0) == a1) = true := beq_iff_eq.mpr c26
       try simp only [beq_self_eq_true, Bool.not_true, Bool.false_or, Bool.true_and] at c26b0
       have c26b1 : (((rd_T60 l0_1 x12_1).f0) != a1) = false := bne_eq_false_iff_eq.mpr c26
       clear c26
       (first | rw [c26b0] | (simp only [i64_w, i32_w]; rw [c26b0]) | skip)
       by_cases c27 : ((rd_T60 l0_1 x12_1).f1) > a2
       ·rw [if_pos c27] at H
        have c27b0 : decide (a2 < ((rd_T60 l0_1 x12_1).f1)) = true := decide_eq_true c27
        clear c27
        by_cases c28 : ((rd_T60 l0_1 x12_1).f1) ≤ a3
        ·rw [if_pos c28] at H
         have c28b0 : decide (((rd_T60 l0_1 x12_1).f1) ≤ a3) = true := decide_eq_true c28
         clear c28
         by_cases c29 : x11_1 = true
         ·subst c29
          have H1 : (spileref46_Most.j1 k1 a1 a2 a3 true x12_1 (decide (((rd_T60 l0_1 x12_1).f2) > x494002_1)) a0_0 l0_1 x494000_1 x494001_1 x494002_1 ((rd_T60 l0_1 x12_1).f0) ((rd_T60 l0_1 x12_1).f1) ((rd_T60 l0_1 x12_1).f2)) = some (r1, r2, r3, r4) := by rw [if_pos rfl] at H; exact H
          clear H
          have H := H1
          clear H1
          have H' := Aside0.mk H
          clear H
          have hnb30 := NB495_487.out
          have hnc30 := NB487_495.out
          have hnb31 := NB495_488.out
          have hnc31 := NB488_495.out
          have hnb32 := NB495_493.out
          have hnc32 := NB493_495.out
          obtain ⟨hcz33_0, hcz33_1, hcz33_2, hfz33_0, hfz33_1, hfz33_2⟩ := GS.c3 BK495.out
          have hnb34 := NB493_487.out
          have hnc34 := NB487_493.out
          have hnb35 := NB493_488.out
          have hnc35 := NB488_493.out
          obtain ⟨hcz36_0, hcz36_1, hcz36_2, hfz36_0, hfz36_1, hfz36_2⟩ := GS.c3 BK493.out
          go_wp2
          go_meet
          case rel => exact ⟨_, (decide (((rd_T60 l0_1 x12_1).f2) > x494002_1)), (by first | rfl | (simp; done) | (simp [*]; done)), H', ⟨by have := HK1.out; first | omega | exact Nat.le_refl _⟩, ⟨GS.bqX BK487.out⟩, ⟨GS.bqX BK488.out⟩, ⟨GS.bqX BK493.out⟩, ⟨GS.bqZ BK495.out⟩, ⟨GS.lB HB.out⟩⟩
         ·replace c29 := Bool.eq_false_iff.mpr c29
          subst c29
          have H1 : (spileref46_Most.j1 k1 a1 a2 a3 false x12_1 true a0_0 l0_1 x494000_1 x494001_1 x494002_1 ((rd_T60 l0_1 x12_1).f0) ((rd_T60 l0_1 x12_1).f1) ((rd_T60 l0_1 x12_1).f2)) = some (r1, r2, r3, r4) := by rw [if_neg (show ¬ (false = true) by decide)] at H; exact H
          clear H
          have H := H1
          clear H1
          have H' := Aside0.mk H
          clear H
          have hnb37 := NB495_487.out
          have hnc37 := NB487_495.out
          have hnb38 := NB495_488.out
          have hnc38 := NB488_495.out
          have hnb39 := NB495_493.out
          have hnc39 := NB493_495.out
          obtain ⟨hcz40_0, hcz40_1, hcz40_2, hfz40_0, hfz40_1, hfz40_2⟩ := GS.c3 BK495.out
          go_wp2
          go_meet
          case rel => exact ⟨_, (true), (by first | rfl | (simp; done) | (simp [*]; done)), H', ⟨by have := HK1.out; first | omega | exact Nat.le_refl _⟩, ⟨GS.bqX BK487.out⟩, ⟨GS.bqX BK488.out⟩, ⟨GS.bqX BK493.out⟩, ⟨GS.bqZ BK495.out⟩, ⟨GS.lB HB.out⟩⟩
        ·rw [if_neg c28] at H
         have c28b0 : decide (((rd_T60 l0_1 x12_1).f1) ≤ a3) = false := decide_eq_false c28
         clear c28
         have H' := Aside0.mk H
         clear H
         have hnb41 := NB495_487.out
         have hnc41 := NB487_495.out
         have hnb42 := NB495_488.out
         have hnc42 := NB488_495.out
         have hnb43 := NB495_493.out
         have hnc43 := NB493_495.out
         obtain ⟨hcz44_0, hcz44_1, hcz44_2, hfz44_0, hfz44_1, hfz44_2⟩ := GS.c3 BK495.out
         go_wp2
         go_meet
         case rel => exact ⟨_, (false), (by first | rfl | (simp; done) | (simp [*]; done)), H', ⟨by have := HK1.out; first | omega | exact Nat.le_refl _⟩, ⟨GS.bqX BK487.out⟩, ⟨GS.bqX BK488.out⟩, ⟨GS.bqX BK493.out⟩, ⟨GS.bqZ BK495.out⟩, ⟨GS.lB HB.out⟩⟩
       ·rw [if_neg c27] at H
        have c27b0 : decide (a2 < ((rd_T60 l0_1 x12_1).f1)) = false := decide_eq_false c27
        clear c27
        have H' := Aside0.mk H
        clear H
        have hnb45 := NB495_487.out
        have hnc45 := NB487_495.out
        have hnb46 := NB495_488.out
        have hnc46 := NB488_495.out
        have hnb47 := NB495_493.out
        have hnc47 := NB493_495.out
        obtain ⟨hcz48_0, hcz48_1, hcz48_2, hfz48_0, hfz48_1, hfz48_2⟩ := GS.c3 BK495.out
        go_wp2
        go_meet
        case rel => exact ⟨_, (false), (by first | rfl | (simp; done) | (simp [*]; done)), H', ⟨by have := HK1.out; first | omega | exact Nat.le_refl _⟩, ⟨GS.bqX BK487.out⟩, ⟨GS.bqX BK488.out⟩, ⟨GS.bqX BK493.out⟩, ⟨GS.bqZ BK495.out⟩, ⟨GS.lB HB.out⟩⟩
      ·rw [if_neg c26] at H
       have c26b0 : (((rd_T60 l0_1 x12_1).f0) == a1) = false := beq_eq_false_iff_ne.mpr c26
       try simp only [beq_self_eq_true, Bool.not_true, Bool.false_or, Bool.true_and] at c26b0
       have c26b1 : (((rd_T60 l0_1 x12_1).f0) != a1) = true := bne_iff_ne.mpr c26
       (first | rw [c26b0] | (simp only [i64_w, i32_w]; rw [c26b0]) | skip)
       have H' := Aside0.mk H
       clear H
       have hnb49 := NB495_487.out
       have hnc49 := NB487_495.out
       have hnb50 := NB495_488.out
       have hnc50 := NB488_495.out
       have hnb51 := NB495_493.out
       have hnc51 := NB493_495.out
       obtain ⟨hcz52_0, hcz52_1, hcz52_2, hfz52_0, hfz52_1, hfz52_2⟩ := GS.c3 BK495.out
       go_wp2
       go_meet
       case rel => exact ⟨_, (false), (by first | rfl | (simp; done) | (simp [*]; done)), H', ⟨by have := HK1.out; first | omega | exact Nat.le_refl _⟩, ⟨GS.bqX BK487.out⟩, ⟨GS.bqX BK488.out⟩, ⟨GS.bqX BK493.out⟩, ⟨GS.bqZ BK495.out⟩, ⟨GS.lB HB.out⟩⟩
     case rest =>
      clear HC17
      try clear c1
      try clear c2
      try clear p2
      try clear c3
      try clear c4
      try clear p4
      try clear q4
      try clear hx4
      try clear c5
      try clear c8
      try clear c12
      try clear c13
      try clear c15
      try clear c15b0
      try clear c16
      try clear c16b0
      try clear c18
      try clear c19
      try clear c22
      try clear c23
      try clear c24
      try clear c26
      try clear c26b0
      try clear c26b1
      try clear c27
      try clear c27b0
      try clear c28
      try clear c28b0
      try clear c29
      try clear c30
      try clear c31
      try clear c32
      try clear c34
      try clear c35
      try clear c37
      try clear c38
      try clear c39
      try clear c41
      try clear c42
      try clear c43
      try clear c45
      try clear c46
      try clear c47
      try clear c48
      try clear c49
      try clear p49
      try clear q49
      try clear hx49
      try clear c50
      try clear c51
      try clear hcz14_0
      try clear hcz14_1
      try clear hcz14_2
      try clear hcz20_0
      try clear hcz20_1
      try clear hcz25_0
      try clear hcz25_1
      try clear hcz25_2
      try clear hcz33_0
      try clear hcz33_1
      try clear hcz33_2
      try clear hcz36_0
      try clear hcz36_1
      try clear hcz36_2
      try clear hcz40_0
      try clear hcz40_1
      try clear hcz40_2
      try clear hcz44_0
      try clear hcz44_1
      try clear hcz44_2
      try clear hcz48_0
      try clear hcz48_1
      try clear hcz48_2
      try clear hcz52_0
      try clear hcz52_1
      try clear hcz52_2
      try clear hcz9_0
      try clear hcz9_1
      try clear hfz14_0
      try clear hfz14_1
      try clear hfz14_2
      try clear hfz20_0
      try clear hfz20_1
      try clear hfz25_0
      try clear hfz25_1
      try clear hfz25_2
      try clear hfz33_0
      try clear hfz33_1
      try clear hfz33_2
      try clear hfz36_0
      try clear hfz36_1
      try clear hfz36_2
      try clear hfz40_0
      try clear hfz40_1
      try clear hfz40_2
      try clear hfz44_0
      try clear hfz44_1
      try clear hfz44_2
      try clear hfz48_0
      try clear hfz48_1
      try clear hfz48_2
      try clear hfz52_0
      try clear hfz52_1
      try clear hfz52_2
      try clear hfz9_0
      try clear hfz9_1
      try clear hx494_0
      try clear hx494_1
      try clear hx494_2
      try clear p2
      try clear p494
      try clear q494
      obtain ⟨kq, x59_16, rfl, HA, HJ16, BK487, BK488, BK493, BK495, HB⟩ := hcut
      cases kq with
      | zero => exact absurd HA.out (by simp [spileref46_Most.j1])
      | succ kj16 =>
       have H := HA.out
       clear HA
       simp only [spileref46_Most.j1] at H
       by_cases c53 : x59_16 = true
       ·subst c53
        have H1 : (spileref46_Most.l0 kj16 a1 a2 a3 true (wrap64 (x12_1 + 1)) a0_0 l0_1 ((rd_T60 l0_1 x12_1).f0) ((rd_T60 l0_1 x12_1).f1) ((rd_T60 l0_1 x12_1).f2)) = some (r1, r2, r3, r4) := by rw [if_pos rfl] at H; exact H
        clear H
        have H := H1
        clear H1
        have H' := Aside0.mk H
        clear H
        have hnb54 := NB495_487.out
        have hnc54 := NB487_495.out
        have hnb55 := NB495_488.out
        have hnc55 := NB488_495.out
        have hnb56 := NB495_493.out
        have hnc56 := NB493_495.out
        obtain ⟨hcz57_0, hcz57_1, hcz57_2, hfz57_0, hfz57_1, hfz57_2⟩ := GS.c3 BK495.out
        have hnb58 := NB493_487.out
        have hnc58 := NB487_493.out
        have hnb59 := NB493_488.out
        have hnc59 := NB488_493.out
        obtain ⟨hcz60_0, hcz60_1, hcz60_2, hfz60_0, hfz60_1, hfz60_2⟩ := GS.c3 BK493.out
        go_wp2
        go_roundg kj16
        case measure => have := HK1.out; have := HJ16.out; omega
        case rel => exact ⟨(true), (wrap64 (x12_1 + 1)), (((rd_T60 l0_1 x12_1).f0)), (((rd_T60 l0_1 x12_1).f1)), (((rd_T60 l0_1 x12_1).f2)), (by first | rfl | (simp; done) | (simp [*]; done)), (by first | rfl | (simp; done) | (simp [*]; done)), H', ⟨by have := HK1.out; have := HJ16.out; omega⟩, ⟨GS.bqX BK487.out⟩, ⟨GS.bqX BK488.out⟩, ⟨GS.bqZ BK493.out⟩, ⟨GS.lB HB.out⟩⟩
       ·replace c53 := Bool.eq_false_iff.mpr c53
        subst c53
        have H1 : (spileref46_Most.l0 kj16 a1 a2 a3 x11_1 (wrap64 (x12_1 + 1)) a0_0 l0_1 x494000_1 x494001_1 x494002_1) = some (r1, r2, r3, r4) := by rw [if_neg (show ¬ (false = true) by decide)] at H; exact H
        clear H
        have H := H1
        clear H1
        have H' := Aside0.mk H
        clear H
        go_wp2
        go_roundg kj16
        case measure => have := HK1.out; have := HJ16.out; omega
        case rel => exact ⟨(x11_1), (wrap64 (x12_1 + 1)), (x494000_1), (x494001_1), (x494002_1), (by first | rfl | (simp; done) | (simp [*]; done)), (by first | rfl | (simp; done) | (simp [*]; done)), H', ⟨by have := HK1.out; have := HJ16.out; omega⟩, ⟨GS.bqX BK487.out⟩, ⟨GS.bqX BK488.out⟩, ⟨GS.bqX BK493.out⟩, ⟨GS.lB HB.out⟩⟩
    ·rw [if_neg c16] at H
     exact absurd H (by simp)
   ·rw [if_neg c15] at H
    have c15b0 : decide (x12_1 < (l0_1.length : Int)) = false := decide_eq_false c15
    clear c15
    simp only [Option.some.injEq, Prod.mk.injEq] at H
    obtain ⟨rfl, rfl, rfl, rfl⟩ := H
    have hnb61 := NB487_488.out
    have hnc61 := NB488_487.out
    have hnb62 := NB487_493.out
    have hnc62 := NB493_487.out
    obtain ⟨hcz63_0, hcz63_1, hfz63_0, hfz63_1⟩ := GS.c2 BK487.out
    have hnb64 := NB493_488.out
    have hnc64 := NB488_493.out
    obtain ⟨hcz65_0, hcz65_1, hcz65_2, hfz65_0, hfz65_1, hfz65_2⟩ := GS.c3 BK493.out
    obtain ⟨hcz66_0, hcz66_1, hcz66_2, hfz66_0, hfz66_1, hfz66_2⟩ := GS.c3 BK488.out
    go_wp2
    refine bodyPost_ret (results_ct rfl _ _ gb488 60 #[.int .i64 x494000_1, .int .i64 x494001_1, .int .i64 x494002_1] (0, 0) _ rfl (GS.bqZ BK488.out) Try.underlying60 rfl (by kernel_rfl)) rfl ?_
    exact ⟨by first | rfl | (simp [errW_none, errW_some] <;> rfl) | (simp [*, errW_none, errW_some] <;> rfl), GS.lB HB.out⟩

end Go.Proofs.Ythboaobgipodiaa.K
