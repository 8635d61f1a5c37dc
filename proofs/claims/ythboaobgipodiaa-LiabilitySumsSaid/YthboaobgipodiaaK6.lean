-- PRINTED by print.py (a twelfth state) out of the translation. Not trusted: Lean checks it.
import Derived.Test.YthboaobgipodiaaK0
import Derived.Test.YthboaobgipodiaaGShort
import Derived.Test.YthboaobgipodiaaK3
import Derived.Test.YthboaobgipodiaaK5
namespace Go.Proofs.Ythboaobgipodiaa.K
open Go.RowKit Go.Proofs.YthboaobgipodiaaW.PrintWords Go.Proofs.YthboaobgipodiaaW.PrintLast Go.Proofs.YthboaobgipodiaaW.PrintMore
attribute [local go_sem] max2_int min2_int max_two min_two max_three min_three max_four min_four   -- for this text's walks alone
set_option linter.unusedVariables false
set_option linter.unusedSimpArgs false

/-! ### tariff_Greatest: function 55 -/
mutual
def tariff_Greatest.l0 : Nat → Int → Int → Int → Bool → List (S60) → Int → Int → Int → Int → Int → Option (Int × Int × Int × Int)
 | 0, _, _, _, _, _, _, _, _, _, _ => none
 | k + 1, x1, x2, x3, x12, x32, x33, x34, x158000, x158001, x158002 => if x34 < x33 then (if 0 ≤ x34 then (if x34 < (x32.length : Int) then (if ((rd_T60 x32 x34).f0) = x1 then ((tariff_within.f ((rd_T60 x32 x34).f1) x2 x3).bind fun t160 => (if t160 = true then (if x12 = true then (tariff_Greatest.j1 k x1 x2 x3 x12 x32 x33 x34 (decide (((rd_T60 x32 x34).f2) > x158002)) x158000 x158001 x158002 ((rd_T60 x32 x34).f0) ((rd_T60 x32 x34).f1) ((rd_T60 x32 x34).f2)) else (tariff_Greatest.j1 k x1 x2 x3 x12 x32 x33 x34 true x158000 x158001 x158002 ((rd_T60 x32 x34).f0) ((rd_T60 x32 x34).f1) ((rd_T60 x32 x34).f2))) else (tariff_Greatest.j1 k x1 x2 x3 x12 x32 x33 x34 false x158000 x158001 x158002 ((rd_T60 x32 x34).f0) ((rd_T60 x32 x34).f1) ((rd_T60 x32 x34).f2)))) else (tariff_Greatest.j1 k x1 x2 x3 x12 x32 x33 x34 false x158000 x158001 x158002 ((rd_T60 x32 x34).f0) ((rd_T60 x32 x34).f1) ((rd_T60 x32 x34).f2))) else (none)) else (none)) else (if x12 = true then (some (x158000, x158001, x158002, 0)) else (some (0, 0, 0, 7)))
def tariff_Greatest.j1 : Nat → Int → Int → Int → Bool → List (S60) → Int → Int → Bool → Int → Int → Int → Int → Int → Int → Option (Int × Int × Int × Int)
 | 0, _, _, _, _, _, _, _, _, _, _, _, _, _, _ => none
 | k + 1, x1, x2, x3, x12, x32, x33, x34, x59, x158000, x158001, x158002, x160000, x160001, x160002 => if x59 = true then (tariff_Greatest.l0 k x1 x2 x3 true x32 x33 (wrap64 (x34 + 1)) x160000 x160001 x160002) else (tariff_Greatest.l0 k x1 x2 x3 x12 x32 x33 (wrap64 (x34 + 1)) x158000 x158001 x158002)
end
def tariff_Greatest.f (k : Nat) (a0_0 : Int) (l0_1 : List (S60)) (a1 : Int) (a2 : Int) (a3 : Int) : Option (Int × Int × Int × Int) := (tariff_span.f k a0_0 l0_1 a1 a2 a3).bind fun t152 => (if t152 = 0 then ((tariff_force.f k a0_0 l0_1 a1 a2).bind fun bt153 => (tariff_Greatest.l0 k a1 a2 a3 bt153.2.2.2 l0_1 (l0_1.length : Int) 0 bt153.1 bt153.2.1 bt153.2.2.1)) else (some (0, 0, 0, t152)))
theorem tariff_Greatest.mono_l : ∀ k, (∀ y0 y1 y2 y3 y4 y5 y6 y7 y8 y9, LeO (tariff_Greatest.l0 k y0 y1 y2 y3 y4 y5 y6 y7 y8 y9) (tariff_Greatest.l0 (k + 1) y0 y1 y2 y3 y4 y5 y6 y7 y8 y9)) ∧ (∀ y0 y1 y2 y3 y4 y5 y6 y7 y8 y9 y10 y11 y12 y13, LeO (tariff_Greatest.j1 k y0 y1 y2 y3 y4 y5 y6 y7 y8 y9 y10 y11 y12 y13) (tariff_Greatest.j1 (k + 1) y0 y1 y2 y3 y4 y5 y6 y7 y8 y9 y10 y11 y12 y13))
 | 0 => ⟨fun _ _ _ _ _ _ _ _ _ _ r h => by simp [tariff_Greatest.l0] at h, fun _ _ _ _ _ _ _ _ _ _ _ _ _ _ r h => by simp [tariff_Greatest.j1] at h⟩
 | k + 1 => by
  obtain ⟨ih0, ih1⟩ := tariff_Greatest.mono_l k
  refine ⟨?_, ?_⟩
  ·intro y0 y1 y2 y3 y4 y5 y6 y7 y8 y9
   unfold tariff_Greatest.l0
   repeat' first
   | (with_reducible exact ih0 _ _ _ _ _ _ _ _ _ _)
   | (with_reducible exact ih1 _ _ _ _ _ _ _ _ _ _ _ _ _ _)
   | (with_reducible exact tariff_force.mono _ _ _ _ _)
   | (with_reducible exact tariff_span.mono _ _ _ _ _ _)
   | (with_reducible exact LeO.refl _)
   | (with_reducible exact LeO.none _)
   | (with_reducible refine LeO.ite ?_ ?_)
   | (with_reducible refine LeO.bind ?_ (fun _ => ?_))
   | exact ih0 _ _ _ _ _ _ _ _ _ _
   | exact ih1 _ _ _ _ _ _ _ _ _ _ _ _ _ _
   | exact tariff_force.mono _ _ _ _ _
   | exact tariff_span.mono _ _ _ _ _ _
   | exact LeO.none _
   | refine LeO.ite ?_ ?_
   | refine LeO.bind ?_ (fun _ => ?_)
  ·intro y0 y1 y2 y3 y4 y5 y6 y7 y8 y9 y10 y11 y12 y13
   unfold tariff_Greatest.j1
   repeat' first
   | (with_reducible exact ih0 _ _ _ _ _ _ _ _ _ _)
   | (with_reducible exact ih1 _ _ _ _ _ _ _ _ _ _ _ _ _ _)
   | (with_reducible exact tariff_force.mono _ _ _ _ _)
   | (with_reducible exact tariff_span.mono _ _ _ _ _ _)
   | (with_reducible exact LeO.refl _)
   | (with_reducible exact LeO.none _)
   | (with_reducible refine LeO.ite ?_ ?_)
   | (with_reducible refine LeO.bind ?_ (fun _ => ?_))
   | exact ih0 _ _ _ _ _ _ _ _ _ _
   | exact ih1 _ _ _ _ _ _ _ _ _ _ _ _ _ _
   | exact tariff_force.mono _ _ _ _ _
   | exact tariff_span.mono _ _ _ _ _ _
   | exact LeO.none _
   | refine LeO.ite ?_ ?_
   | refine LeO.bind ?_ (fun _ => ?_)
theorem tariff_Greatest.mono : ∀ a0 a1 a2 a3 a4 k, LeO (tariff_Greatest.f k a0 a1 a2 a3 a4) (tariff_Greatest.f (k + 1) a0 a1 a2 a3 a4) := by
 intro a0 a1 a2 a3 a4 k
 obtain ⟨ih0, ih1⟩ := tariff_Greatest.mono_l k
 unfold tariff_Greatest.f
 repeat' first
   | (with_reducible exact ih0 _ _ _ _ _ _ _ _ _ _)
   | (with_reducible exact ih1 _ _ _ _ _ _ _ _ _ _ _ _ _ _)
   | (with_reducible exact tariff_force.mono _ _ _ _ _)
   | (with_reducible exact tariff_span.mono _ _ _ _ _ _)
   | (with_reducible exact LeO.refl _)
   | (with_reducible exact LeO.none _)
   | (with_reducible refine LeO.ite ?_ ?_)
   | (with_reducible refine LeO.bind ?_ (fun _ => ?_))
   | exact ih0 _ _ _ _ _ _ _ _ _ _
   | exact ih1 _ _ _ _ _ _ _ _ _ _ _ _ _ _
   | exact tariff_force.mono _ _ _ _ _
   | exact tariff_span.mono _ _ _ _ _ _
   | exact LeO.none _
   | refine LeO.ite ?_ ?_
   | refine LeO.bind ?_ (fun _ => ?_)
set_option maxHeartbeats 8000000 in
set_option maxRecDepth 100000 in
theorem tariff_Greatest.calls (k : Nat) (a0_0 : Int) (A0_1 : Option Addr) (c0_1 : Nat) (l0_1 : List (S60)) (a1 : Int) (a2 : Int) (a3 : Int) (r1 : Int) (r2 : Int) (r3 : Int) (r4 : Int) (w : World) (hr0_1 : Kd.C k60 w A0_1 l0_1.length l0_1) (hc0_1 : l0_1.length ≤ c0_1) (h : tariff_Greatest.f k a0_0 l0_1 a1 a2 a3 = some (r1, r2, r3, r4)) :
  Calls Try.prog 55 #[.agg #[.int .i64 a0_0, .slice A0_1 l0_1.length c0_1], .int .i64 a1, .int .i64 a2, .int .i64 a3] w fun e w' => e = .returned (.tuple #[.agg #[.int .i64 r1, .int .i64 r2, .int .i64 r3], .int .i64 r4]) ∧ Below w.heap.size w w' := by
 have hu24 := Try.underlying24
 have hu60 := Try.underlying60
 have HR0_1 := Aside0.mk hr0_1
 have HC0_1 := Aside0.mk hc0_1
 clear hr0_1 hc0_1
 have HB := Aside0.mk (Below.refl w.heap.size w)
 have H : ((tariff_span.f k a0_0 l0_1 a1 a2 a3).bind fun t152 => (if t152 = 0 then ((tariff_force.f k a0_0 l0_1 a1 a2).bind fun bt153 => (tariff_Greatest.l0 k a1 a2 a3 bt153.2.2.2 l0_1 (l0_1.length : Int) 0 bt153.1 bt153.2.1 bt153.2.2.1)) else (some (0, 0, 0, t152)))) = some (r1, r2, r3, r4) := h
 clear h
 replace H := Option.bind_eq_some_iff.mp H
 obtain ⟨t152, A50, H⟩ := H
 replace H : (if t152 = 0 then ((tariff_force.f k a0_0 l0_1 a1 a2).bind fun bt153 => (tariff_Greatest.l0 k a1 a2 a3 bt153.2.2.2 l0_1 (l0_1.length : Int) 0 bt153.1 bt153.2.1 bt153.2.2.1)) else (some (0, 0, 0, t152))) = some (r1, r2, r3, r4) := H
 have A5 := Aside0.mk A50
 clear A50
 by_cases c6 : t152 = 0
 ·rw [if_pos c6] at H
  have c6b0 : (t152 == 0) = true := beq_iff_eq.mpr c6
  try simp only [beq_self_eq_true, Bool.not_true, Bool.false_or, Bool.true_and] at c6b0
  have c6b1 : (t152 != 0) = false := bne_eq_false_iff_eq.mpr c6
  clear c6
  replace H := Option.bind_eq_some_iff.mp H
  obtain ⟨⟨t153, t154, t155, t156⟩, A70, H⟩ := H
  replace H : (tariff_Greatest.l0 k a1 a2 a3 t156 l0_1 (l0_1.length : Int) 0 t153 t154 t155) = some (r1, r2, r3, r4) := H
  have A7 := Aside0.mk A70
  clear A70
  have H' := Aside0.mk H
  clear H
  go_enter Try.func55, Try.ntmps55
  go_wp2_with (first | ((with_reducible refine gqD (N := 4) rfl ?_); refine GS.bx (N := 4) (cs := #[.int .i64 a0_0, .slice A0_1 l0_1.length c0_1]) (t := 24) ?_; intro gb150 hg w8 hbox hb; have n0_ := Aside0.mk (lqT (GS.lB HB.out) hb); have n1_ := Aside0.mk (hbox); have n2_ := Aside0.mk ((by rw [hg]; exact (lqZ (GS.lB HB.out)) : w.heap.size ≤ gb150)); have n3_ := Aside0.mk ((by rw [hg]; exact (lqZ (GS.lB HB.out)) : w.heap.size ≤ gb150)); clear HB; have HB := n0_; have BK150 := n1_; have GW150 := n2_; have GE150 := n3_; clear n0_ n1_ n2_ n3_; clear hb hbox hg) | ((with_reducible refine gqD (N := 8) rfl ?_); refine GS.bx (N := 8) (cs := #[.int .i64 0, .int .i64 0, .int .i64 0]) (t := 60) ?_; intro gb151 hg w9 hbox hb; have n0_ := Aside0.mk (bqB (GS.bqX BK150.out) hb); have n1_ := Aside0.mk (lqT (GS.lB HB.out) hb); have n2_ := Aside0.mk (hbox); have n3_ := Aside0.mk ((by rw [hg]; exact (lqZ (GS.lB HB.out)) : w.heap.size ≤ gb151)); have n4_ := Aside0.mk ((by rw [hg]; exact (lqZ (GS.lB HB.out)) : w.heap.size ≤ gb151)); have n5_ := Aside0.mk ((by rw [hg]; exact Nat.ne_of_lt (blk_lt (GS.bqX BK150.out)) : gb150 ≠ gb151)); have n6_ := Aside0.mk ((by rw [hg]; exact Nat.ne_of_gt (blk_lt (GS.bqX BK150.out)) : gb151 ≠ gb150)); clear BK150; clear HB; have BK150 := n0_; have HB := n1_; have BK151 := n2_; have GW151 := n3_; have GE151 := n4_; have NB150_151 := n5_; have NB151_150 := n6_; clear n0_ n1_ n2_ n3_ n4_ n5_ n6_; clear hb hbox hg; have hnb10 := NB150_151.out; have hnc10 := NB151_150.out; obtain ⟨hcz11_0, hcz11_1, hfz11_0, hfz11_1⟩ := GS.c2 BK150.out) | ((with_reducible refine gqC (f := 67) rfl ?_); refine GS.gL (some 19) Try.func67 #[.agg #[.int .i64 a0_0, .slice A0_1 l0_1.length c0_1], .int .i64 a1, .int .i64 a2, .int .i64 a3] ?_; (with_reducible refine (tariff_span.calls k a0_0 _ _ l0_1 a1 a2 a3 t152 _ ?side1 ?side2 A5.out).mono ?_); (case side1 => exact GS.rC (Kd.C_below HR0_1.out HB.out)); (case side2 => exact HC0_1.out); rintro e w12 ⟨rfl, hb⟩; refine ⟨_, rfl, ?_⟩; have n0_ := Aside0.mk (bqB (GS.bqX BK150.out) hb); have n1_ := Aside0.mk (bqB (GS.bqX BK151.out) hb); have n2_ := Aside0.mk (lqT (GS.lB HB.out) hb); clear BK150; clear BK151; clear HB; have BK150 := n0_; have BK151 := n1_; have HB := n2_; clear n0_ n1_ n2_; (try clear hb); (try clear hb2); (try clear hk); (try clear hi); obtain ⟨hcz13_0, hcz13_1, hfz13_0, hfz13_1⟩ := GS.c2 BK150.out) | ((with_reducible refine gqC (f := 68) rfl ?_); refine GS.gL (some 28) Try.func68 #[.agg #[.int .i64 a0_0, .slice A0_1 l0_1.length c0_1], .int .i64 a1, .int .i64 a2] ?_; (with_reducible refine (tariff_force.calls k a0_0 _ _ l0_1 a1 a2 t153 t154 t155 t156 _ ?side1 ?side2 A7.out).mono ?_); (case side1 => exact GS.rC (Kd.C_below HR0_1.out HB.out)); (case side2 => exact HC0_1.out); rintro e w14 ⟨rfl, hb⟩; refine ⟨_, rfl, ?_⟩; have n0_ := Aside0.mk (bqB (GS.bqX BK150.out) hb); have n1_ := Aside0.mk (bqB (GS.bqX BK151.out) hb); have n2_ := Aside0.mk (lqT (GS.lB HB.out) hb); clear BK150; clear BK151; clear HB; have BK150 := n0_; have BK151 := n1_; have HB := n2_; clear n0_ n1_ n2_; (try clear hb); (try clear hb2); (try clear hk); (try clear hi)) | ((with_reducible refine gqD (N := 11) rfl ?_); refine GS.bx (N := 11) (cs := #[.int .i64 0, .int .i64 0, .int .i64 0]) (t := 60) ?_; intro gb157 hg w15 hbox hb; have n0_ := Aside0.mk (bqB (GS.bqX BK150.out) hb); have n1_ := Aside0.mk (bqB (GS.bqX BK151.out) hb); have n2_ := Aside0.mk (lqT (GS.lB HB.out) hb); have n3_ := Aside0.mk (hbox); have n4_ := Aside0.mk ((by rw [hg]; exact (lqZ (GS.lB HB.out)) : w.heap.size ≤ gb157)); have n5_ := Aside0.mk ((by rw [hg]; exact (lqZ (GS.lB HB.out)) : w.heap.size ≤ gb157)); have n6_ := Aside0.mk ((by rw [hg]; exact Nat.ne_of_lt (blk_lt (GS.bqX BK150.out)) : gb150 ≠ gb157)); have n7_ := Aside0.mk ((by rw [hg]; exact Nat.ne_of_gt (blk_lt (GS.bqX BK150.out)) : gb157 ≠ gb150)); have n8_ := Aside0.mk ((by rw [hg]; exact Nat.ne_of_lt (blk_lt (GS.bqX BK151.out)) : gb151 ≠ gb157)); have n9_ := Aside0.mk ((by rw [hg]; exact Nat.ne_of_gt (blk_lt (GS.bqX BK151.out)) : gb157 ≠ gb151)); clear BK150; clear BK151; clear HB; have BK150 := n0_; have BK151 := n1_; have HB := n2_; have BK157 := n3_; have GW157 := n4_; have GE157 := n5_; have NB150_157 := n6_; have NB157_150 := n7_; have NB151_157 := n8_; have NB157_151 := n9_; clear n0_ n1_ n2_ n3_ n4_ n5_ n6_ n7_ n8_ n9_; clear hb hbox hg; have hnb16 := NB157_150.out; have hnc16 := NB150_157.out; have hnb17 := NB157_151.out; have hnc17 := NB151_157.out; obtain ⟨hcz18_0, hcz18_1, hcz18_2, hfz18_0, hfz18_1, hfz18_2⟩ := GS.c3 BK157.out; obtain ⟨hcz19_0, hcz19_1, hfz19_0, hfz19_1⟩ := GS.c2 BK150.out))
  go_loopg [12, 34] k (fun kq v12 v34 w' => ∃ (x12_1 : Bool) (x34_1 : Int) (x158000_1 : Int) (x158001_1 : Int) (x158002_1 : Int), v12 = .bool x12_1 ∧ v34 = .int .i64 x34_1 ∧ Aside0 (tariff_Greatest.l0 kq a1 a2 a3 x12_1 l0_1 (l0_1.length : Int) x34_1 x158000_1 x158001_1 x158002_1 = some (r1, r2, r3, r4)) ∧ Aside0 (kq ≤ k) ∧ Aside0 (w'.heap[gb150]? = some (.cells #[.int .i64 a0_0, (.slice A0_1 l0_1.length c0_1)] 24 (0, 0))) ∧ Aside0 (w'.heap[gb151]? = some (.cells #[.int .i64 0, .int .i64 0, .int .i64 0] 60 (0, 0))) ∧ Aside0 (w'.heap[gb157]? = some (.cells #[.int .i64 x158000_1, .int .i64 x158001_1, .int .i64 x158002_1] 60 (0, 0))) ∧ Aside0 (Below w.heap.size w w'))
  case atStart => exact ⟨(t156), (0), (t153), (t154), (t155), (by first | rfl | (simp; done) | (simp [*]; done)), (by first | rfl | (simp; done) | (simp [*]; done)), H', ⟨Nat.le_refl _⟩, ⟨GS.bqX BK150.out⟩, ⟨GS.bqX BK151.out⟩, ⟨GS.bqZ BK157.out⟩, ⟨GS.lB HB.out⟩⟩
  case round =>
   clear H'
   try clear c1
   try clear p2
   try clear c5
   try clear c6
   try clear c6b0
   try clear c6b1
   try clear c10
   try clear c16
   try clear c17
   try clear hcz11_0
   try clear hcz11_1
   try clear hcz13_0
   try clear hcz13_1
   try clear hcz18_0
   try clear hcz18_1
   try clear hcz18_2
   try clear hcz19_0
   try clear hcz19_1
   try clear hfz11_0
   try clear hfz11_1
   try clear hfz13_0
   try clear hfz13_1
   try clear hfz18_0
   try clear hfz18_1
   try clear hfz18_2
   try clear hfz19_0
   try clear hfz19_1
   obtain ⟨x12_1, x34_1, x158000_1, x158001_1, x158002_1, rfl, rfl, HA, HK1, BK150, BK151, BK157, HB⟩ := hrel
   cases gk with
   | zero => exact absurd HA.out (by simp [tariff_Greatest.l0])
   | succ k1 =>
    have H := HA.out
    clear HA
    simp only [tariff_Greatest.l0] at H
    by_cases c20 : x34_1 < (l0_1.length : Int)
    ·rw [if_pos c20] at H
     have c20b0 : decide (x34_1 < (l0_1.length : Int)) = true := decide_eq_true c20
     clear c20
     by_cases c21 : 0 ≤ x34_1
     ·rw [if_pos c21] at H
      have c21b0 : decide (0 ≤ x34_1) = true := decide_eq_true c21
      clear c21
      by_cases c22 : x34_1 < (l0_1.length : Int)
      ·rw [if_pos c22] at H
       have c22b0 : decide (x34_1 < (l0_1.length : Int)) = true := decide_eq_true c22
       clear c22
       have HC23 := Aside0.mk H
       clear H
       have p158 : 0 ≤ (x34_1 : Int) := of_decide_eq_true (by first | (with_reducible assumption) | assumption)
       have q158 : x34_1 < (l0_1.length : Int) := of_decide_eq_true (by first | (with_reducible assumption) | assumption)
       obtain ⟨ad158, e158, hx158_0, hx158_1, hx158_2⟩ := at_T60 HR0_1.out x34_1 p158 q158
       cases e158
       replace hx158_0 := (HB.out.cell (World.block_lt_of_cell? w _ hx158_0)).trans hx158_0
       replace hx158_1 := (HB.out.cell (World.block_lt_of_cell? w _ hx158_1)).trans hx158_1
       replace hx158_2 := (HB.out.cell (World.block_lt_of_cell? w _ hx158_2)).trans hx158_2
       replace p158 := eq_true p158
       replace q158 := eq_true q158
       go_upto_region 8 with (first | ((with_reducible refine gqD (N := 14) rfl ?_); refine GS.bx (N := 14) (cs := #[.int .i64 0, .int .i64 0, .int .i64 0]) (t := 60) ?_; intro gb159 hg w24 hbox hb; have n0_ := Aside0.mk (bqB (GS.bqX BK150.out) hb); have n1_ := Aside0.mk (bqB (GS.bqX BK151.out) hb); have n2_ := Aside0.mk (bqB (GS.bqX BK157.out) hb); have n3_ := Aside0.mk (lqT (GS.lB HB.out) hb); have n4_ := Aside0.mk (hbox); have n5_ := Aside0.mk ((by rw [hg]; exact (lqZ (GS.lB HB.out)) : w.heap.size ≤ gb159)); have n6_ := Aside0.mk ((by rw [hg]; exact (lqZ (GS.lB HB.out)) : w.heap.size ≤ gb159)); have n7_ := Aside0.mk ((by rw [hg]; exact Nat.ne_of_lt (blk_lt (GS.bqX BK150.out)) : gb150 ≠ gb159)); have n8_ := Aside0.mk ((by rw [hg]; exact Nat.ne_of_gt (blk_lt (GS.bqX BK150.out)) : gb159 ≠ gb150)); have n9_ := Aside0.mk ((by rw [hg]; exact Nat.ne_of_lt (blk_lt (GS.bqX BK151.out)) : gb151 ≠ gb159)); have n10_ := Aside0.mk ((by rw [hg]; exact Nat.ne_of_gt (blk_lt (GS.bqX BK151.out)) : gb159 ≠ gb151)); have n11_ := Aside0.mk ((by rw [hg]; exact Nat.ne_of_lt (blk_lt (GS.bqX BK157.out)) : gb157 ≠ gb159)); have n12_ := Aside0.mk ((by rw [hg]; exact Nat.ne_of_gt (blk_lt (GS.bqX BK157.out)) : gb159 ≠ gb157)); clear BK150; clear BK151; clear BK157; clear HB; have BK150 := n0_; have BK151 := n1_; have BK157 := n2_; have HB := n3_; have BK159 := n4_; have GW159 := n5_; have GE159 := n6_; have NB150_159 := n7_; have NB159_150 := n8_; have NB151_159 := n9_; have NB159_151 := n10_; have NB157_159 := n11_; have NB159_157 := n12_; clear n0_ n1_ n2_ n3_ n4_ n5_ n6_ n7_ n8_ n9_ n10_ n11_ n12_; clear hb hbox hg; have hnb25 := NB159_150.out; have hnc25 := NB150_159.out; have hnb26 := NB159_151.out; have hnc26 := NB151_159.out; have hnb27 := NB159_157.out; have hnc27 := NB157_159.out; obtain ⟨hcz28_0, hcz28_1, hcz28_2, hfz28_0, hfz28_1, hfz28_2⟩ := GS.c3 BK159.out))
       (try simp only [Act.put, List.setIfInBounds_toArray, List.set_cons_zero, List.set_cons_succ])
       go_cut [59] (fun v59 wc => ∃ (kq : Nat) (x59_22 : Bool), v59 = .bool x59_22 ∧ Aside0 (tariff_Greatest.j1 kq a1 a2 a3 x12_1 l0_1 (l0_1.length : Int) x34_1 x59_22 x158000_1 x158001_1 x158002_1 ((rd_T60 l0_1 x34_1).f0) ((rd_T60 l0_1 x34_1).f1) ((rd_T60 l0_1 x34_1).f2) = some (r1, r2, r3, r4)) ∧ Aside0 (kq ≤ k1) ∧ Aside0 (wc.heap[gb150]? = some (.cells #[.int .i64 a0_0, (.slice (some ad158) l0_1.length c0_1)] 24 (0, 0))) ∧ Aside0 (wc.heap[gb151]? = some (.cells #[.int .i64 0, .int .i64 0, .int .i64 0] 60 (0, 0))) ∧ Aside0 (wc.heap[gb157]? = some (.cells #[.int .i64 x158000_1, .int .i64 x158001_1, .int .i64 x158002_1] 60 (0, 0))) ∧ Aside0 (wc.heap[gb159]? = some (.cells #[.int .i64 ((rd_T60 l0_1 x34_1).f0), .int .i64 ((rd_T60 l0_1 x34_1).f1), .int .i64 ((rd_T60 l0_1 x34_1).f2)] 60 (0, 0))) ∧ Aside0 (Below w.heap.size w wc))
       case first =>
        have H := HC23.out
        clear HC23
        by_cases c29 : ((rd_T60 l0_1 x34_1).f0) = a1
        ·rw [if_pos c29] at H
         have c29b0 : (((rd_T60 l0_1 x34_1).f0) == a1) = true := beq_iff_eq.mpr c29
         try simp only [beq_self_eq_true, Bool.not_true, Bool.false_or, Bool.true_and] at c29b0
         have c29b1 : (((rd_T60 l0_1 x34_1).f0) != a1) = false := bne_eq_false_iff_eq.mpr c29
         clear c29
         (first | rw [c29b0] | (simp only [i64_w, i32_w]; rw [c29b0]) | skip)
         replace H := Option.bind_eq_some_iff.mp H
         obtain ⟨t160, A300, H⟩ := H
         replace H : (if t160 = true then (if x12_1 = true then (tariff_Greatest.j1 k1 a1 a2 a3 x12_1 l0_1 (l0_1.length : Int) x34_1 (decide (((rd_T60 l0_1 x34_1).f2) > x158002_1)) x158000_1 x158001_1 x158002_1 ((rd_T60 l0_1 x34_1).f0) ((rd_T60 l0_1 x34_1).f1) ((rd_T60 l0_1 x34_1).f2)) else (tariff_Greatest.j1 k1 a1 a2 a3 x12_1 l0_1 (l0_1.length : Int) x34_1 true x158000_1 x158001_1 x158002_1 ((rd_T60 l0_1 x34_1).f0) ((rd_T60 l0_1 x34_1).f1) ((rd_T60 l0_1 x34_1).f2))) else (tariff_Greatest.j1 k1 a1 a2 a3 x12_1 l0_1 (l0_1.length : Int) x34_1 false x158000_1 x158001_1 x158002_1 ((rd_T60 l0_1 x34_1).f0) ((rd_T60 l0_1 x34_1).f1) ((rd_T60 l0_1 x34_1).f2))) = some (r1, r2, r3, r4) := H
         have A30 := Aside0.mk A300
         clear A300
         by_cases c31 : t160 = true
         ·subst c31
          have H1 : (if x12_1 = true then (tariff_Greatest.j1 k1 a1 a2 a3 x12_1 l0_1 (l0_1.length : Int) x34_1 (decide (((rd_T60 l0_1 x34_1).f2) > x158002_1)) x158000_1 x158001_1 x158002_1 ((rd_T60 l0_1 x34_1).f0) ((rd_T60 l0_1 x34_1).f1) ((rd_T60 l0_1 x34_1).f2)) else (tariff_Greatest.j1 k1 a1 a2 a3 x12_1 l0_1 (l0_1.length : Int) x34_1 true x158000_1 x158001_1 x158002_1 ((rd_T60 l0_1 x34_1).f0) ((rd_T60 l0_1 x34_1).f1) ((rd_T60 l0_1 x34_1).f2))) = some (r1, r2, r3, r4) := by rw [if_pos rfl] at H; exact H
          clear H
          have H := H1
          clear H1
          by_cases c32 : x12_1 = true
          ·subst c32
           have H1 : (tariff_Greatest.j1 k1 a1 a2 a3 true l0_1 (l0_1.length : Int) x34_1 (decide (((rd_T60 l0_1 x34_1).f2) > x158002_1)) x158000_1 x158001_1 x158002_1 ((rd_T60 l0_1 x34_1).f0) ((rd_T60 l0_1 x34_1).f1) ((rd_T60 l0_1 x34_1).f2)) = some (r1, r2, r3, r4) := by rw [if_pos rfl] at H; exact H
           clear H
           have H := H1
           clear H1
           have H' := Aside0.mk H
           clear H
           have hnb33 := NB159_150.out
           have hnc33 := NB150_159.out
           have hnb34 := NB159_151.out
           have hnc34 := NB151_159.out
           have hnb35 := NB159_157.out
           have hnc35 := NB157_159.out
           obtain ⟨hcz36_0, hcz36_1, hcz36_2, hfz36_0, hfz36_1, hfz36_2⟩ := GS.c3 BK159.out
           go_wp2_with (first | (go_at_call 58; (with_reducible refine (tariff_within.calls ((rd_T60 l0_1 x34_1).f1) a2 a3 true _ A30.out).mono ?_); rintro e w' ⟨rfl, ⟨nd, rfl⟩⟩; have hnb37 := NB157_150.out; have hnc37 := NB150_157.out; have hnb38 := NB157_151.out; have hnc38 := NB151_157.out; obtain ⟨hcz39_0, hcz39_1, hcz39_2, hfz39_0, hfz39_1, hfz39_2⟩ := GS.c3 BK157.out))
           go_meet
           case rel => exact ⟨_, (decide (((rd_T60 l0_1 x34_1).f2) > x158002_1)), (by first | rfl | (simp; done) | (simp [*]; done)), H', ⟨by have := HK1.out; first | omega | exact Nat.le_refl _⟩, ⟨GS.bqX BK150.out⟩, ⟨GS.bqX BK151.out⟩, ⟨GS.bqX BK157.out⟩, ⟨GS.bqZ BK159.out⟩, ⟨GS.lB HB.out⟩⟩
          ·replace c32 := Bool.eq_false_iff.mpr c32
           subst c32
           have H1 : (tariff_Greatest.j1 k1 a1 a2 a3 false l0_1 (l0_1.length : Int) x34_1 true x158000_1 x158001_1 x158002_1 ((rd_T60 l0_1 x34_1).f0) ((rd_T60 l0_1 x34_1).f1) ((rd_T60 l0_1 x34_1).f2)) = some (r1, r2, r3, r4) := by rw [if_neg (show ¬ (false = true) by decide)] at H; exact H
           clear H
           have H := H1
           clear H1
           have H' := Aside0.mk H
           clear H
           have hnb40 := NB159_150.out
           have hnc40 := NB150_159.out
           have hnb41 := NB159_151.out
           have hnc41 := NB151_159.out
           have hnb42 := NB159_157.out
           have hnc42 := NB157_159.out
           obtain ⟨hcz43_0, hcz43_1, hcz43_2, hfz43_0, hfz43_1, hfz43_2⟩ := GS.c3 BK159.out
           go_wp2_with (first | (go_at_call 58; (with_reducible refine (tariff_within.calls ((rd_T60 l0_1 x34_1).f1) a2 a3 true _ A30.out).mono ?_); rintro e w' ⟨rfl, ⟨nd, rfl⟩⟩))
           go_meet
           case rel => exact ⟨_, (true), (by first | rfl | (simp; done) | (simp [*]; done)), H', ⟨by have := HK1.out; first | omega | exact Nat.le_refl _⟩, ⟨GS.bqX BK150.out⟩, ⟨GS.bqX BK151.out⟩, ⟨GS.bqX BK157.out⟩, ⟨GS.bqZ BK159.out⟩, ⟨GS.lB HB.out⟩⟩
         ·replace c31 := Bool.eq_false_iff.mpr c31
          subst c31
          have H1 : (tariff_Greatest.j1 k1 a1 a2 a3 x12_1 l0_1 (l0_1.length : Int) x34_1 false x158000_1 x158001_1 x158002_1 ((rd_T60 l0_1 x34_1).f0) ((rd_T60 l0_1 x34_1).f1) ((rd_T60 l0_1 x34_1).f2)) = some (r1, r2, r3, r4) := by rw [if_neg (show ¬ (false = true) by decide)] at H; exact H
          clear H
          have H := H1
          clear H1
          have H' := Aside0.mk H
          clear H
          have hnb44 := NB159_150.out
          have hnc44 := NB150_159.out
          have hnb45 := NB159_151.out
          have hnc45 := NB151_159.out
          have hnb46 := NB159_157.out
          have hnc46 := NB157_159.out
          obtain ⟨hcz47_0, hcz47_1, hcz47_2, hfz47_0, hfz47_1, hfz47_2⟩ := GS.c3 BK159.out
          go_wp2_with (first | (go_at_call 58; (with_reducible refine (tariff_within.calls ((rd_T60 l0_1 x34_1).f1) a2 a3 false _ A30.out).mono ?_); rintro e w' ⟨rfl, ⟨nd, rfl⟩⟩))
          go_meet
          case rel => exact ⟨_, (false), (by first | rfl | (simp; done) | (simp [*]; done)), H', ⟨by have := HK1.out; first | omega | exact Nat.le_refl _⟩, ⟨GS.bqX BK150.out⟩, ⟨GS.bqX BK151.out⟩, ⟨GS.bqX BK157.out⟩, ⟨GS.bqZ BK159.out⟩, ⟨GS.lB HB.out⟩⟩
        ·rw [if_neg c29] at H
         have c29b0 : (((rd_T60 l0_1 x34_1).f0) == a1) = false := beq_eq_false_iff_ne.mpr c29
         try simp only [beq_self_eq_true, Bool.not_true, Bool.false_or, Bool.true_and] at c29b0
         have c29b1 : (((rd_T60 l0_1 x34_1).f0) != a1) = true := bne_iff_ne.mpr c29
         (first | rw [c29b0] | (simp only [i64_w, i32_w]; rw [c29b0]) | skip)
         have H' := Aside0.mk H
         clear H
         have hnb48 := NB159_150.out
         have hnc48 := NB150_159.out
         have hnb49 := NB159_151.out
         have hnc49 := NB151_159.out
         have hnb50 := NB159_157.out
         have hnc50 := NB157_159.out
         obtain ⟨hcz51_0, hcz51_1, hcz51_2, hfz51_0, hfz51_1, hfz51_2⟩ := GS.c3 BK159.out
         go_wp2
         go_meet
         case rel => exact ⟨_, (false), (by first | rfl | (simp; done) | (simp [*]; done)), H', ⟨by have := HK1.out; first | omega | exact Nat.le_refl _⟩, ⟨GS.bqX BK150.out⟩, ⟨GS.bqX BK151.out⟩, ⟨GS.bqX BK157.out⟩, ⟨GS.bqZ BK159.out⟩, ⟨GS.lB HB.out⟩⟩
       case rest =>
        clear HC23
        try clear c1
        try clear p1
        try clear q1
        try clear hx1
        try clear c2
        try clear p2
        try clear c3
        try clear c4
        try clear c5
        try clear c6
        try clear c6b0
        try clear c6b1
        try clear c10
        try clear p15
        try clear q15
        try clear hx15
        try clear c16
        try clear c17
        try clear c20
        try clear c20b0
        try clear c21
        try clear c21b0
        try clear c22
        try clear c22b0
        try clear c25
        try clear c26
        try clear c27
        try clear c29
        try clear c29b0
        try clear c29b1
        try clear c31
        try clear c32
        try clear c33
        try clear c34
        try clear c35
        try clear c37
        try clear c38
        try clear c40
        try clear c41
        try clear c42
        try clear c44
        try clear c45
        try clear c46
        try clear c48
        try clear c49
        try clear c50
        try clear hcz11_0
        try clear hcz11_1
        try clear hcz13_0
        try clear hcz13_1
        try clear hcz18_0
        try clear hcz18_1
        try clear hcz18_2
        try clear hcz19_0
        try clear hcz19_1
        try clear hcz28_0
        try clear hcz28_1
        try clear hcz28_2
        try clear hcz36_0
        try clear hcz36_1
        try clear hcz36_2
        try clear hcz39_0
        try clear hcz39_1
        try clear hcz39_2
        try clear hcz43_0
        try clear hcz43_1
        try clear hcz43_2
        try clear hcz47_0
        try clear hcz47_1
        try clear hcz47_2
        try clear hcz51_0
        try clear hcz51_1
        try clear hcz51_2
        try clear hfz11_0
        try clear hfz11_1
        try clear hfz13_0
        try clear hfz13_1
        try clear hfz18_0
        try clear hfz18_1
        try clear hfz18_2
        try clear hfz19_0
        try clear hfz19_1
        try clear hfz28_0
        try clear hfz28_1
        try clear hfz28_2
        try clear hfz36_0
        try clear hfz36_1
        try clear hfz36_2
        try clear hfz39_0
        try clear hfz39_1
        try clear hfz39_2
        try clear hfz43_0
        try clear hfz43_1
        try clear hfz43_2
        try clear hfz47_0
        try clear hfz47_1
        try clear hfz47_2
        try clear hfz51_0
        try clear hfz51_1
        try clear hfz51_2
        try clear hx158_0
        try clear hx158_1
        try clear hx158_2
        try clear p158
        try clear p2
        try clear q158
        obtain ⟨kq, x59_22, rfl, HA, HJ22, BK150, BK151, BK157, BK159, HB⟩ := hcut
        cases kq with
        | zero => exact absurd HA.out (by simp [tariff_Greatest.j1])
        | succ kj22 =>
         have H := HA.out
         clear HA
         simp only [tariff_Greatest.j1] at H
         by_cases c52 : x59_22 = true
         ·subst c52
          have H1 : (tariff_Greatest.l0 kj22 a1 a2 a3 true l0_1 (l0_1.length : Int) (wrap64 (x34_1 + 1)) ((rd_T60 l0_1 x34_1).f0) ((rd_T60 l0_1 x34_1).f1) ((rd_T60 l0_1 x34_1).f2)) = some (r1, r2, r3, r4) := by rw [if_pos rfl] at H; exact H
          clear H
          have H := H1
          clear H1
          have H' := Aside0.mk H
          clear H
          have hnb53 := NB159_150.out
          have hnc53 := NB150_159.out
          have hnb54 := NB159_151.out
          have hnc54 := NB151_159.out
          have hnb55 := NB159_157.out
          have hnc55 := NB157_159.out
          obtain ⟨hcz56_0, hcz56_1, hcz56_2, hfz56_0, hfz56_1, hfz56_2⟩ := GS.c3 BK159.out
          have hnb57 := NB157_150.out
          have hnc57 := NB150_157.out
          have hnb58 := NB157_151.out
          have hnc58 := NB151_157.out
          obtain ⟨hcz59_0, hcz59_1, hcz59_2, hfz59_0, hfz59_1, hfz59_2⟩ := GS.c3 BK157.out
          go_wp2
          go_roundg kj22
          case measure => have := HK1.out; have := HJ22.out; omega
          case rel => exact ⟨(true), (wrap64 (x34_1 + 1)), (((rd_T60 l0_1 x34_1).f0)), (((rd_T60 l0_1 x34_1).f1)), (((rd_T60 l0_1 x34_1).f2)), (by first | rfl | (simp; done) | (simp [*]; done)), (by first | rfl | (simp; done) | (simp [*]; done)), H', ⟨by have := HK1.out; have := HJ22.out; omega⟩, ⟨GS.bqX BK150.out⟩, ⟨GS.bqX BK151.out⟩, ⟨GS.bqZ BK157.out⟩, ⟨GS.lB HB.out⟩⟩
         ·replace c52 := Bool.eq_false_iff.mpr c52
          subst c52
          have H1 : (tariff_Greatest.l0 kj22 a1 a2 a3 x12_1 l0_1 (l0_1.length : Int) (wrap64 (x34_1 + 1)) x158000_1 x158001_1 x158002_1) = some (r1, r2, r3, r4) := by rw [if_neg (show ¬ (false = true) by decide)] at H; exact H
          clear H
          have H := H1
          clear H1
          have H' := Aside0.mk H
          clear H
          go_wp2
          go_roundg kj22
          case measure => have := HK1.out; have := HJ22.out; omega
          case rel => exact ⟨(x12_1), (wrap64 (x34_1 + 1)), (x158000_1), (x158001_1), (x158002_1), (by first | rfl | (simp; done) | (simp [*]; done)), (by first | rfl | (simp; done) | (simp [*]; done)), H', ⟨by have := HK1.out; have := HJ22.out; omega⟩, ⟨GS.bqX BK150.out⟩, ⟨GS.bqX BK151.out⟩, ⟨GS.bqX BK157.out⟩, ⟨GS.lB HB.out⟩⟩
      ·rw [if_neg c22] at H
       exact absurd H (by simp)
     ·rw [if_neg c21] at H
      exact absurd H (by simp)
    ·rw [if_neg c20] at H
     have c20b0 : decide (x34_1 < (l0_1.length : Int)) = false := decide_eq_false c20
     clear c20
     by_cases c60 : x12_1 = true
     ·subst c60
      have H1 : (some (x158000_1, x158001_1, x158002_1, 0)) = some (r1, r2, r3, r4) := by rw [if_pos rfl] at H; exact H
      clear H
      have H := H1
      clear H1
      simp only [Option.some.injEq, Prod.mk.injEq] at H
      obtain ⟨rfl, rfl, rfl, rfl⟩ := H
      have hnb61 := NB157_150.out
      have hnc61 := NB150_157.out
      have hnb62 := NB157_151.out
      have hnc62 := NB151_157.out
      obtain ⟨hcz63_0, hcz63_1, hcz63_2, hfz63_0, hfz63_1, hfz63_2⟩ := GS.c3 BK157.out
      have hnb64 := NB151_150.out
      have hnc64 := NB150_151.out
      obtain ⟨hcz65_0, hcz65_1, hcz65_2, hfz65_0, hfz65_1, hfz65_2⟩ := GS.c3 BK151.out
      go_wp2
      refine bodyPost_ret (results_ct rfl _ _ gb151 60 #[.int .i64 x158000_1, .int .i64 x158001_1, .int .i64 x158002_1] (0, 0) _ rfl (GS.bqZ BK151.out) Try.underlying60 rfl (by kernel_rfl)) rfl ?_
      exact ⟨by first | rfl | (simp [errW_none, errW_some] <;> rfl) | (simp [*, errW_none, errW_some] <;> rfl), GS.lB HB.out⟩
     ·replace c60 := Bool.eq_false_iff.mpr c60
      subst c60
      have H1 : (some (0, 0, 0, 7)) = some (r1, r2, r3, r4) := by rw [if_neg (show ¬ (false = true) by decide)] at H; exact H
      clear H
      have H := H1
      clear H1
      simp only [Option.some.injEq, Prod.mk.injEq] at H
      obtain ⟨rfl, rfl, rfl, rfl⟩ := H
      have hnb66 := NB151_150.out
      have hnc66 := NB150_151.out
      have hnb67 := NB151_157.out
      have hnc67 := NB157_151.out
      obtain ⟨hcz68_0, hcz68_1, hcz68_2, hfz68_0, hfz68_1, hfz68_2⟩ := GS.c3 BK151.out
      go_wp2
      refine bodyPost_ret (results_ct rfl _ _ gb151 60 #[.int .i64 0, .int .i64 0, .int .i64 0] (0, 0) _ rfl (GS.bqZ BK151.out) Try.underlying60 rfl (by kernel_rfl)) rfl ?_
      exact ⟨by first | rfl | (simp [errW_none, errW_some] <;> rfl) | (simp [*, errW_none, errW_some] <;> rfl), GS.lB HB.out⟩
 ·rw [if_neg c6] at H
  have c6b0 : (t152 == 0) = false := beq_eq_false_iff_ne.mpr c6
  try simp only [beq_self_eq_true, Bool.not_true, Bool.false_or, Bool.true_and] at c6b0
  have c6b1 : (t152 != 0) = true := bne_iff_ne.mpr c6
  simp only [Option.some.injEq, Prod.mk.injEq] at H
  obtain ⟨rfl, rfl, rfl, rfl⟩ := H
  go_enter Try.func55, Try.ntmps55
  go_wp2_with (first | ((with_reducible refine gqD (N := 4) rfl ?_); refine GS.bx (N := 4) (cs := #[.int .i64 a0_0, .slice A0_1 l0_1.length c0_1]) (t := 24) ?_; intro gb150 hg w69 hbox hb; have n0_ := Aside0.mk (lqT (GS.lB HB.out) hb); have n1_ := Aside0.mk (hbox); have n2_ := Aside0.mk ((by rw [hg]; exact (lqZ (GS.lB HB.out)) : w.heap.size ≤ gb150)); have n3_ := Aside0.mk ((by rw [hg]; exact (lqZ (GS.lB HB.out)) : w.heap.size ≤ gb150)); clear HB; have HB := n0_; have BK150 := n1_; have GW150 := n2_; have GE150 := n3_; clear n0_ n1_ n2_ n3_; clear hb hbox hg) | ((with_reducible refine gqD (N := 8) rfl ?_); refine GS.bx (N := 8) (cs := #[.int .i64 0, .int .i64 0, .int .i64 0]) (t := 60) ?_; intro gb151 hg w70 hbox hb; have n0_ := Aside0.mk (bqB (GS.bqX BK150.out) hb); have n1_ := Aside0.mk (lqT (GS.lB HB.out) hb); have n2_ := Aside0.mk (hbox); have n3_ := Aside0.mk ((by rw [hg]; exact (lqZ (GS.lB HB.out)) : w.heap.size ≤ gb151)); have n4_ := Aside0.mk ((by rw [hg]; exact (lqZ (GS.lB HB.out)) : w.heap.size ≤ gb151)); have n5_ := Aside0.mk ((by rw [hg]; exact Nat.ne_of_lt (blk_lt (GS.bqX BK150.out)) : gb150 ≠ gb151)); have n6_ := Aside0.mk ((by rw [hg]; exact Nat.ne_of_gt (blk_lt (GS.bqX BK150.out)) : gb151 ≠ gb150)); clear BK150; clear HB; have BK150 := n0_; have HB := n1_; have BK151 := n2_; have GW151 := n3_; have GE151 := n4_; have NB150_151 := n5_; have NB151_150 := n6_; clear n0_ n1_ n2_ n3_ n4_ n5_ n6_; clear hb hbox hg; have hnb71 := NB150_151.out; have hnc71 := NB151_150.out; obtain ⟨hcz72_0, hcz72_1, hfz72_0, hfz72_1⟩ := GS.c2 BK150.out) | ((with_reducible refine gqC (f := 67) rfl ?_); refine GS.gL (some 19) Try.func67 #[.agg #[.int .i64 a0_0, .slice A0_1 l0_1.length c0_1], .int .i64 a1, .int .i64 a2, .int .i64 a3] ?_; (with_reducible refine (tariff_span.calls k a0_0 _ _ l0_1 a1 a2 a3 t152 _ ?side1 ?side2 A5.out).mono ?_); (case side1 => exact GS.rC (Kd.C_below HR0_1.out HB.out)); (case side2 => exact HC0_1.out); rintro e w73 ⟨rfl, hb⟩; refine ⟨_, rfl, ?_⟩; have n0_ := Aside0.mk (bqB (GS.bqX BK150.out) hb); have n1_ := Aside0.mk (bqB (GS.bqX BK151.out) hb); have n2_ := Aside0.mk (lqT (GS.lB HB.out) hb); clear BK150; clear BK151; clear HB; have BK150 := n0_; have BK151 := n1_; have HB := n2_; clear n0_ n1_ n2_; (try clear hb); (try clear hb2); (try clear hk); (try clear hi); obtain ⟨hcz74_0, hcz74_1, hcz74_2, hfz74_0, hfz74_1, hfz74_2⟩ := GS.c3 BK151.out))
  refine bodyPost_ret (results_ct rfl _ _ gb151 60 #[.int .i64 0, .int .i64 0, .int .i64 0] (0, 0) _ rfl (GS.bqZ BK151.out) Try.underlying60 rfl (by kernel_rfl)) rfl ?_
  exact ⟨by first | rfl | (simp [errW_none, errW_some] <;> rfl) | (simp [*, errW_none, errW_some] <;> rfl), GS.lB HB.out⟩

/-! ### liability_worst: function 38 -/
def liability_worst.f (k : Nat) (a0_0 : Int) (l0_1 : List (S60)) (a1_0 : Int) (a1_1 : Int) (a1_2 : Int) (a1_3 : Int) (a1_4 : Int) (a2 : Int) : Option (Int × Int × Int × Int) := (tariff_Greatest.f k a0_0 l0_1 a1_2 a1_3 a2).bind fun bt165 => (if bt165.2.2.2 = 0 then (some (a1_0, 3, a1_4, mx bt165.2.1 a1_3)) else (some (a1_0, 3, a1_4, a1_3)))
theorem liability_worst.mono : ∀ a0 a1 a2 a3 a4 a5 a6 a7 k, LeO (liability_worst.f k a0 a1 a2 a3 a4 a5 a6 a7) (liability_worst.f (k + 1) a0 a1 a2 a3 a4 a5 a6 a7) := by
 intro a0 a1 a2 a3 a4 a5 a6 a7 k
 unfold liability_worst.f
 repeat' first
   | (with_reducible exact tariff_Greatest.mono _ _ _ _ _ _)
   | (with_reducible exact LeO.refl _)
   | (with_reducible exact LeO.none _)
   | (with_reducible refine LeO.ite ?_ ?_)
   | (with_reducible refine LeO.bind ?_ (fun _ => ?_))
   | exact tariff_Greatest.mono _ _ _ _ _ _
   | exact LeO.none _
   | refine LeO.ite ?_ ?_
   | refine LeO.bind ?_ (fun _ => ?_)
set_option maxHeartbeats 8000000 in
set_option maxRecDepth 100000 in
theorem liability_worst.calls (k : Nat) (a0_0 : Int) (A0_1 : Option Addr) (c0_1 : Nat) (l0_1 : List (S60)) (a1_0 : Int) (a1_1 : Int) (a1_2 : Int) (a1_3 : Int) (a1_4 : Int) (a2 : Int) (r1 : Int) (r2 : Int) (r3 : Int) (r4 : Int) (w : World) (hr0_1 : Kd.C k60 w A0_1 l0_1.length l0_1) (hc0_1 : l0_1.length ≤ c0_1) (h : liability_worst.f k a0_0 l0_1 a1_0 a1_1 a1_2 a1_3 a1_4 a2 = some (r1, r2, r3, r4)) :
  Calls Try.prog 38 #[.agg #[.int .i64 a0_0, .slice A0_1 l0_1.length c0_1], .agg #[.int .i64 a1_0, .int .i64 a1_1, .int .i64 a1_2, .int .i64 a1_3, .int .i64 a1_4], .int .i64 a2] w fun e w' => e = .returned (.agg #[.int .i64 r1, .int .i64 r2, .int .i64 r3, .int .i64 r4]) ∧ Below w.heap.size w w' := by
 have hu24 := Try.underlying24
 have hu35 := Try.underlying35
 have hu51 := Try.underlying51
 have hu60 := Try.underlying60
 have HR0_1 := Aside0.mk hr0_1
 have HC0_1 := Aside0.mk hc0_1
 clear hr0_1 hc0_1
 have HB := Aside0.mk (Below.refl w.heap.size w)
 have H : ((tariff_Greatest.f k a0_0 l0_1 a1_2 a1_3 a2).bind fun bt165 => (if bt165.2.2.2 = 0 then (some (a1_0, 3, a1_4, mx bt165.2.1 a1_3)) else (some (a1_0, 3, a1_4, a1_3)))) = some (r1, r2, r3, r4) := h
 clear h
 replace H := Option.bind_eq_some_iff.mp H
 obtain ⟨⟨t165, t166, t167, t168⟩, A40, H⟩ := H
 replace H : (if t168 = 0 then (some (a1_0, 3, a1_4, mx t166 a1_3)) else (some (a1_0, 3, a1_4, a1_3))) = some (r1, r2, r3, r4) := H
 have A4 := Aside0.mk A40
 clear A40
 by_cases c5 : t168 = 0
 ·rw [if_pos c5] at H
  have c5b0 : (t168 == 0) = true := beq_iff_eq.mpr c5
  try simp only [beq_self_eq_true, Bool.not_true, Bool.false_or, Bool.true_and] at c5b0
  have c5b1 : (t168 != 0) = false := bne_eq_false_iff_eq.mpr c5
  clear c5
  obtain ⟨ji6, hji6⟩ : ∃ j_ : Int, (mx t166 a1_3) = j_ := ⟨_, rfl⟩
  replace H : (some (a1_0, 3, a1_4, ji6)) = some (r1, r2, r3, r4) := by first | (rw [hji6] at H; exact H) | (simp only [hji6] at H ⊢; exact H)
  (try rw [hji6] at A4)
  have hji6_ : (if t166 < a1_3 then a1_3 else t166) = ji6 := hji6
  simp only [Option.some.injEq, Prod.mk.injEq] at H
  obtain ⟨rfl, rfl, rfl, rfl⟩ := H
  go_enter Try.func38, Try.ntmps38
  go_wp2_with (first | ((with_reducible refine gqD (N := 3) rfl ?_); refine GS.bx (N := 3) (cs := #[.int .i64 a0_0, .slice A0_1 l0_1.length c0_1]) (t := 24) ?_; intro gb161 hg w7 hbox hb; have n0_ := Aside0.mk (lqT (GS.lB HB.out) hb); have n1_ := Aside0.mk (hbox); have n2_ := Aside0.mk ((by rw [hg]; exact (lqZ (GS.lB HB.out)) : w.heap.size ≤ gb161)); have n3_ := Aside0.mk ((by rw [hg]; exact (lqZ (GS.lB HB.out)) : w.heap.size ≤ gb161)); clear HB; have HB := n0_; have BK161 := n1_; have GW161 := n2_; have GE161 := n3_; clear n0_ n1_ n2_ n3_; clear hb hbox hg) | ((with_reducible refine gqD (N := 4) rfl ?_); refine GS.bx (N := 4) (cs := #[.int .i64 a1_0, .int .i64 a1_1, .int .i64 a1_2, .int .i64 a1_3, .int .i64 a1_4]) (t := 35) ?_; intro gb162 hg w8 hbox hb; have n0_ := Aside0.mk (bqB (GS.bqX BK161.out) hb); have n1_ := Aside0.mk (lqT (GS.lB HB.out) hb); have n2_ := Aside0.mk (hbox); have n3_ := Aside0.mk ((by rw [hg]; exact (lqZ (GS.lB HB.out)) : w.heap.size ≤ gb162)); have n4_ := Aside0.mk ((by rw [hg]; exact (lqZ (GS.lB HB.out)) : w.heap.size ≤ gb162)); have n5_ := Aside0.mk ((by rw [hg]; exact Nat.ne_of_lt (blk_lt (GS.bqX BK161.out)) : gb161 ≠ gb162)); have n6_ := Aside0.mk ((by rw [hg]; exact Nat.ne_of_gt (blk_lt (GS.bqX BK161.out)) : gb162 ≠ gb161)); clear BK161; clear HB; have BK161 := n0_; have HB := n1_; have BK162 := n2_; have GW162 := n3_; have GE162 := n4_; have NB161_162 := n5_; have NB162_161 := n6_; clear n0_ n1_ n2_ n3_ n4_ n5_ n6_; clear hb hbox hg) | ((with_reducible refine gqD (N := 6) rfl ?_); refine GS.bx (N := 6) (cs := #[.int .i64 0, .int .i64 0, .int .i64 0, .int .i64 0]) (t := 51) ?_; intro gb163 hg w9 hbox hb; have n0_ := Aside0.mk (bqB (GS.bqX BK161.out) hb); have n1_ := Aside0.mk (bqB (GS.bqX BK162.out) hb); have n2_ := Aside0.mk (lqT (GS.lB HB.out) hb); have n3_ := Aside0.mk (hbox); have n4_ := Aside0.mk ((by rw [hg]; exact (lqZ (GS.lB HB.out)) : w.heap.size ≤ gb163)); have n5_ := Aside0.mk ((by rw [hg]; exact (lqZ (GS.lB HB.out)) : w.heap.size ≤ gb163)); have n6_ := Aside0.mk ((by rw [hg]; exact Nat.ne_of_lt (blk_lt (GS.bqX BK161.out)) : gb161 ≠ gb163)); have n7_ := Aside0.mk ((by rw [hg]; exact Nat.ne_of_gt (blk_lt (GS.bqX BK161.out)) : gb163 ≠ gb161)); have n8_ := Aside0.mk ((by rw [hg]; exact Nat.ne_of_lt (blk_lt (GS.bqX BK162.out)) : gb162 ≠ gb163)); have n9_ := Aside0.mk ((by rw [hg]; exact Nat.ne_of_gt (blk_lt (GS.bqX BK162.out)) : gb163 ≠ gb162)); clear BK161; clear BK162; clear HB; have BK161 := n0_; have BK162 := n1_; have HB := n2_; have BK163 := n3_; have GW163 := n4_; have GE163 := n5_; have NB161_163 := n6_; have NB163_161 := n7_; have NB162_163 := n8_; have NB163_162 := n9_; clear n0_ n1_ n2_ n3_ n4_ n5_ n6_ n7_ n8_ n9_; clear hb hbox hg; have hnb10 := NB162_161.out; have hnc10 := NB161_162.out; have hnb11 := NB162_163.out; have hnc11 := NB163_162.out; obtain ⟨hcz12_0, hcz12_1, hcz12_2, hcz12_3, hcz12_4, hfz12_0, hfz12_1, hfz12_2, hfz12_3, hfz12_4⟩ := GS.c5 BK162.out) | ((with_reducible refine gqD (N := 7) rfl ?_); refine GS.bx (N := 7) (cs := #[.int .i64 0, .int .i64 0, .int .i64 0, .int .i64 0]) (t := 51) ?_; intro gb164 hg w13 hbox hb; have n0_ := Aside0.mk (bqB (GS.bqX BK161.out) hb); have n1_ := Aside0.mk (bqB (GS.bqX BK162.out) hb); have n2_ := Aside0.mk (bqB (GS.bqX BK163.out) hb); have n3_ := Aside0.mk (lqT (GS.lB HB.out) hb); have n4_ := Aside0.mk (hbox); have n5_ := Aside0.mk ((by rw [hg]; exact (lqZ (GS.lB HB.out)) : w.heap.size ≤ gb164)); have n6_ := Aside0.mk ((by rw [hg]; exact (lqZ (GS.lB HB.out)) : w.heap.size ≤ gb164)); have n7_ := Aside0.mk ((by rw [hg]; exact Nat.ne_of_lt (blk_lt (GS.bqX BK161.out)) : gb161 ≠ gb164)); have n8_ := Aside0.mk ((by rw [hg]; exact Nat.ne_of_gt (blk_lt (GS.bqX BK161.out)) : gb164 ≠ gb161)); have n9_ := Aside0.mk ((by rw [hg]; exact Nat.ne_of_lt (blk_lt (GS.bqX BK162.out)) : gb162 ≠ gb164)); have n10_ := Aside0.mk ((by rw [hg]; exact Nat.ne_of_gt (blk_lt (GS.bqX BK162.out)) : gb164 ≠ gb162)); have n11_ := Aside0.mk ((by rw [hg]; exact Nat.ne_of_lt (blk_lt (GS.bqX BK163.out)) : gb163 ≠ gb164)); have n12_ := Aside0.mk ((by rw [hg]; exact Nat.ne_of_gt (blk_lt (GS.bqX BK163.out)) : gb164 ≠ gb163)); clear BK161; clear BK162; clear BK163; clear HB; have BK161 := n0_; have BK162 := n1_; have BK163 := n2_; have HB := n3_; have BK164 := n4_; have GW164 := n5_; have GE164 := n6_; have NB161_164 := n7_; have NB164_161 := n8_; have NB162_164 := n9_; have NB164_162 := n10_; have NB163_164 := n11_; have NB164_163 := n12_; clear n0_ n1_ n2_ n3_ n4_ n5_ n6_ n7_ n8_ n9_ n10_ n11_ n12_; clear hb hbox hg; have hnb14 := NB164_161.out; have hnc14 := NB161_164.out; have hnb15 := NB164_162.out; have hnc15 := NB162_164.out; have hnb16 := NB164_163.out; have hnc16 := NB163_164.out; obtain ⟨hcz17_0, hcz17_1, hcz17_2, hcz17_3, hfz17_0, hfz17_1, hfz17_2, hfz17_3⟩ := GS.c4 BK164.out; have hnb18 := NB161_163.out; have hnc18 := NB163_161.out; obtain ⟨hcz19_0, hcz19_1, hfz19_0, hfz19_1⟩ := GS.c2 BK161.out; obtain ⟨hcz20_0, hcz20_1, hcz20_2, hcz20_3, hcz20_4, hfz20_0, hfz20_1, hfz20_2, hfz20_3, hfz20_4⟩ := GS.c5 BK162.out) | ((with_reducible refine gqC (f := 55) rfl ?_); refine GS.gL (some 24) Try.func55 #[.agg #[.int .i64 a0_0, .slice A0_1 l0_1.length c0_1], .int .i64 a1_2, .int .i64 a1_3, .int .i64 a2] ?_; (with_reducible refine (tariff_Greatest.calls k a0_0 _ _ l0_1 a1_2 a1_3 a2 t165 t166 t167 t168 _ ?side1 ?side2 A4.out).mono ?_); (case side1 => exact Kd.C_below HR0_1.out (GS.lB HB.out)); (case side2 => exact HC0_1.out); rintro e w21 ⟨rfl, hb⟩; refine ⟨_, rfl, ?_⟩; have n0_ := Aside0.mk (bqB (GS.bqX BK161.out) hb); have n1_ := Aside0.mk (bqB (GS.bqX BK162.out) hb); have n2_ := Aside0.mk (bqB (GS.bqX BK163.out) hb); have n3_ := Aside0.mk (bqB (g := gb164) (o := .cells #[.int .i64 a1_0, .int .i64 3, .int .i64 a1_4, .int .i64 a1_3] 51 (0, 0)) (GS.bqZ BK164.out) hb); have n4_ := Aside0.mk (lqT (GS.lB HB.out) hb); clear BK161; clear BK162; clear BK163; clear BK164; clear HB; have BK161 := n0_; have BK162 := n1_; have BK163 := n2_; have BK164 := n3_; have HB := n4_; clear n0_ n1_ n2_ n3_ n4_; (try clear hb); (try clear hb2); (try clear hk); (try clear hi)) | ((with_reducible refine gqD (N := 8) rfl ?_); refine GS.bx (N := 8) (cs := #[.int .i64 0, .int .i64 0, .int .i64 0]) (t := 60) ?_; intro gb169 hg w22 hbox hb; have n0_ := Aside0.mk (bqB (GS.bqX BK161.out) hb); have n1_ := Aside0.mk (bqB (GS.bqX BK162.out) hb); have n2_ := Aside0.mk (bqB (GS.bqX BK163.out) hb); have n3_ := Aside0.mk (bqB (GS.bqX BK164.out) hb); have n4_ := Aside0.mk (lqT (GS.lB HB.out) hb); have n5_ := Aside0.mk (hbox); have n6_ := Aside0.mk ((by rw [hg]; exact (lqZ (GS.lB HB.out)) : w.heap.size ≤ gb169)); have n7_ := Aside0.mk ((by rw [hg]; exact (lqZ (GS.lB HB.out)) : w.heap.size ≤ gb169)); have n8_ := Aside0.mk ((by rw [hg]; exact Nat.ne_of_lt (blk_lt (GS.bqX BK161.out)) : gb161 ≠ gb169)); have n9_ := Aside0.mk ((by rw [hg]; exact Nat.ne_of_gt (blk_lt (GS.bqX BK161.out)) : gb169 ≠ gb161)); have n10_ := Aside0.mk ((by rw [hg]; exact Nat.ne_of_lt (blk_lt (GS.bqX BK162.out)) : gb162 ≠ gb169)); have n11_ := Aside0.mk ((by rw [hg]; exact Nat.ne_of_gt (blk_lt (GS.bqX BK162.out)) : gb169 ≠ gb162)); have n12_ := Aside0.mk ((by rw [hg]; exact Nat.ne_of_lt (blk_lt (GS.bqX BK163.out)) : gb163 ≠ gb169)); have n13_ := Aside0.mk ((by rw [hg]; exact Nat.ne_of_gt (blk_lt (GS.bqX BK163.out)) : gb169 ≠ gb163)); have n14_ := Aside0.mk ((by rw [hg]; exact Nat.ne_of_lt (blk_lt (GS.bqX BK164.out)) : gb164 ≠ gb169)); have n15_ := Aside0.mk ((by rw [hg]; exact Nat.ne_of_gt (blk_lt (GS.bqX BK164.out)) : gb169 ≠ gb164)); clear BK161; clear BK162; clear BK163; clear BK164; clear HB; have BK161 := n0_; have BK162 := n1_; have BK163 := n2_; have BK164 := n3_; have HB := n4_; have BK169 := n5_; have GW169 := n6_; have GE169 := n7_; have NB161_169 := n8_; have NB169_161 := n9_; have NB162_169 := n10_; have NB169_162 := n11_; have NB163_169 := n12_; have NB169_163 := n13_; have NB164_169 := n14_; have NB169_164 := n15_; clear n0_ n1_ n2_ n3_ n4_ n5_ n6_ n7_ n8_ n9_ n10_ n11_ n12_ n13_ n14_ n15_; clear hb hbox hg; have hnb23 := NB169_161.out; have hnc23 := NB161_169.out; have hnb24 := NB169_162.out; have hnc24 := NB162_169.out; have hnb25 := NB169_163.out; have hnc25 := NB163_169.out; have hnb26 := NB169_164.out; have hnc26 := NB164_169.out; obtain ⟨hcz27_0, hcz27_1, hcz27_2, hfz27_0, hfz27_1, hfz27_2⟩ := GS.c3 BK169.out; obtain ⟨hcz28_0, hcz28_1, hcz28_2, hcz28_3, hcz28_4, hfz28_0, hfz28_1, hfz28_2, hfz28_3, hfz28_4⟩ := GS.c5 BK162.out; obtain ⟨hcz29_0, hcz29_1, hcz29_2, hcz29_3, hfz29_0, hfz29_1, hfz29_2, hfz29_3⟩ := GS.c4 BK164.out; obtain ⟨hcz30_0, hcz30_1, hcz30_2, hcz30_3, hfz30_0, hfz30_1, hfz30_2, hfz30_3⟩ := GS.c4 BK163.out))
  refine bodyPost_ret (results_cell_row rfl _ _ gb163 51 #[.int .i64 a1_0, .int .i64 3, .int .i64 a1_4, .int .i64 ji6] (0, 0) _ rfl (GS.bqZ BK163.out) Try.underlying51 rfl (by kernel_rfl)) rfl ?_
  exact ⟨by first | rfl | (simp [errW_none, errW_some] <;> rfl) | (simp only [← hji6]; first | rfl | (simp [errW_none, errW_some] <;> rfl)) | (simp [*, errW_none, errW_some] <;> rfl), GS.lB HB.out⟩
 ·rw [if_neg c5] at H
  have c5b0 : (t168 == 0) = false := beq_eq_false_iff_ne.mpr c5
  try simp only [beq_self_eq_true, Bool.not_true, Bool.false_or, Bool.true_and] at c5b0
  have c5b1 : (t168 != 0) = true := bne_iff_ne.mpr c5
  simp only [Option.some.injEq, Prod.mk.injEq] at H
  obtain ⟨rfl, rfl, rfl, rfl⟩ := H
  go_enter Try.func38, Try.ntmps38
  go_wp2_with (first | ((with_reducible refine gqD (N := 3) rfl ?_); refine GS.bx (N := 3) (cs := #[.int .i64 a0_0, .slice A0_1 l0_1.length c0_1]) (t := 24) ?_; intro gb161 hg w31 hbox hb; have n0_ := Aside0.mk (lqT (GS.lB HB.out) hb); have n1_ := Aside0.mk (hbox); have n2_ := Aside0.mk ((by rw [hg]; exact (lqZ (GS.lB HB.out)) : w.heap.size ≤ gb161)); have n3_ := Aside0.mk ((by rw [hg]; exact (lqZ (GS.lB HB.out)) : w.heap.size ≤ gb161)); clear HB; have HB := n0_; have BK161 := n1_; have GW161 := n2_; have GE161 := n3_; clear n0_ n1_ n2_ n3_; clear hb hbox hg) | ((with_reducible refine gqD (N := 4) rfl ?_); refine GS.bx (N := 4) (cs := #[.int .i64 a1_0, .int .i64 a1_1, .int .i64 a1_2, .int .i64 a1_3, .int .i64 a1_4]) (t := 35) ?_; intro gb162 hg w32 hbox hb; have n0_ := Aside0.mk (bqB (GS.bqX BK161.out) hb); have n1_ := Aside0.mk (lqT (GS.lB HB.out) hb); have n2_ := Aside0.mk (hbox); have n3_ := Aside0.mk ((by rw [hg]; exact (lqZ (GS.lB HB.out)) : w.heap.size ≤ gb162)); have n4_ := Aside0.mk ((by rw [hg]; exact (lqZ (GS.lB HB.out)) : w.heap.size ≤ gb162)); have n5_ := Aside0.mk ((by rw [hg]; exact Nat.ne_of_lt (blk_lt (GS.bqX BK161.out)) : gb161 ≠ gb162)); have n6_ := Aside0.mk ((by rw [hg]; exact Nat.ne_of_gt (blk_lt (GS.bqX BK161.out)) : gb162 ≠ gb161)); clear BK161; clear HB; have BK161 := n0_; have HB := n1_; have BK162 := n2_; have GW162 := n3_; have GE162 := n4_; have NB161_162 := n5_; have NB162_161 := n6_; clear n0_ n1_ n2_ n3_ n4_ n5_ n6_; clear hb hbox hg) | ((with_reducible refine gqD (N := 6) rfl ?_); refine GS.bx (N := 6) (cs := #[.int .i64 0, .int .i64 0, .int .i64 0, .int .i64 0]) (t := 51) ?_; intro gb163 hg w33 hbox hb; have n0_ := Aside0.mk (bqB (GS.bqX BK161.out) hb); have n1_ := Aside0.mk (bqB (GS.bqX BK162.out) hb); have n2_ := Aside0.mk (lqT (GS.lB HB.out) hb); have n3_ := Aside0.mk (hbox); have n4_ := Aside0.mk ((by rw [hg]; exact (lqZ (GS.lB HB.out)) : w.heap.size ≤ gb163)); have n5_ := Aside0.mk ((by rw [hg]; exact (lqZ (GS.lB HB.out)) : w.heap.size ≤ gb163)); have n6_ := Aside0.mk ((by rw [hg]; exact Nat.ne_of_lt (blk_lt (GS.bqX BK161.out)) : gb161 ≠ gb163)); have n7_ := Aside0.mk ((by rw [hg]; exact Nat.ne_of_gt (blk_lt (GS.bqX BK161.out)) : gb163 ≠ gb161)); have n8_ := Aside0.mk ((by rw [hg]; exact Nat.ne_of_lt (blk_lt (GS.bqX BK162.out)) : gb162 ≠ gb163)); have n9_ := Aside0.mk ((by rw [hg]; exact Nat.ne_of_gt (blk_lt (GS.bqX BK162.out)) : gb163 ≠ gb162)); clear BK161; clear BK162; clear HB; have BK161 := n0_; have BK162 := n1_; have HB := n2_; have BK163 := n3_; have GW163 := n4_; have GE163 := n5_; have NB161_163 := n6_; have NB163_161 := n7_; have NB162_163 := n8_; have NB163_162 := n9_; clear n0_ n1_ n2_ n3_ n4_ n5_ n6_ n7_ n8_ n9_; clear hb hbox hg; have hnb34 := NB162_161.out; have hnc34 := NB161_162.out; have hnb35 := NB162_163.out; have hnc35 := NB163_162.out; obtain ⟨hcz36_0, hcz36_1, hcz36_2, hcz36_3, hcz36_4, hfz36_0, hfz36_1, hfz36_2, hfz36_3, hfz36_4⟩ := GS.c5 BK162.out) | ((with_reducible refine gqD (N := 7) rfl ?_); refine GS.bx (N := 7) (cs := #[.int .i64 0, .int .i64 0, .int .i64 0, .int .i64 0]) (t := 51) ?_; intro gb164 hg w37 hbox hb; have n0_ := Aside0.mk (bqB (GS.bqX BK161.out) hb); have n1_ := Aside0.mk (bqB (GS.bqX BK162.out) hb); have n2_ := Aside0.mk (bqB (GS.bqX BK163.out) hb); have n3_ := Aside0.mk (lqT (GS.lB HB.out) hb); have n4_ := Aside0.mk (hbox); have n5_ := Aside0.mk ((by rw [hg]; exact (lqZ (GS.lB HB.out)) : w.heap.size ≤ gb164)); have n6_ := Aside0.mk ((by rw [hg]; exact (lqZ (GS.lB HB.out)) : w.heap.size ≤ gb164)); have n7_ := Aside0.mk ((by rw [hg]; exact Nat.ne_of_lt (blk_lt (GS.bqX BK161.out)) : gb161 ≠ gb164)); have n8_ := Aside0.mk ((by rw [hg]; exact Nat.ne_of_gt (blk_lt (GS.bqX BK161.out)) : gb164 ≠ gb161)); have n9_ := Aside0.mk ((by rw [hg]; exact Nat.ne_of_lt (blk_lt (GS.bqX BK162.out)) : gb162 ≠ gb164)); have n10_ := Aside0.mk ((by rw [hg]; exact Nat.ne_of_gt (blk_lt (GS.bqX BK162.out)) : gb164 ≠ gb162)); have n11_ := Aside0.mk ((by rw [hg]; exact Nat.ne_of_lt (blk_lt (GS.bqX BK163.out)) : gb163 ≠ gb164)); have n12_ := Aside0.mk ((by rw [hg]; exact Nat.ne_of_gt (blk_lt (GS.bqX BK163.out)) : gb164 ≠ gb163)); clear BK161; clear BK162; clear BK163; clear HB; have BK161 := n0_; have BK162 := n1_; have BK163 := n2_; have HB := n3_; have BK164 := n4_; have GW164 := n5_; have GE164 := n6_; have NB161_164 := n7_; have NB164_161 := n8_; have NB162_164 := n9_; have NB164_162 := n10_; have NB163_164 := n11_; have NB164_163 := n12_; clear n0_ n1_ n2_ n3_ n4_ n5_ n6_ n7_ n8_ n9_ n10_ n11_ n12_; clear hb hbox hg; have hnb38 := NB164_161.out; have hnc38 := NB161_164.out; have hnb39 := NB164_162.out; have hnc39 := NB162_164.out; have hnb40 := NB164_163.out; have hnc40 := NB163_164.out; obtain ⟨hcz41_0, hcz41_1, hcz41_2, hcz41_3, hfz41_0, hfz41_1, hfz41_2, hfz41_3⟩ := GS.c4 BK164.out; have hnb42 := NB161_163.out; have hnc42 := NB163_161.out; obtain ⟨hcz43_0, hcz43_1, hfz43_0, hfz43_1⟩ := GS.c2 BK161.out; obtain ⟨hcz44_0, hcz44_1, hcz44_2, hcz44_3, hcz44_4, hfz44_0, hfz44_1, hfz44_2, hfz44_3, hfz44_4⟩ := GS.c5 BK162.out) | ((with_reducible refine gqC (f := 55) rfl ?_); refine GS.gL (some 24) Try.func55 #[.agg #[.int .i64 a0_0, .slice A0_1 l0_1.length c0_1], .int .i64 a1_2, .int .i64 a1_3, .int .i64 a2] ?_; (with_reducible refine (tariff_Greatest.calls k a0_0 _ _ l0_1 a1_2 a1_3 a2 t165 t166 t167 t168 _ ?side1 ?side2 A4.out).mono ?_); (case side1 => exact Kd.C_below HR0_1.out (GS.lB HB.out)); (case side2 => exact HC0_1.out); rintro e w45 ⟨rfl, hb⟩; refine ⟨_, rfl, ?_⟩; have n0_ := Aside0.mk (bqB (GS.bqX BK161.out) hb); have n1_ := Aside0.mk (bqB (GS.bqX BK162.out) hb); have n2_ := Aside0.mk (bqB (GS.bqX BK163.out) hb); have n3_ := Aside0.mk (bqB (g := gb164) (o := .cells #[.int .i64 a1_0, .int .i64 3, .int .i64 a1_4, .int .i64 a1_3] 51 (0, 0)) (GS.bqZ BK164.out) hb); have n4_ := Aside0.mk (lqT (GS.lB HB.out) hb); clear BK161; clear BK162; clear BK163; clear BK164; clear HB; have BK161 := n0_; have BK162 := n1_; have BK163 := n2_; have BK164 := n3_; have HB := n4_; clear n0_ n1_ n2_ n3_ n4_; (try clear hb); (try clear hb2); (try clear hk); (try clear hi)) | ((with_reducible refine gqD (N := 8) rfl ?_); refine GS.bx (N := 8) (cs := #[.int .i64 0, .int .i64 0, .int .i64 0]) (t := 60) ?_; intro gb169 hg w46 hbox hb; have n0_ := Aside0.mk (bqB (GS.bqX BK161.out) hb); have n1_ := Aside0.mk (bqB (GS.bqX BK162.out) hb); have n2_ := Aside0.mk (bqB (GS.bqX BK163.out) hb); have n3_ := Aside0.mk (bqB (GS.bqX BK164.out) hb); have n4_ := Aside0.mk (lqT (GS.lB HB.out) hb); have n5_ := Aside0.mk (hbox); have n6_ := Aside0.mk ((by rw [hg]; exact (lqZ (GS.lB HB.out)) : w.heap.size ≤ gb169)); have n7_ := Aside0.mk ((by rw [hg]; exact (lqZ (GS.lB HB.out)) : w.heap.size ≤ gb169)); have n8_ := Aside0.mk ((by rw [hg]; exact Nat.ne_of_lt (blk_lt (GS.bqX BK161.out)) : gb161 ≠ gb169)); have n9_ := Aside0.mk ((by rw [hg]; exact Nat.ne_of_gt (blk_lt (GS.bqX BK161.out)) : gb169 ≠ gb161)); have n10_ := Aside0.mk ((by rw [hg]; exact Nat.ne_of_lt (blk_lt (GS.bqX BK162.out)) : gb162 ≠ gb169)); have n11_ := Aside0.mk ((by rw [hg]; exact Nat.ne_of_gt (blk_lt (GS.bqX BK162.out)) : gb169 ≠ gb162)); have n12_ := Aside0.mk ((by rw [hg]; exact Nat.ne_of_lt (blk_lt (GS.bqX BK163.out)) : gb163 ≠ gb169)); have n13_ := Aside0.mk ((by rw [hg]; exact Nat.ne_of_gt (blk_lt (GS.bqX BK163.out)) : gb169 ≠ gb163)); have n14_ := Aside0.mk ((by rw [hg]; exact Nat.ne_of_lt (blk_lt (GS.bqX BK164.out)) : gb164 ≠ gb169)); have n15_ := Aside0.mk ((by rw [hg]; exact Nat.ne_of_gt (blk_lt (GS.bqX BK164.out)) : gb169 ≠ gb164)); clear BK161; clear BK162; clear BK163; clear BK164; clear HB; have BK161 := n0_; have BK162 := n1_; have BK163 := n2_; have BK164 := n3_; have HB := n4_; have BK169 := n5_; have GW169 := n6_; have GE169 := n7_; have NB161_169 := n8_; have NB169_161 := n9_; have NB162_169 := n10_; have NB169_162 := n11_; have NB163_169 := n12_; have NB169_163 := n13_; have NB164_169 := n14_; have NB169_164 := n15_; clear n0_ n1_ n2_ n3_ n4_ n5_ n6_ n7_ n8_ n9_ n10_ n11_ n12_ n13_ n14_ n15_; clear hb hbox hg; have hnb47 := NB169_161.out; have hnc47 := NB161_169.out; have hnb48 := NB169_162.out; have hnc48 := NB162_169.out; have hnb49 := NB169_163.out; have hnc49 := NB163_169.out; have hnb50 := NB169_164.out; have hnc50 := NB164_169.out; obtain ⟨hcz51_0, hcz51_1, hcz51_2, hfz51_0, hfz51_1, hfz51_2⟩ := GS.c3 BK169.out; obtain ⟨hcz52_0, hcz52_1, hcz52_2, hcz52_3, hfz52_0, hfz52_1, hfz52_2, hfz52_3⟩ := GS.c4 BK164.out; obtain ⟨hcz53_0, hcz53_1, hcz53_2, hcz53_3, hfz53_0, hfz53_1, hfz53_2, hfz53_3⟩ := GS.c4 BK163.out))
  refine bodyPost_ret (results_cell_row rfl _ _ gb163 51 #[.int .i64 a1_0, .int .i64 3, .int .i64 a1_4, .int .i64 a1_3] (0, 0) _ rfl (GS.bqZ BK163.out) Try.underlying51 rfl (by kernel_rfl)) rfl ?_
  exact ⟨by first | rfl | (simp [errW_none, errW_some] <;> rfl) | (simp [*, errW_none, errW_some] <;> rfl), GS.lB HB.out⟩

/-! ### tariff_At: function 70 -/
def tariff_At.f (k : Nat) (a0_0 : Int) (l0_1 : List (S60)) (a1 : Int) (a2 : Int) : Option (Int × Int × Int × Int) := (tariff_right.f k a0_0 l0_1).bind fun t172 => (if t172 = true then ((tariff_within.f a1 1 9).bind fun t173 => (if t173 = true then ((tariff_within.f a2 0 100000).bind fun t174 => (if t174 = true then ((tariff_force.f k a0_0 l0_1 a1 a2).bind fun bt175 => (if bt175.2.2.2 = true then (some (bt175.1, bt175.2.1, bt175.2.2.1, 0)) else (some (0, 0, 0, 7)))) else (some (0, 0, 0, 2)))) else (some (0, 0, 0, 2)))) else (some (0, 0, 0, 1)))
theorem tariff_At.mono : ∀ a0 a1 a2 a3 k, LeO (tariff_At.f k a0 a1 a2 a3) (tariff_At.f (k + 1) a0 a1 a2 a3) := by
 intro a0 a1 a2 a3 k
 unfold tariff_At.f
 repeat' first
   | (with_reducible exact tariff_force.mono _ _ _ _ _)
   | (with_reducible exact tariff_right.mono _ _ _)
   | (with_reducible exact LeO.refl _)
   | (with_reducible exact LeO.none _)
   | (with_reducible refine LeO.ite ?_ ?_)
   | (with_reducible refine LeO.bind ?_ (fun _ => ?_))
   | exact tariff_force.mono _ _ _ _ _
   | exact tariff_right.mono _ _ _
   | exact LeO.none _
   | refine LeO.ite ?_ ?_
   | refine LeO.bind ?_ (fun _ => ?_)
set_option maxHeartbeats 8000000 in
set_option maxRecDepth 100000 in
theorem tariff_At.calls (k : Nat) (a0_0 : Int) (A0_1 : Option Addr) (c0_1 : Nat) (l0_1 : List (S60)) (a1 : Int) (a2 : Int) (r1 : Int) (r2 : Int) (r3 : Int) (r4 : Int) (w : World) (hr0_1 : Kd.C k60 w A0_1 l0_1.length l0_1) (hc0_1 : l0_1.length ≤ c0_1) (h : tariff_At.f k a0_0 l0_1 a1 a2 = some (r1, r2, r3, r4)) :
  Calls Try.prog 70 #[.agg #[.int .i64 a0_0, .slice A0_1 l0_1.length c0_1], .int .i64 a1, .int .i64 a2] w fun e w' => e = .returned (.tuple #[.agg #[.int .i64 r1, .int .i64 r2, .int .i64 r3], .int .i64 r4]) ∧ Below w.heap.size w w' := by
 have hu24 := Try.underlying24
 have hu60 := Try.underlying60
 have HR0_1 := Aside0.mk hr0_1
 have HC0_1 := Aside0.mk hc0_1
 clear hr0_1 hc0_1
 have HB := Aside0.mk (Below.refl w.heap.size w)
 have H : ((tariff_right.f k a0_0 l0_1).bind fun t172 => (if t172 = true then ((tariff_within.f a1 1 9).bind fun t173 => (if t173 = true then ((tariff_within.f a2 0 100000).bind fun t174 => (if t174 = true then ((tariff_force.f k a0_0 l0_1 a1 a2).bind fun bt175 => (if bt175.2.2.2 = true then (some (bt175.1, bt175.2.1, bt175.2.2.1, 0)) else (some (0, 0, 0, 7)))) else (some (0, 0, 0, 2)))) else (some (0, 0, 0, 2)))) else (some (0, 0, 0, 1)))) = some (r1, r2, r3, r4) := h
 clear h
 replace H := Option.bind_eq_some_iff.mp H
 obtain ⟨t172, A40, H⟩ := H
 replace H : (if t172 = true then ((tariff_within.f a1 1 9).bind fun t173 => (if t173 = true then ((tariff_within.f a2 0 100000).bind fun t174 => (if t174 = true then ((tariff_force.f k a0_0 l0_1 a1 a2).bind fun bt175 => (if bt175.2.2.2 = true then (some (bt175.1, bt175.2.1, bt175.2.2.1, 0)) else (some (0, 0, 0, 7)))) else (some (0, 0, 0, 2)))) else (some (0, 0, 0, 2)))) else (some (0, 0, 0, 1))) = some (r1, r2, r3, r4) := H
 have A4 := Aside0.mk A40
 clear A40
 by_cases c5 : t172 = true
 ·subst c5
  have H1 : ((tariff_within.f a1 1 9).bind fun t173 => (if t173 = true then ((tariff_within.f a2 0 100000).bind fun t174 => (if t174 = true then ((tariff_force.f k a0_0 l0_1 a1 a2).bind fun bt175 => (if bt175.2.2.2 = true then (some (bt175.1, bt175.2.1, bt175.2.2.1, 0)) else (some (0, 0, 0, 7)))) else (some (0, 0, 0, 2)))) else (some (0, 0, 0, 2)))) = some (r1, r2, r3, r4) := by rw [if_pos rfl] at H; exact H
  clear H
  have H := H1
  clear H1
  replace H := Option.bind_eq_some_iff.mp H
  obtain ⟨t173, A60, H⟩ := H
  replace H : (if t173 = true then ((tariff_within.f a2 0 100000).bind fun t174 => (if t174 = true then ((tariff_force.f k a0_0 l0_1 a1 a2).bind fun bt175 => (if bt175.2.2.2 = true then (some (bt175.1, bt175.2.1, bt175.2.2.1, 0)) else (some (0, 0, 0, 7)))) else (some (0, 0, 0, 2)))) else (some (0, 0, 0, 2))) = some (r1, r2, r3, r4) := H
  have A6 := Aside0.mk A60
  clear A60
  by_cases c7 : t173 = true
  ·subst c7
   have H1 : ((tariff_within.f a2 0 100000).bind fun t174 => (if t174 = true then ((tariff_force.f k a0_0 l0_1 a1 a2).bind fun bt175 => (if bt175.2.2.2 = true then (some (bt175.1, bt175.2.1, bt175.2.2.1, 0)) else (some (0, 0, 0, 7)))) else (some (0, 0, 0, 2)))) = some (r1, r2, r3, r4) := by rw [if_pos rfl] at H; exact H
   clear H
   have H := H1
   clear H1
   replace H := Option.bind_eq_some_iff.mp H
   obtain ⟨t174, A80, H⟩ := H
   replace H : (if t174 = true then ((tariff_force.f k a0_0 l0_1 a1 a2).bind fun bt175 => (if bt175.2.2.2 = true then (some (bt175.1, bt175.2.1, bt175.2.2.1, 0)) else (some (0, 0, 0, 7)))) else (some (0, 0, 0, 2))) = some (r1, r2, r3, r4) := H
   have A8 := Aside0.mk A80
   clear A80
   by_cases c9 : t174 = true
   ·subst c9
    have H1 : ((tariff_force.f k a0_0 l0_1 a1 a2).bind fun bt175 => (if bt175.2.2.2 = true then (some (bt175.1, bt175.2.1, bt175.2.2.1, 0)) else (some (0, 0, 0, 7)))) = some (r1, r2, r3, r4) := by rw [if_pos rfl] at H; exact H
    clear H
    have H := H1
    clear H1
    replace H := Option.bind_eq_some_iff.mp H
    obtain ⟨⟨t175, t176, t177, t178⟩, A100, H⟩ := H
    replace H : (if t178 = true then (some (t175, t176, t177, 0)) else (some (0, 0, 0, 7))) = some (r1, r2, r3, r4) := H
    have A10 := Aside0.mk A100
    clear A100
    by_cases c11 : t178 = true
    ·subst c11
     have H1 : (some (t175, t176, t177, 0)) = some (r1, r2, r3, r4) := by rw [if_pos rfl] at H; exact H
     clear H
     have H := H1
     clear H1
     simp only [Option.some.injEq, Prod.mk.injEq] at H
     obtain ⟨rfl, rfl, rfl, rfl⟩ := H
     go_enter Try.func70, Try.ntmps70
     go_wp2_with (first | ((with_reducible refine gqD (N := 3) rfl ?_); refine GS.bx (N := 3) (cs := #[.int .i64 a0_0, .slice A0_1 l0_1.length c0_1]) (t := 24) ?_; intro gb170 hg w12 hbox hb; have n0_ := Aside0.mk (lqT (GS.lB HB.out) hb); have n1_ := Aside0.mk (hbox); have n2_ := Aside0.mk ((by rw [hg]; exact (lqZ (GS.lB HB.out)) : w.heap.size ≤ gb170)); have n3_ := Aside0.mk ((by rw [hg]; exact (lqZ (GS.lB HB.out)) : w.heap.size ≤ gb170)); clear HB; have HB := n0_; have BK170 := n1_; have GW170 := n2_; have GE170 := n3_; clear n0_ n1_ n2_ n3_; clear hb hbox hg) | ((with_reducible refine gqD (N := 6) rfl ?_); refine GS.bx (N := 6) (cs := #[.int .i64 0, .int .i64 0, .int .i64 0]) (t := 60) ?_; intro gb171 hg w13 hbox hb; have n0_ := Aside0.mk (bqB (GS.bqX BK170.out) hb); have n1_ := Aside0.mk (lqT (GS.lB HB.out) hb); have n2_ := Aside0.mk (hbox); have n3_ := Aside0.mk ((by rw [hg]; exact (lqZ (GS.lB HB.out)) : w.heap.size ≤ gb171)); have n4_ := Aside0.mk ((by rw [hg]; exact (lqZ (GS.lB HB.out)) : w.heap.size ≤ gb171)); have n5_ := Aside0.mk ((by rw [hg]; exact Nat.ne_of_lt (blk_lt (GS.bqX BK170.out)) : gb170 ≠ gb171)); have n6_ := Aside0.mk ((by rw [hg]; exact Nat.ne_of_gt (blk_lt (GS.bqX BK170.out)) : gb171 ≠ gb170)); clear BK170; clear HB; have BK170 := n0_; have HB := n1_; have BK171 := n2_; have GW171 := n3_; have GE171 := n4_; have NB170_171 := n5_; have NB171_170 := n6_; clear n0_ n1_ n2_ n3_ n4_ n5_ n6_; clear hb hbox hg; have hnb14 := NB170_171.out; have hnc14 := NB171_170.out; obtain ⟨hcz15_0, hcz15_1, hfz15_0, hfz15_1⟩ := GS.c2 BK170.out) | ((with_reducible refine gqC (f := 69) rfl ?_); refine GS.gL (some 12) Try.func69 #[.agg #[.int .i64 a0_0, .slice A0_1 l0_1.length c0_1]] ?_; (with_reducible refine (tariff_right.calls k a0_0 _ _ l0_1 true _ ?side1 ?side2 A4.out).mono ?_); (case side1 => exact GS.rC (Kd.C_below HR0_1.out HB.out)); (case side2 => exact HC0_1.out); rintro e w16 ⟨rfl, hb⟩; refine ⟨_, rfl, ?_⟩; have n0_ := Aside0.mk (bqB (GS.bqX BK170.out) hb); have n1_ := Aside0.mk (bqB (GS.bqX BK171.out) hb); have n2_ := Aside0.mk (lqT (GS.lB HB.out) hb); clear BK170; clear BK171; clear HB; have BK170 := n0_; have BK171 := n1_; have HB := n2_; clear n0_ n1_ n2_; (try clear hb); (try clear hb2); (try clear hk); (try clear hi)) | ((with_reducible refine gqC (f := 58) rfl ?_); refine GS.gL (some 17) Try.func58 #[.int .i64 a1, .int .i64 1, .int .i64 9] ?_; (with_reducible refine (tariff_within.calls a1 1 9 true _ A6.out).mono ?_); rintro e w' ⟨rfl, ⟨nd, rfl⟩⟩; refine ⟨_, rfl, ?_⟩; (try (rw [drewN_self w16]; generalize hq_ : World.drewN w16 _ = w16; have n0_ : Aside0 (w16.heap[gb170]? = some (.cells #[.int .i64 a0_0, .slice A0_1 l0_1.length c0_1] 24 (0, 0))) := ⟨by rw [← hq_]; exact (GS.bqX BK170.out)⟩; have n1_ : Aside0 (w16.heap[gb171]? = some (.cells #[.int .i64 0, .int .i64 0, .int .i64 0] 60 (0, 0))) := ⟨by rw [← hq_]; exact (GS.bqX BK171.out)⟩; have n2_ : Aside0 (Below w.heap.size w w16) := ⟨by rw [← hq_]; exact (GS.lB HB.out)⟩; clear BK170 BK171 HB hq_; have BK170 := n0_; have BK171 := n1_; have HB := n2_; clear n0_ n1_ n2_))) | (go_at_call 58; (with_reducible refine (tariff_within.calls a2 0 100000 true _ A8.out).mono ?_); rintro e w' ⟨rfl, ⟨nd, rfl⟩⟩; (try (rw [drewN_self w16]; generalize hq_ : World.drewN w16 _ = w16; have n0_ : Aside0 (w16.heap[gb170]? = some (.cells #[.int .i64 a0_0, .slice A0_1 l0_1.length c0_1] 24 (0, 0))) := ⟨by rw [← hq_]; exact (GS.bqX BK170.out)⟩; have n1_ : Aside0 (w16.heap[gb171]? = some (.cells #[.int .i64 0, .int .i64 0, .int .i64 0] 60 (0, 0))) := ⟨by rw [← hq_]; exact (GS.bqX BK171.out)⟩; have n2_ : Aside0 (Below w.heap.size w w16) := ⟨by rw [← hq_]; exact (GS.lB HB.out)⟩; clear BK170 BK171 HB hq_; have BK170 := n0_; have BK171 := n1_; have HB := n2_; clear n0_ n1_ n2_)); obtain ⟨hcz17_0, hcz17_1, hfz17_0, hfz17_1⟩ := GS.c2 BK170.out) | ((with_reducible refine gqC (f := 68) rfl ?_); refine GS.gL (some 29) Try.func68 #[.agg #[.int .i64 a0_0, .slice A0_1 l0_1.length c0_1], .int .i64 a1, .int .i64 a2] ?_; (with_reducible refine (tariff_force.calls k a0_0 _ _ l0_1 a1 a2 t175 t176 t177 true _ ?side1 ?side2 A10.out).mono ?_); (case side1 => exact GS.rC (Kd.C_below HR0_1.out HB.out)); (case side2 => exact HC0_1.out); rintro e w18 ⟨rfl, hb⟩; refine ⟨_, rfl, ?_⟩; have n0_ := Aside0.mk (bqB (GS.bqX BK170.out) hb); have n1_ := Aside0.mk (bqB (GS.bqX BK171.out) hb); have n2_ := Aside0.mk (lqT (GS.lB HB.out) hb); clear BK170; clear BK171; clear HB; have BK170 := n0_; have BK171 := n1_; have HB := n2_; clear n0_ n1_ n2_; (try clear hb); (try clear hb2); (try clear hk); (try clear hi)) | ((with_reducible refine gqD (N := 8) rfl ?_); refine GS.bx (N := 8) (cs := #[.int .i64 0, .int .i64 0, .int .i64 0]) (t := 60) ?_; intro gb179 hg w19 hbox hb; have n0_ := Aside0.mk (bqB (GS.bqX BK170.out) hb); have n1_ := Aside0.mk (bqB (GS.bqX BK171.out) hb); have n2_ := Aside0.mk (lqT (GS.lB HB.out) hb); have n3_ := Aside0.mk (hbox); have n4_ := Aside0.mk ((by rw [hg]; exact (lqZ (GS.lB HB.out)) : w.heap.size ≤ gb179)); have n5_ := Aside0.mk ((by rw [hg]; exact (lqZ (GS.lB HB.out)) : w.heap.size ≤ gb179)); have n6_ := Aside0.mk ((by rw [hg]; exact Nat.ne_of_lt (blk_lt (GS.bqX BK170.out)) : gb170 ≠ gb179)); have n7_ := Aside0.mk ((by rw [hg]; exact Nat.ne_of_gt (blk_lt (GS.bqX BK170.out)) : gb179 ≠ gb170)); have n8_ := Aside0.mk ((by rw [hg]; exact Nat.ne_of_lt (blk_lt (GS.bqX BK171.out)) : gb171 ≠ gb179)); have n9_ := Aside0.mk ((by rw [hg]; exact Nat.ne_of_gt (blk_lt (GS.bqX BK171.out)) : gb179 ≠ gb171)); clear BK170; clear BK171; clear HB; have BK170 := n0_; have BK171 := n1_; have HB := n2_; have BK179 := n3_; have GW179 := n4_; have GE179 := n5_; have NB170_179 := n6_; have NB179_170 := n7_; have NB171_179 := n8_; have NB179_171 := n9_; clear n0_ n1_ n2_ n3_ n4_ n5_ n6_ n7_ n8_ n9_; clear hb hbox hg; have hnb20 := NB179_170.out; have hnc20 := NB170_179.out; have hnb21 := NB179_171.out; have hnc21 := NB171_179.out; obtain ⟨hcz22_0, hcz22_1, hcz22_2, hfz22_0, hfz22_1, hfz22_2⟩ := GS.c3 BK179.out; obtain ⟨hcz23_0, hcz23_1, hcz23_2, hfz23_0, hfz23_1, hfz23_2⟩ := GS.c3 BK171.out))
     refine bodyPost_ret (results_ct rfl _ _ gb171 60 #[.int .i64 t175, .int .i64 t176, .int .i64 t177] (0, 0) _ rfl (GS.bqZ BK171.out) Try.underlying60 rfl (by kernel_rfl)) rfl ?_
     exact ⟨by first | rfl | (simp [errW_none, errW_some] <;> rfl) | (simp [*, errW_none, errW_some] <;> rfl), GS.lB HB.out⟩
    ·replace c11 := Bool.eq_false_iff.mpr c11
     subst c11
     have H1 : (some (0, 0, 0, 7)) = some (r1, r2, r3, r4) := by rw [if_neg (show ¬ (false = true) by decide)] at H; exact H
     clear H
     have H := H1
     clear H1
     simp only [Option.some.injEq, Prod.mk.injEq] at H
     obtain ⟨rfl, rfl, rfl, rfl⟩ := H
     go_enter Try.func70, Try.ntmps70
     go_wp2_with (first | ((with_reducible refine gqD (N := 3) rfl ?_); refine GS.bx (N := 3) (cs := #[.int .i64 a0_0, .slice A0_1 l0_1.length c0_1]) (t := 24) ?_; intro gb170 hg w24 hbox hb; have n0_ := Aside0.mk (lqT (GS.lB HB.out) hb); have n1_ := Aside0.mk (hbox); have n2_ := Aside0.mk ((by rw [hg]; exact (lqZ (GS.lB HB.out)) : w.heap.size ≤ gb170)); have n3_ := Aside0.mk ((by rw [hg]; exact (lqZ (GS.lB HB.out)) : w.heap.size ≤ gb170)); clear HB; have HB := n0_; have BK170 := n1_; have GW170 := n2_; have GE170 := n3_; clear n0_ n1_ n2_ n3_; clear hb hbox hg) | ((with_reducible refine gqD (N := 6) rfl ?_); refine GS.bx (N := 6) (cs := #[.int .i64 0, .int .i64 0, .int .i64 0]) (t := 60) ?_; intro gb171 hg w25 hbox hb; have n0_ := Aside0.mk (bqB (GS.bqX BK170.out) hb); have n1_ := Aside0.mk (lqT (GS.lB HB.out) hb); have n2_ := Aside0.mk (hbox); have n3_ := Aside0.mk ((by rw [hg]; exact (lqZ (GS.lB HB.out)) : w.heap.size ≤ gb171)); have n4_ := Aside0.mk ((by rw [hg]; exact (lqZ (GS.lB HB.out)) : w.heap.size ≤ gb171)); have n5_ := Aside0.mk ((by rw [hg]; exact Nat.ne_of_lt (blk_lt (GS.bqX BK170.out)) : gb170 ≠ gb171)); have n6_ := Aside0.mk ((by rw [hg]; exact Nat.ne_of_gt (blk_lt (GS.bqX BK170.out)) : gb171 ≠ gb170)); clear BK170; clear HB; have BK170 := n0_; have HB := n1_; have BK171 := n2_; have GW171 := n3_; have GE171 := n4_; have NB170_171 := n5_; have NB171_170 := n6_; clear n0_ n1_ n2_ n3_ n4_ n5_ n6_; clear hb hbox hg; have hnb26 := NB170_171.out; have hnc26 := NB171_170.out; obtain ⟨hcz27_0, hcz27_1, hfz27_0, hfz27_1⟩ := GS.c2 BK170.out) | ((with_reducible refine gqC (f := 69) rfl ?_); refine GS.gL (some 12) Try.func69 #[.agg #[.int .i64 a0_0, .slice A0_1 l0_1.length c0_1]] ?_; (with_reducible refine (tariff_right.calls k a0_0 _ _ l0_1 true _ ?side1 ?side2 A4.out).mono ?_); (case side1 => exact GS.rC (Kd.C_below HR0_1.out HB.out)); (case side2 => exact HC0_1.out); rintro e w28 ⟨rfl, hb⟩; refine ⟨_, rfl, ?_⟩; have n0_ := Aside0.mk (bqB (GS.bqX BK170.out) hb); have n1_ := Aside0.mk (bqB (GS.bqX BK171.out) hb); have n2_ := Aside0.mk (lqT (GS.lB HB.out) hb); clear BK170; clear BK171; clear HB; have BK170 := n0_; have BK171 := n1_; have HB := n2_; clear n0_ n1_ n2_; (try clear hb); (try clear hb2); (try clear hk); (try clear hi)) | ((with_reducible refine gqC (f := 58) rfl ?_); refine GS.gL (some 17) Try.func58 #[.int .i64 a1, .int .i64 1, .int .i64 9] ?_; (with_reducible refine (tariff_within.calls a1 1 9 true _ A6.out).mono ?_); rintro e w' ⟨rfl, ⟨nd, rfl⟩⟩; refine ⟨_, rfl, ?_⟩; (try (rw [drewN_self w28]; generalize hq_ : World.drewN w28 _ = w28; have n0_ : Aside0 (w28.heap[gb170]? = some (.cells #[.int .i64 a0_0, .slice A0_1 l0_1.length c0_1] 24 (0, 0))) := ⟨by rw [← hq_]; exact (GS.bqX BK170.out)⟩; have n1_ : Aside0 (w28.heap[gb171]? = some (.cells #[.int .i64 0, .int .i64 0, .int .i64 0] 60 (0, 0))) := ⟨by rw [← hq_]; exact (GS.bqX BK171.out)⟩; have n2_ : Aside0 (Below w.heap.size w w28) := ⟨by rw [← hq_]; exact (GS.lB HB.out)⟩; clear BK170 BK171 HB hq_; have BK170 := n0_; have BK171 := n1_; have HB := n2_; clear n0_ n1_ n2_))) | (go_at_call 58; (with_reducible refine (tariff_within.calls a2 0 100000 true _ A8.out).mono ?_); rintro e w' ⟨rfl, ⟨nd, rfl⟩⟩; (try (rw [drewN_self w28]; generalize hq_ : World.drewN w28 _ = w28; have n0_ : Aside0 (w28.heap[gb170]? = some (.cells #[.int .i64 a0_0, .slice A0_1 l0_1.length c0_1] 24 (0, 0))) := ⟨by rw [← hq_]; exact (GS.bqX BK170.out)⟩; have n1_ : Aside0 (w28.heap[gb171]? = some (.cells #[.int .i64 0, .int .i64 0, .int .i64 0] 60 (0, 0))) := ⟨by rw [← hq_]; exact (GS.bqX BK171.out)⟩; have n2_ : Aside0 (Below w.heap.size w w28) := ⟨by rw [← hq_]; exact (GS.lB HB.out)⟩; clear BK170 BK171 HB hq_; have BK170 := n0_; have BK171 := n1_; have HB := n2_; clear n0_ n1_ n2_)); obtain ⟨hcz29_0, hcz29_1, hfz29_0, hfz29_1⟩ := GS.c2 BK170.out) | ((with_reducible refine gqC (f := 68) rfl ?_); refine GS.gL (some 29) Try.func68 #[.agg #[.int .i64 a0_0, .slice A0_1 l0_1.length c0_1], .int .i64 a1, .int .i64 a2] ?_; (with_reducible refine (tariff_force.calls k a0_0 _ _ l0_1 a1 a2 t175 t176 t177 false _ ?side1 ?side2 A10.out).mono ?_); (case side1 => exact GS.rC (Kd.C_below HR0_1.out HB.out)); (case side2 => exact HC0_1.out); rintro e w30 ⟨rfl, hb⟩; refine ⟨_, rfl, ?_⟩; have n0_ := Aside0.mk (bqB (GS.bqX BK170.out) hb); have n1_ := Aside0.mk (bqB (GS.bqX BK171.out) hb); have n2_ := Aside0.mk (lqT (GS.lB HB.out) hb); clear BK170; clear BK171; clear HB; have BK170 := n0_; have BK171 := n1_; have HB := n2_; clear n0_ n1_ n2_; (try clear hb); (try clear hb2); (try clear hk); (try clear hi)) | ((with_reducible refine gqD (N := 8) rfl ?_); refine GS.bx (N := 8) (cs := #[.int .i64 0, .int .i64 0, .int .i64 0]) (t := 60) ?_; intro gb179 hg w31 hbox hb; have n0_ := Aside0.mk (bqB (GS.bqX BK170.out) hb); have n1_ := Aside0.mk (bqB (GS.bqX BK171.out) hb); have n2_ := Aside0.mk (lqT (GS.lB HB.out) hb); have n3_ := Aside0.mk (hbox); have n4_ := Aside0.mk ((by rw [hg]; exact (lqZ (GS.lB HB.out)) : w.heap.size ≤ gb179)); have n5_ := Aside0.mk ((by rw [hg]; exact (lqZ (GS.lB HB.out)) : w.heap.size ≤ gb179)); have n6_ := Aside0.mk ((by rw [hg]; exact Nat.ne_of_lt (blk_lt (GS.bqX BK170.out)) : gb170 ≠ gb179)); have n7_ := Aside0.mk ((by rw [hg]; exact Nat.ne_of_gt (blk_lt (GS.bqX BK170.out)) : gb179 ≠ gb170)); have n8_ := Aside0.mk ((by rw [hg]; exact Nat.ne_of_lt (blk_lt (GS.bqX BK171.out)) : gb171 ≠ gb179)); have n9_ := Aside0.mk ((by rw [hg]; exact Nat.ne_of_gt (blk_lt (GS.bqX BK171.out)) : gb179 ≠ gb171)); clear BK170; clear BK171; clear HB; have BK170 := n0_; have BK171 := n1_; have HB := n2_; have BK179 := n3_; have GW179 := n4_; have GE179 := n5_; have NB170_179 := n6_; have NB179_170 := n7_; have NB171_179 := n8_; have NB179_171 := n9_; clear n0_ n1_ n2_ n3_ n4_ n5_ n6_ n7_ n8_ n9_; clear hb hbox hg; have hnb32 := NB179_170.out; have hnc32 := NB170_179.out; have hnb33 := NB179_171.out; have hnc33 := NB171_179.out; obtain ⟨hcz34_0, hcz34_1, hcz34_2, hfz34_0, hfz34_1, hfz34_2⟩ := GS.c3 BK179.out; obtain ⟨hcz35_0, hcz35_1, hcz35_2, hfz35_0, hfz35_1, hfz35_2⟩ := GS.c3 BK171.out))
     refine bodyPost_ret (results_ct rfl _ _ gb171 60 #[.int .i64 0, .int .i64 0, .int .i64 0] (0, 0) _ rfl (GS.bqZ BK171.out) Try.underlying60 rfl (by kernel_rfl)) rfl ?_
     exact ⟨by first | rfl | (simp [errW_none, errW_some] <;> rfl) | (simp [*, errW_none, errW_some] <;> rfl), GS.lB HB.out⟩
   ·replace c9 := Bool.eq_false_iff.mpr c9
    subst c9
    have H1 : (some (0, 0, 0, 2)) = some (r1, r2, r3, r4) := by rw [if_neg (show ¬ (false = true) by decide)] at H; exact H
    clear H
    have H := H1
    clear H1
    simp only [Option.some.injEq, Prod.mk.injEq] at H
    obtain ⟨rfl, rfl, rfl, rfl⟩ := H
    go_enter Try.func70, Try.ntmps70
    go_wp2_with (first | ((with_reducible refine gqD (N := 3) rfl ?_); refine GS.bx (N := 3) (cs := #[.int .i64 a0_0, .slice A0_1 l0_1.length c0_1]) (t := 24) ?_; intro gb170 hg w36 hbox hb; have n0_ := Aside0.mk (lqT (GS.lB HB.out) hb); have n1_ := Aside0.mk (hbox); have n2_ := Aside0.mk ((by rw [hg]; exact (lqZ (GS.lB HB.out)) : w.heap.size ≤ gb170)); have n3_ := Aside0.mk ((by rw [hg]; exact (lqZ (GS.lB HB.out)) : w.heap.size ≤ gb170)); clear HB; have HB := n0_; have BK170 := n1_; have GW170 := n2_; have GE170 := n3_; clear n0_ n1_ n2_ n3_; clear hb hbox hg) | ((with_reducible refine gqD (N := 6) rfl ?_); refine GS.bx (N := 6) (cs := #[.int .i64 0, .int .i64 0, .int .i64 0]) (t := 60) ?_; intro gb171 hg w37 hbox hb; have n0_ := Aside0.mk (bqB (GS.bqX BK170.out) hb); have n1_ := Aside0.mk (lqT (GS.lB HB.out) hb); have n2_ := Aside0.mk (hbox); have n3_ := Aside0.mk ((by rw [hg]; exact (lqZ (GS.lB HB.out)) : w.heap.size ≤ gb171)); have n4_ := Aside0.mk ((by rw [hg]; exact (lqZ (GS.lB HB.out)) : w.heap.size ≤ gb171)); have n5_ := Aside0.mk ((by rw [hg]; exact Nat.ne_of_lt (blk_lt (GS.bqX BK170.out)) : gb170 ≠ gb171)); have n6_ := Aside0.mk ((by rw [hg]; exact Nat.ne_of_gt (blk_lt (GS.bqX BK170.out)) : gb171 ≠ gb170)); clear BK170; clear HB; have BK170 := n0_; have HB := n1_; have BK171 := n2_; have GW171 := n3_; have GE171 := n4_; have NB170_171 := n5_; have NB171_170 := n6_; clear n0_ n1_ n2_ n3_ n4_ n5_ n6_; clear hb hbox hg; have hnb38 := NB170_171.out; have hnc38 := NB171_170.out; obtain ⟨hcz39_0, hcz39_1, hfz39_0, hfz39_1⟩ := GS.c2 BK170.out) | ((with_reducible refine gqC (f := 69) rfl ?_); refine GS.gL (some 12) Try.func69 #[.agg #[.int .i64 a0_0, .slice A0_1 l0_1.length c0_1]] ?_; (with_reducible refine (tariff_right.calls k a0_0 _ _ l0_1 true _ ?side1 ?side2 A4.out).mono ?_); (case side1 => exact GS.rC (Kd.C_below HR0_1.out HB.out)); (case side2 => exact HC0_1.out); rintro e w40 ⟨rfl, hb⟩; refine ⟨_, rfl, ?_⟩; have n0_ := Aside0.mk (bqB (GS.bqX BK170.out) hb); have n1_ := Aside0.mk (bqB (GS.bqX BK171.out) hb); have n2_ := Aside0.mk (lqT (GS.lB HB.out) hb); clear BK170; clear BK171; clear HB; have BK170 := n0_; have BK171 := n1_; have HB := n2_; clear n0_ n1_ n2_; (try clear hb); (try clear hb2); (try clear hk); (try clear hi)) | ((with_reducible refine gqC (f := 58) rfl ?_); refine GS.gL (some 17) Try.func58 #[.int .i64 a1, .int .i64 1, .int .i64 9] ?_; (with_reducible refine (tariff_within.calls a1 1 9 true _ A6.out).mono ?_); rintro e w' ⟨rfl, ⟨nd, rfl⟩⟩; refine ⟨_, rfl, ?_⟩; (try (rw [drewN_self w40]; generalize hq_ : World.drewN w40 _ = w40; have n0_ : Aside0 (w40.heap[gb170]? = some (.cells #[.int .i64 a0_0, .slice A0_1 l0_1.length c0_1] 24 (0, 0))) := ⟨by rw [← hq_]; exact (GS.bqX BK170.out)⟩; have n1_ : Aside0 (w40.heap[gb171]? = some (.cells #[.int .i64 0, .int .i64 0, .int .i64 0] 60 (0, 0))) := ⟨by rw [← hq_]; exact (GS.bqX BK171.out)⟩; have n2_ : Aside0 (Below w.heap.size w w40) := ⟨by rw [← hq_]; exact (GS.lB HB.out)⟩; clear BK170 BK171 HB hq_; have BK170 := n0_; have BK171 := n1_; have HB := n2_; clear n0_ n1_ n2_))) | (go_at_call 58; (with_reducible refine (tariff_within.calls a2 0 100000 false _ A8.out).mono ?_); rintro e w' ⟨rfl, ⟨nd, rfl⟩⟩; (try (rw [drewN_self w40]; generalize hq_ : World.drewN w40 _ = w40; have n0_ : Aside0 (w40.heap[gb170]? = some (.cells #[.int .i64 a0_0, .slice A0_1 l0_1.length c0_1] 24 (0, 0))) := ⟨by rw [← hq_]; exact (GS.bqX BK170.out)⟩; have n1_ : Aside0 (w40.heap[gb171]? = some (.cells #[.int .i64 0, .int .i64 0, .int .i64 0] 60 (0, 0))) := ⟨by rw [← hq_]; exact (GS.bqX BK171.out)⟩; have n2_ : Aside0 (Below w.heap.size w w40) := ⟨by rw [← hq_]; exact (GS.lB HB.out)⟩; clear BK170 BK171 HB hq_; have BK170 := n0_; have BK171 := n1_; have HB := n2_; clear n0_ n1_ n2_)); obtain ⟨hcz41_0, hcz41_1, hcz41_2, hfz41_0, hfz41_1, hfz41_2⟩ := GS.c3 BK171.out))
    refine bodyPost_ret (results_ct rfl _ _ gb171 60 #[.int .i64 0, .int .i64 0, .int .i64 0] (0, 0) _ rfl (GS.bqZ BK171.out) Try.underlying60 rfl (by kernel_rfl)) rfl ?_
    exact ⟨by first | rfl | (simp [errW_none, errW_some] <;> rfl) | (simp [*, errW_none, errW_some] <;> rfl), GS.lB HB.out⟩
  ·replace c7 := Bool.eq_false_iff.mpr c7
   subst c7
   have H1 : (some (0, 0, 0, 2)) = some (r1, r2, r3, r4) := by rw [if_neg (show ¬ (false = true) by decide)] at H; exact H
   clear H
   have H := H1
   clear H1
   simp only [Option.some.injEq, Prod.mk.injEq] at H
   obtain ⟨rfl, rfl, rfl, rfl⟩ := H
   go_enter Try.func70, Try.ntmps70
   go_wp2_with (first | ((with_reducible refine gqD (N := 3) rfl ?_); refine GS.bx (N := 3) (cs := #[.int .i64 a0_0, .slice A0_1 l0_1.length c0_1]) (t := 24) ?_; intro gb170 hg w42 hbox hb; have n0_ := Aside0.mk (lqT (GS.lB HB.out) hb); have n1_ := Aside0.mk (hbox); have n2_ := Aside0.mk ((by rw [hg]; exact (lqZ (GS.lB HB.out)) : w.heap.size ≤ gb170)); have n3_ := Aside0.mk ((by rw [hg]; exact (lqZ (GS.lB HB.out)) : w.heap.size ≤ gb170)); clear HB; have HB := n0_; have BK170 := n1_; have GW170 := n2_; have GE170 := n3_; clear n0_ n1_ n2_ n3_; clear hb hbox hg) | ((with_reducible refine gqD (N := 6) rfl ?_); refine GS.bx (N := 6) (cs := #[.int .i64 0, .int .i64 0, .int .i64 0]) (t := 60) ?_; intro gb171 hg w43 hbox hb; have n0_ := Aside0.mk (bqB (GS.bqX BK170.out) hb); have n1_ := Aside0.mk (lqT (GS.lB HB.out) hb); have n2_ := Aside0.mk (hbox); have n3_ := Aside0.mk ((by rw [hg]; exact (lqZ (GS.lB HB.out)) : w.heap.size ≤ gb171)); have n4_ := Aside0.mk ((by rw [hg]; exact (lqZ (GS.lB HB.out)) : w.heap.size ≤ gb171)); have n5_ := Aside0.mk ((by rw [hg]; exact Nat.ne_of_lt (blk_lt (GS.bqX BK170.out)) : gb170 ≠ gb171)); have n6_ := Aside0.mk ((by rw [hg]; exact Nat.ne_of_gt (blk_lt (GS.bqX BK170.out)) : gb171 ≠ gb170)); clear BK170; clear HB; have BK170 := n0_; have HB := n1_; have BK171 := n2_; have GW171 := n3_; have GE171 := n4_; have NB170_171 := n5_; have NB171_170 := n6_; clear n0_ n1_ n2_ n3_ n4_ n5_ n6_; clear hb hbox hg; have hnb44 := NB170_171.out; have hnc44 := NB171_170.out; obtain ⟨hcz45_0, hcz45_1, hfz45_0, hfz45_1⟩ := GS.c2 BK170.out) | ((with_reducible refine gqC (f := 69) rfl ?_); refine GS.gL (some 12) Try.func69 #[.agg #[.int .i64 a0_0, .slice A0_1 l0_1.length c0_1]] ?_; (with_reducible refine (tariff_right.calls k a0_0 _ _ l0_1 true _ ?side1 ?side2 A4.out).mono ?_); (case side1 => exact GS.rC (Kd.C_below HR0_1.out HB.out)); (case side2 => exact HC0_1.out); rintro e w46 ⟨rfl, hb⟩; refine ⟨_, rfl, ?_⟩; have n0_ := Aside0.mk (bqB (GS.bqX BK170.out) hb); have n1_ := Aside0.mk (bqB (GS.bqX BK171.out) hb); have n2_ := Aside0.mk (lqT (GS.lB HB.out) hb); clear BK170; clear BK171; clear HB; have BK170 := n0_; have BK171 := n1_; have HB := n2_; clear n0_ n1_ n2_; (try clear hb); (try clear hb2); (try clear hk); (try clear hi)) | ((with_reducible refine gqC (f := 58) rfl ?_); refine GS.gL (some 17) Try.func58 #[.int .i64 a1, .int .i64 1, .int .i64 9] ?_; (with_reducible refine (tariff_within.calls a1 1 9 false _ A6.out).mono ?_); rintro e w' ⟨rfl, ⟨nd, rfl⟩⟩; refine ⟨_, rfl, ?_⟩; (try (rw [drewN_self w46]; generalize hq_ : World.drewN w46 _ = w46; have n0_ : Aside0 (w46.heap[gb170]? = some (.cells #[.int .i64 a0_0, .slice A0_1 l0_1.length c0_1] 24 (0, 0))) := ⟨by rw [← hq_]; exact (GS.bqX BK170.out)⟩; have n1_ : Aside0 (w46.heap[gb171]? = some (.cells #[.int .i64 0, .int .i64 0, .int .i64 0] 60 (0, 0))) := ⟨by rw [← hq_]; exact (GS.bqX BK171.out)⟩; have n2_ : Aside0 (Below w.heap.size w w46) := ⟨by rw [← hq_]; exact (GS.lB HB.out)⟩; clear BK170 BK171 HB hq_; have BK170 := n0_; have BK171 := n1_; have HB := n2_; clear n0_ n1_ n2_)); obtain ⟨hcz47_0, hcz47_1, hcz47_2, hfz47_0, hfz47_1, hfz47_2⟩ := GS.c3 BK171.out))
   refine bodyPost_ret (results_ct rfl _ _ gb171 60 #[.int .i64 0, .int .i64 0, .int .i64 0] (0, 0) _ rfl (GS.bqZ BK171.out) Try.underlying60 rfl (by kernel_rfl)) rfl ?_
   exact ⟨by first | rfl | (simp [errW_none, errW_some] <;> rfl) | (simp [*, errW_none, errW_some] <;> rfl), GS.lB HB.out⟩
 ·replace c5 := Bool.eq_false_iff.mpr c5
  subst c5
  have H1 : (some (0, 0, 0, 1)) = some (r1, r2, r3, r4) := by rw [if_neg (show ¬ (false = true) by decide)] at H; exact H
  clear H
  have H := H1
  clear H1
  simp only [Option.some.injEq, Prod.mk.injEq] at H
  obtain ⟨rfl, rfl, rfl, rfl⟩ := H
  go_enter Try.func70, Try.ntmps70
  go_wp2_with (first | ((with_reducible refine gqD (N := 3) rfl ?_); refine GS.bx (N := 3) (cs := #[.int .i64 a0_0, .slice A0_1 l0_1.length c0_1]) (t := 24) ?_; intro gb170 hg w48 hbox hb; have n0_ := Aside0.mk (lqT (GS.lB HB.out) hb); have n1_ := Aside0.mk (hbox); have n2_ := Aside0.mk ((by rw [hg]; exact (lqZ (GS.lB HB.out)) : w.heap.size ≤ gb170)); have n3_ := Aside0.mk ((by rw [hg]; exact (lqZ (GS.lB HB.out)) : w.heap.size ≤ gb170)); clear HB; have HB := n0_; have BK170 := n1_; have GW170 := n2_; have GE170 := n3_; clear n0_ n1_ n2_ n3_; clear hb hbox hg) | ((with_reducible refine gqD (N := 6) rfl ?_); refine GS.bx (N := 6) (cs := #[.int .i64 0, .int .i64 0, .int .i64 0]) (t := 60) ?_; intro gb171 hg w49 hbox hb; have n0_ := Aside0.mk (bqB (GS.bqX BK170.out) hb); have n1_ := Aside0.mk (lqT (GS.lB HB.out) hb); have n2_ := Aside0.mk (hbox); have n3_ := Aside0.mk ((by rw [hg]; exact (lqZ (GS.lB HB.out)) : w.heap.size ≤ gb171)); have n4_ := Aside0.mk ((by rw [hg]; exact (lqZ (GS.lB HB.out)) : w.heap.size ≤ gb171)); have n5_ := Aside0.mk ((by rw [hg]; exact Nat.ne_of_lt (blk_lt (GS.bqX BK170.out)) : gb170 ≠ gb171)); have n6_ := Aside0.mk ((by rw [hg]; exact Nat.ne_of_gt (blk_lt (GS.bqX BK170.out)) : gb171 ≠ gb170)); clear BK170; clear HB; have BK170 := n0_; have HB := n1_; have BK171 := n2_; have GW171 := n3_; have GE171 := n4_; have NB170_171 := n5_; have NB171_170 := n6_; clear n0_ n1_ n2_ n3_ n4_ n5_ n6_; clear hb hbox hg; have hnb50 := NB170_171.out; have hnc50 := NB171_170.out; obtain ⟨hcz51_0, hcz51_1, hfz51_0, hfz51_1⟩ := GS.c2 BK170.out) | ((with_reducible refine gqC (f := 69) rfl ?_); refine GS.gL (some 12) Try.func69 #[.agg #[.int .i64 a0_0, .slice A0_1 l0_1.length c0_1]] ?_; (with_reducible refine (tariff_right.calls k a0_0 _ _ l0_1 false _ ?side1 ?side2 A4.out).mono ?_); (case side1 => exact GS.rC (Kd.C_below HR0_1.out HB.out)); (case side2 => exact HC0_1.out); rintro e w52 ⟨rfl, hb⟩; refine ⟨_, rfl, ?_⟩; have n0_ := Aside0.mk (bqB (GS.bqX BK170.out) hb); have n1_ := Aside0.mk (bqB (GS.bqX BK171.out) hb); have n2_ := Aside0.mk (lqT (GS.lB HB.out) hb); clear BK170; clear BK171; clear HB; have BK170 := n0_; have BK171 := n1_; have HB := n2_; clear n0_ n1_ n2_; (try clear hb); (try clear hb2); (try clear hk); (try clear hi); obtain ⟨hcz53_0, hcz53_1, hcz53_2, hfz53_0, hfz53_1, hfz53_2⟩ := GS.c3 BK171.out))
  refine bodyPost_ret (results_ct rfl _ _ gb171 60 #[.int .i64 0, .int .i64 0, .int .i64 0] (0, 0) _ rfl (GS.bqZ BK171.out) Try.underlying60 rfl (by kernel_rfl)) rfl ?_
  exact ⟨by first | rfl | (simp [errW_none, errW_some] <;> rfl) | (simp [*, errW_none, errW_some] <;> rfl), GS.lB HB.out⟩

/-! ### tariff_rounded: function 71 -/
def tariff_rounded.j0 : Nat → Int → Bool → Option (Int)
 | 0, _, _ => none
 | k + 1, x5, x7 => if x7 = true then (some (wrap64 (IntKind.u64.wrap (x5 + 1)))) else (some (wrap64 (x5)))
def tariff_rounded.f (k : Nat) (a0 : Int) (a1 : Int) : Option (Int) := if a1 = 2 then (tariff_rounded.j0 k (IntKind.u64.wrap (Int.tdiv a0 10000000)) (decide ((Int.tmod a0 10000000) > 0))) else (if a1 = 3 then (tariff_rounded.j0 k (IntKind.u64.wrap (Int.tdiv a0 10000000)) (decide ((IntKind.u64.wrap (2 * (Int.tmod a0 10000000))) ≥ 10000000))) else (if a1 = 4 then (if (IntKind.u64.wrap (2 * (Int.tmod a0 10000000))) > 10000000 then (tariff_rounded.j0 k (IntKind.u64.wrap (Int.tdiv a0 10000000)) true) else (if (IntKind.u64.wrap (2 * (Int.tmod a0 10000000))) = 10000000 then (tariff_rounded.j0 k (IntKind.u64.wrap (Int.tdiv a0 10000000)) ((Int.tmod (IntKind.u64.wrap (Int.tdiv a0 10000000)) 2) == 1)) else (tariff_rounded.j0 k (IntKind.u64.wrap (Int.tdiv a0 10000000)) false))) else (tariff_rounded.j0 k (IntKind.u64.wrap (Int.tdiv a0 10000000)) false)))
theorem tariff_rounded.mono_l : ∀ k, (∀ y0 y1, LeO (tariff_rounded.j0 k y0 y1) (tariff_rounded.j0 (k + 1) y0 y1))
 | 0 => fun _ _ r h => by simp [tariff_rounded.j0] at h
 | k + 1 => by
  have ih0 := tariff_rounded.mono_l k
  ·intro y0 y1
   unfold tariff_rounded.j0
   repeat' first
   | (with_reducible exact ih0 _ _)
   | (with_reducible exact LeO.refl _)
   | (with_reducible exact LeO.none _)
   | (with_reducible refine LeO.ite ?_ ?_)
   | (with_reducible refine LeO.bind ?_ (fun _ => ?_))
   | exact ih0 _ _
   | exact LeO.none _
   | refine LeO.ite ?_ ?_
   | refine LeO.bind ?_ (fun _ => ?_)
theorem tariff_rounded.mono : ∀ a0 a1 k, LeO (tariff_rounded.f k a0 a1) (tariff_rounded.f (k + 1) a0 a1) := by
 intro a0 a1 k
 have ih0 := tariff_rounded.mono_l k
 unfold tariff_rounded.f
 repeat' first
   | (with_reducible exact ih0 _ _)
   | (with_reducible exact LeO.refl _)
   | (with_reducible exact LeO.none _)
   | (with_reducible refine LeO.ite ?_ ?_)
   | (with_reducible refine LeO.bind ?_ (fun _ => ?_))
   | exact ih0 _ _
   | exact LeO.none _
   | refine LeO.ite ?_ ?_
   | refine LeO.bind ?_ (fun _ => ?_)
set_option maxHeartbeats 8000000 in
set_option maxRecDepth 100000 in
theorem tariff_rounded.calls (k : Nat) (a0 : Int) (a1 : Int) (r : Int) (w : World) (h : tariff_rounded.f k a0 a1 = some r) :
  Calls Try.prog 71 #[.int .u64 a0, .int .i64 a1] w fun e w' => e = .returned (.int .i64 r) ∧ Drawn0 w w' := by
 have H : (if a1 = 2 then (tariff_rounded.j0 k (IntKind.u64.wrap (Int.tdiv a0 10000000)) (decide ((Int.tmod a0 10000000) > 0))) else (if a1 = 3 then (tariff_rounded.j0 k (IntKind.u64.wrap (Int.tdiv a0 10000000)) (decide ((IntKind.u64.wrap (2 * (Int.tmod a0 10000000))) ≥ 10000000))) else (if a1 = 4 then (if (IntKind.u64.wrap (2 * (Int.tmod a0 10000000))) > 10000000 then (tariff_rounded.j0 k (IntKind.u64.wrap (Int.tdiv a0 10000000)) true) else (if (IntKind.u64.wrap (2 * (Int.tmod a0 10000000))) = 10000000 then (tariff_rounded.j0 k (IntKind.u64.wrap (Int.tdiv a0 10000000)) ((Int.tmod (IntKind.u64.wrap (Int.tdiv a0 10000000)) 2) == 1)) else (tariff_rounded.j0 k (IntKind.u64.wrap (Int.tdiv a0 10000000)) false))) else (tariff_rounded.j0 k (IntKind.u64.wrap (Int.tdiv a0 10000000)) false)))) = some r := h
 clear h
 have HC3 := Aside0.mk H
 clear H
 go_enter Try.func71, Try.ntmps71
 go_upto_block 0 with (fail)
 go_cut [7] (fun v7 wc => ∃ (kq : Nat) (x7_2 : Bool), v7 = .bool x7_2 ∧ Aside0 (tariff_rounded.j0 kq (IntKind.u64.wrap (Int.tdiv a0 10000000)) x7_2 = some r) ∧ Aside0 (kq ≤ k) ∧ Drawn0 w wc)
 case first =>
  have H := HC3.out
  clear HC3
  by_cases c4 : a1 = 2
  ·rw [if_pos c4] at H
   have c4b0 : (a1 == 2) = true := beq_iff_eq.mpr c4
   try simp only [beq_self_eq_true, Bool.not_true, Bool.false_or, Bool.true_and] at c4b0
   have c4b1 : (a1 != 2) = false := bne_eq_false_iff_eq.mpr c4
   clear c4
   (first | rw [c4b0] | (simp only [i64_w, i32_w]; rw [c4b0]) | skip)
   have H' := Aside0.mk H
   clear H
   go_wp2
   go_meet
   case rel => exact ⟨_, (decide ((Int.tmod a0 10000000) > 0)), (by first | rfl | (simp; done) | (simp [*]; done)), H', ⟨by first | omega | exact Nat.le_refl _⟩, by repeat (first | exact Drawn0.refl _ | apply Drawn0.step)⟩
  ·rw [if_neg c4] at H
   have c4b0 : (a1 == 2) = false := beq_eq_false_iff_ne.mpr c4
   try simp only [beq_self_eq_true, Bool.not_true, Bool.false_or, Bool.true_and] at c4b0
   have c4b1 : (a1 != 2) = true := bne_iff_ne.mpr c4
   (first | rw [c4b0] | (simp only [i64_w, i32_w]; rw [c4b0]) | skip)
   by_cases c5 : a1 = 3
   ·rw [if_pos c5] at H
    have c5b0 : (a1 == 3) = true := beq_iff_eq.mpr c5
    try simp only [beq_self_eq_true, Bool.not_true, Bool.false_or, Bool.true_and] at c5b0
    have c5b1 : (a1 != 3) = false := bne_eq_false_iff_eq.mpr c5
    clear c5
    have H' := Aside0.mk H
    clear H
    go_wp2
    go_meet
    case rel => exact ⟨_, (decide ((IntKind.u64.wrap (2 * (Int.tmod a0 10000000))) ≥ 10000000)), (by first | rfl | (simp; done) | (simp [*]; done)), H', ⟨by first | omega | exact Nat.le_refl _⟩, by repeat (first | exact Drawn0.refl _ | apply Drawn0.step)⟩
   ·rw [if_neg c5] at H
    have c5b0 : (a1 == 3) = false := beq_eq_false_iff_ne.mpr c5
    try simp only [beq_self_eq_true, Bool.not_true, Bool.false_or, Bool.true_and] at c5b0
    have c5b1 : (a1 != 3) = true := bne_iff_ne.mpr c5
    by_cases c6 : a1 = 4
    ·rw [if_pos c6] at H
     have c6b0 : (a1 == 4) = true := beq_iff_eq.mpr c6
     try simp only [beq_self_eq_true, Bool.not_true, Bool.false_or, Bool.true_and] at c6b0
     have c6b1 : (a1 != 4) = false := bne_eq_false_iff_eq.mpr c6
     clear c6
     by_cases c7 : (IntKind.u64.wrap (2 * (Int.tmod a0 10000000))) > 10000000
     ·rw [if_pos c7] at H
      have c7b0 : decide (10000000 < (IntKind.u64.wrap (2 * (Int.tmod a0 10000000)))) = true := decide_eq_true c7
      clear c7
      have H' := Aside0.mk H
      clear H
      go_wp2
      go_meet
      case rel => exact ⟨_, (true), (by first | rfl | (simp; done) | (simp [*]; done)), H', ⟨by first | omega | exact Nat.le_refl _⟩, by repeat (first | exact Drawn0.refl _ | apply Drawn0.step)⟩
     ·rw [if_neg c7] at H
      have c7b0 : decide (10000000 < (IntKind.u64.wrap (2 * (Int.tmod a0 10000000)))) = false := decide_eq_false c7
      clear c7
      by_cases c8 : (IntKind.u64.wrap (2 * (Int.tmod a0 10000000))) = 10000000
      ·rw [if_pos c8] at H
       have c8b0 : ((IntKind.u64.wrap (2 * (Int.tmod a0 10000000))) == 10000000) = true := beq_iff_eq.mpr c8
       try simp only [beq_self_eq_true, Bool.not_true, Bool.false_or, Bool.true_and] at c8b0
       have c8b1 : ((IntKind.u64.wrap (2 * (Int.tmod a0 10000000))) != 10000000) = false := bne_eq_false_iff_eq.mpr c8
       clear c8
       have H' := Aside0.mk H
       clear H
       go_wp2
       go_meet
       case rel => exact ⟨_, (((Int.tmod (IntKind.u64.wrap (Int.tdiv a0 10000000)) 2) == 1)), (by first | rfl | (simp; done) | (simp [*]; done)), H', ⟨by first | omega | exact Nat.le_refl _⟩, by repeat (first | exact Drawn0.refl _ | apply Drawn0.step)⟩
      ·rw [if_neg c8] at H
       have c8b0 : ((IntKind.u64.wrap (2 * (Int.tmod a0 10000000))) == 10000000) = false := beq_eq_false_iff_ne.mpr c8
       try simp only [beq_self_eq_true, Bool.not_true, Bool.false_or, Bool.true_and] at c8b0
       have c8b1 : ((IntKind.u64.wrap (2 * (Int.tmod a0 10000000))) != 10000000) = true := bne_iff_ne.mpr c8
       have H' := Aside0.mk H
       clear H
       go_wp2
       go_meet
       case rel => exact ⟨_, (false), (by first | rfl | (simp; done) | (simp [*]; done)), H', ⟨by first | omega | exact Nat.le_refl _⟩, by repeat (first | exact Drawn0.refl _ | apply Drawn0.step)⟩
    ·rw [if_neg c6] at H
     have c6b0 : (a1 == 4) = false := beq_eq_false_iff_ne.mpr c6
     try simp only [beq_self_eq_true, Bool.not_true, Bool.false_or, Bool.true_and] at c6b0
     have c6b1 : (a1 != 4) = true := bne_iff_ne.mpr c6
     have H' := Aside0.mk H
     clear H
     go_wp2
     go_meet
     case rel => exact ⟨_, (false), (by first | rfl | (simp; done) | (simp [*]; done)), H', ⟨by first | omega | exact Nat.le_refl _⟩, by repeat (first | exact Drawn0.refl _ | apply Drawn0.step)⟩
 case rest =>
  clear HC3
  try clear p2
  try clear c4
  try clear c4b0
  try clear c4b1
  try clear c5
  try clear c5b0
  try clear c5b1
  try clear c6
  try clear c6b0
  try clear c6b1
  try clear c7
  try clear c7b0
  try clear c8
  try clear c8b0
  try clear c8b1
  obtain ⟨kq, x7_2, rfl, HA, HJ2, ⟨mc2, rfl⟩⟩ := hcut
  cases kq with
  | zero => exact absurd HA.out (by simp [tariff_rounded.j0])
  | succ kj2 =>
   have H := HA.out
   clear HA
   simp only [tariff_rounded.j0] at H
   by_cases c9 : x7_2 = true
   ·subst c9
    have H1 : (some (wrap64 (IntKind.u64.wrap ((IntKind.u64.wrap (Int.tdiv a0 10000000)) + 1)))) = some r := by rw [if_pos rfl] at H; exact H
    clear H
    have H := H1
    clear H1
    obtain rfl := Option.some.inj H
    go_wp2
    go_ret
    exact ⟨by first | rfl | (simp; done) | (simp [*]; done), by repeat (first | exact Drawn0.refl _ | apply Drawn0.step)⟩
   ·replace c9 := Bool.eq_false_iff.mpr c9
    subst c9
    have H1 : (some (wrap64 ((IntKind.u64.wrap (Int.tdiv a0 10000000))))) = some r := by rw [if_neg (show ¬ (false = true) by decide)] at H; exact H
    clear H
    have H := H1
    clear H1
    obtain rfl := Option.some.inj H
    go_wp2
    go_ret
    exact ⟨by first | rfl | (simp; done) | (simp [*]; done), by repeat (first | exact Drawn0.refl _ | apply Drawn0.step)⟩

end Go.Proofs.Ythboaobgipodiaa.K
