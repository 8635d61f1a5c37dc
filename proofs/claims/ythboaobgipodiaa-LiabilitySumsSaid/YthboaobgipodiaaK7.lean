-- PRINTED by print.py (a twelfth state) out of the translation. Not trusted: Lean checks it.
import Derived.Test.YthboaobgipodiaaK0
import Derived.Test.YthboaobgipodiaaGPu
import Derived.Test.YthboaobgipodiaaGShort
import Derived.Test.YthboaobgipodiaaK3
import Derived.Test.YthboaobgipodiaaK5
import Derived.Test.YthboaobgipodiaaK6
import Derived.Test.YthboaobgipodiaaGClone
namespace Go.Proofs.Ythboaobgipodiaa.K
open Go.RowKit Go.Proofs.YthboaobgipodiaaW.PrintWords Go.Proofs.YthboaobgipodiaaW.PrintLast Go.Proofs.YthboaobgipodiaaW.PrintMore
attribute [local go_sem] max2_int min2_int max_two min_two max_three min_three max_four min_four   -- for this text's walks alone
set_option linter.unusedVariables false
set_option linter.unusedSimpArgs false

/-! ### tariff_Duty: function 56 -/
def tariff_Duty.j0 : Nat → Int → Int → Int → Bool → Int → List (S60) → Option (Int × Int)
 | 0, _, _, _, _, _, _ => none
 | k + 1, x1, x2, x3, x18, x181000, x181001 => if x18 = true then (some (0, 2)) else ((tariff_At.f k x181000 x181001 x1 x2).bind fun bt183 => (if bt183.2.2.2 = 0 then ((tariff_rounded.f k (IntKind.u64.wrap ((IntKind.u64.wrap (bt183.2.2.1)) * (IntKind.u64.wrap (x3)))) x181000).bind fun t188 => (some (t188, 0))) else (some (0, bt183.2.2.2))))
def tariff_Duty.f (k : Nat) (a0_0 : Int) (l0_1 : List (S60)) (a1 : Int) (a2 : Int) (a3 : Int) : Option (Int × Int) := (tariff_right.f k a0_0 l0_1).bind fun t181 => (if t181 = true then ((tariff_within.f a3 0 10737418240000).bind fun t182 => (tariff_Duty.j0 k a1 a2 a3 (!t182) a0_0 l0_1)) else (tariff_Duty.j0 k a1 a2 a3 false a0_0 l0_1))
theorem tariff_Duty.mono_l : ∀ k, (∀ y0 y1 y2 y3 y4 y5, LeO (tariff_Duty.j0 k y0 y1 y2 y3 y4 y5) (tariff_Duty.j0 (k + 1) y0 y1 y2 y3 y4 y5))
 | 0 => fun _ _ _ _ _ _ r h => by simp [tariff_Duty.j0] at h
 | k + 1 => by
  have ih0 := tariff_Duty.mono_l k
  ·intro y0 y1 y2 y3 y4 y5
   unfold tariff_Duty.j0
   repeat' first
   | (with_reducible exact ih0 _ _ _ _ _ _)
   | (with_reducible exact tariff_At.mono _ _ _ _ _)
   | (with_reducible exact tariff_right.mono _ _ _)
   | (with_reducible exact tariff_rounded.mono _ _ _)
   | (with_reducible exact LeO.refl _)
   | (with_reducible exact LeO.none _)
   | (with_reducible refine LeO.ite ?_ ?_)
   | (with_reducible refine LeO.bind ?_ (fun _ => ?_))
   | exact ih0 _ _ _ _ _ _
   | exact tariff_At.mono _ _ _ _ _
   | exact tariff_right.mono _ _ _
   | exact tariff_rounded.mono _ _ _
   | exact LeO.none _
   | refine LeO.ite ?_ ?_
   | refine LeO.bind ?_ (fun _ => ?_)
theorem tariff_Duty.mono : ∀ a0 a1 a2 a3 a4 k, LeO (tariff_Duty.f k a0 a1 a2 a3 a4) (tariff_Duty.f (k + 1) a0 a1 a2 a3 a4) := by
 intro a0 a1 a2 a3 a4 k
 have ih0 := tariff_Duty.mono_l k
 unfold tariff_Duty.f
 repeat' first
   | (with_reducible exact ih0 _ _ _ _ _ _)
   | (with_reducible exact tariff_At.mono _ _ _ _ _)
   | (with_reducible exact tariff_right.mono _ _ _)
   | (with_reducible exact tariff_rounded.mono _ _ _)
   | (with_reducible exact LeO.refl _)
   | (with_reducible exact LeO.none _)
   | (with_reducible refine LeO.ite ?_ ?_)
   | (with_reducible refine LeO.bind ?_ (fun _ => ?_))
   | exact ih0 _ _ _ _ _ _
   | exact tariff_At.mono _ _ _ _ _
   | exact tariff_right.mono _ _ _
   | exact tariff_rounded.mono _ _ _
   | exact LeO.none _
   | refine LeO.ite ?_ ?_
   | refine LeO.bind ?_ (fun _ => ?_)
set_option maxHeartbeats 8000000 in
set_option maxRecDepth 100000 in
theorem tariff_Duty.calls (k : Nat) (a0_0 : Int) (A0_1 : Option Addr) (c0_1 : Nat) (l0_1 : List (S60)) (a1 : Int) (a2 : Int) (a3 : Int) (r1 : Int) (r2 : Int) (w : World) (hr0_1 : Kd.C k60 w A0_1 l0_1.length l0_1) (hc0_1 : l0_1.length ≤ c0_1) (h : tariff_Duty.f k a0_0 l0_1 a1 a2 a3 = some (r1, r2)) :
  Calls Try.prog 56 #[.agg #[.int .i64 a0_0, .slice A0_1 l0_1.length c0_1], .int .i64 a1, .int .i64 a2, .int .i64 a3] w fun e w' => e = .returned (.tuple #[.int .i64 r1, .int .i64 r2]) ∧ Below w.heap.size w w' := by
 have hu24 := Try.underlying24
 have hu60 := Try.underlying60
 have HR0_1 := Aside0.mk hr0_1
 have HC0_1 := Aside0.mk hc0_1
 clear hr0_1 hc0_1
 have HB := Aside0.mk (Below.refl w.heap.size w)
 have H : ((tariff_right.f k a0_0 l0_1).bind fun t181 => (if t181 = true then ((tariff_within.f a3 0 10737418240000).bind fun t182 => (tariff_Duty.j0 k a1 a2 a3 (!t182) a0_0 l0_1)) else (tariff_Duty.j0 k a1 a2 a3 false a0_0 l0_1))) = some (r1, r2) := h
 clear h
 have HC5 := Aside0.mk H
 clear H
 go_enter Try.func56, Try.ntmps56
 go_upto_region 1 with (first | ((with_reducible refine gqD (N := 4) rfl ?_); refine GS.bx (N := 4) (cs := #[.int .i64 a0_0, .slice A0_1 l0_1.length c0_1]) (t := 24) ?_; intro gb180 hg w6 hbox hb; have n0_ := Aside0.mk (lqT (GS.lB HB.out) hb); have n1_ := Aside0.mk (hbox); have n2_ := Aside0.mk ((by rw [hg]; exact (lqZ (GS.lB HB.out)) : w.heap.size ≤ gb180)); have n3_ := Aside0.mk ((by rw [hg]; exact (lqZ (GS.lB HB.out)) : w.heap.size ≤ gb180)); clear HB; have HB := n0_; have BK180 := n1_; have GW180 := n2_; have GE180 := n3_; clear n0_ n1_ n2_ n3_; clear hb hbox hg))
 (try simp only [Act.put, List.setIfInBounds_toArray, List.set_cons_zero, List.set_cons_succ])
 go_cut [18] (fun v18 wc => ∃ (kq : Nat) (x18_4 : Bool), v18 = .bool x18_4 ∧ Aside0 (tariff_Duty.j0 kq a1 a2 a3 x18_4 a0_0 l0_1 = some (r1, r2)) ∧ Aside0 (kq ≤ k) ∧ Aside0 (wc.heap[gb180]? = some (.cells #[.int .i64 a0_0, (.slice A0_1 l0_1.length c0_1)] 24 (0, 0))) ∧ Aside0 (Below w.heap.size w wc))
 case first =>
  have H := HC5.out
  clear HC5
  replace H := Option.bind_eq_some_iff.mp H
  obtain ⟨t181, A70, H⟩ := H
  replace H : (if t181 = true then ((tariff_within.f a3 0 10737418240000).bind fun t182 => (tariff_Duty.j0 k a1 a2 a3 (!t182) a0_0 l0_1)) else (tariff_Duty.j0 k a1 a2 a3 false a0_0 l0_1)) = some (r1, r2) := H
  have A7 := Aside0.mk A70
  clear A70
  by_cases c8 : t181 = true
  ·subst c8
   have H1 : ((tariff_within.f a3 0 10737418240000).bind fun t182 => (tariff_Duty.j0 k a1 a2 a3 (!t182) a0_0 l0_1)) = some (r1, r2) := by rw [if_pos rfl] at H; exact H
   clear H
   have H := H1
   clear H1
   replace H := Option.bind_eq_some_iff.mp H
   obtain ⟨t182, A90, H⟩ := H
   replace H : (tariff_Duty.j0 k a1 a2 a3 (!t182) a0_0 l0_1) = some (r1, r2) := H
   have A9 := Aside0.mk A90
   clear A90
   have H' := Aside0.mk H
   clear H
   obtain ⟨hcz10_0, hcz10_1, hfz10_0, hfz10_1⟩ := GS.c2 BK180.out
   go_wp2_with (first | ((with_reducible refine gqC (f := 69) rfl ?_); refine GS.gL (some 13) Try.func69 #[.agg #[.int .i64 a0_0, .slice A0_1 l0_1.length c0_1]] ?_; (with_reducible refine (tariff_right.calls k a0_0 _ _ l0_1 true _ ?side1 ?side2 A7.out).mono ?_); (case side1 => exact GS.rC (Kd.C_below HR0_1.out HB.out)); (case side2 => exact HC0_1.out); rintro e w11 ⟨rfl, hb⟩; refine ⟨_, rfl, ?_⟩; have n0_ := Aside0.mk (bqB (GS.bqX BK180.out) hb); have n1_ := Aside0.mk (lqT (GS.lB HB.out) hb); clear BK180; clear HB; have BK180 := n0_; have HB := n1_; clear n0_ n1_; (try clear hb); (try clear hb2); (try clear hk); (try clear hi)) | (go_at_call 58; (with_reducible refine (tariff_within.calls a3 0 10737418240000 t182 _ A9.out).mono ?_); rintro e w' ⟨rfl, ⟨nd, rfl⟩⟩))
   go_meet
   case rel => exact ⟨_, (!t182), (by first | rfl | (simp; done) | (simp [*]; done)), H', ⟨by first | omega | exact Nat.le_refl _⟩, ⟨GS.bqX BK180.out⟩, ⟨GS.lB HB.out⟩⟩
  ·replace c8 := Bool.eq_false_iff.mpr c8
   subst c8
   have H1 : (tariff_Duty.j0 k a1 a2 a3 false a0_0 l0_1) = some (r1, r2) := by rw [if_neg (show ¬ (false = true) by decide)] at H; exact H
   clear H
   have H := H1
   clear H1
   have H' := Aside0.mk H
   clear H
   obtain ⟨hcz12_0, hcz12_1, hfz12_0, hfz12_1⟩ := GS.c2 BK180.out
   go_wp2_with (first | ((with_reducible refine gqC (f := 69) rfl ?_); refine GS.gL (some 13) Try.func69 #[.agg #[.int .i64 a0_0, .slice A0_1 l0_1.length c0_1]] ?_; (with_reducible refine (tariff_right.calls k a0_0 _ _ l0_1 false _ ?side1 ?side2 A7.out).mono ?_); (case side1 => exact GS.rC (Kd.C_below HR0_1.out HB.out)); (case side2 => exact HC0_1.out); rintro e w13 ⟨rfl, hb⟩; refine ⟨_, rfl, ?_⟩; have n0_ := Aside0.mk (bqB (GS.bqX BK180.out) hb); have n1_ := Aside0.mk (lqT (GS.lB HB.out) hb); clear BK180; clear HB; have BK180 := n0_; have HB := n1_; clear n0_ n1_; (try clear hb); (try clear hb2); (try clear hk); (try clear hi)))
   go_meet
   case rel => exact ⟨_, (false), (by first | rfl | (simp; done) | (simp [*]; done)), H', ⟨by first | omega | exact Nat.le_refl _⟩, ⟨GS.bqX BK180.out⟩, ⟨GS.lB HB.out⟩⟩
 case rest =>
  clear HC5
  try clear p2
  try clear c5
  try clear c6
  try clear c8
  try clear hcz10_0
  try clear hcz10_1
  try clear hcz12_0
  try clear hcz12_1
  try clear hfz10_0
  try clear hfz10_1
  try clear hfz12_0
  try clear hfz12_1
  obtain ⟨kq, x18_4, rfl, HA, HJ4, BK180, HB⟩ := hcut
  cases kq with
  | zero => exact absurd HA.out (by simp [tariff_Duty.j0])
  | succ kj4 =>
   have H := HA.out
   clear HA
   simp only [tariff_Duty.j0] at H
   by_cases c14 : x18_4 = true
   ·subst c14
    have H1 : (some (0, 2)) = some (r1, r2) := by rw [if_pos rfl] at H; exact H
    clear H
    have H := H1
    clear H1
    simp only [Option.some.injEq, Prod.mk.injEq] at H
    obtain ⟨rfl, rfl⟩ := H
    go_wp2
    go_ret2
    exact ⟨by first | rfl | (simp [errW_none, errW_some] <;> rfl) | (simp [*, errW_none, errW_some] <;> rfl), GS.lB HB.out⟩
   ·replace c14 := Bool.eq_false_iff.mpr c14
    subst c14
    have H1 : ((tariff_At.f kj4 a0_0 l0_1 a1 a2).bind fun bt183 => (if bt183.2.2.2 = 0 then ((tariff_rounded.f kj4 (IntKind.u64.wrap ((IntKind.u64.wrap (bt183.2.2.1)) * (IntKind.u64.wrap (a3)))) a0_0).bind fun t188 => (some (t188, 0))) else (some (0, bt183.2.2.2)))) = some (r1, r2) := by rw [if_neg (show ¬ (false = true) by decide)] at H; exact H
    clear H
    have H := H1
    clear H1
    replace H := Option.bind_eq_some_iff.mp H
    obtain ⟨⟨t183, t184, t185, t186⟩, A150, H⟩ := H
    replace H : (if t186 = 0 then ((tariff_rounded.f kj4 (IntKind.u64.wrap ((IntKind.u64.wrap (t185)) * (IntKind.u64.wrap (a3)))) a0_0).bind fun t188 => (some (t188, 0))) else (some (0, t186))) = some (r1, r2) := H
    have A15 := Aside0.mk A150
    clear A150
    by_cases c16 : t186 = 0
    ·rw [if_pos c16] at H
     have c16b0 : (t186 == 0) = true := beq_iff_eq.mpr c16
     try simp only [beq_self_eq_true, Bool.not_true, Bool.false_or, Bool.true_and] at c16b0
     have c16b1 : (t186 != 0) = false := bne_eq_false_iff_eq.mpr c16
     clear c16
     replace H := Option.bind_eq_some_iff.mp H
     obtain ⟨t188, A170, H⟩ := H
     replace H : (some (t188, 0)) = some (r1, r2) := H
     have A17 := Aside0.mk A170
     clear A170
     simp only [Option.some.injEq, Prod.mk.injEq] at H
     obtain ⟨rfl, rfl⟩ := H
     obtain ⟨hcz18_0, hcz18_1, hfz18_0, hfz18_1⟩ := GS.c2 BK180.out
     go_wp2_with (first | ((with_reducible refine gqC (f := 70) rfl ?_); refine GS.gL (some 23) Try.func70 #[.agg #[.int .i64 a0_0, .slice A0_1 l0_1.length c0_1], .int .i64 a1, .int .i64 a2] ?_; (with_reducible refine (tariff_At.calls kj4 a0_0 _ _ l0_1 a1 a2 t183 t184 t185 t186 _ ?side1 ?side2 A15.out).mono ?_); (case side1 => exact GS.rC (Kd.C_below HR0_1.out HB.out)); (case side2 => exact HC0_1.out); rintro e w19 ⟨rfl, hb⟩; refine ⟨_, rfl, ?_⟩; have n0_ := Aside0.mk (bqB (GS.bqX BK180.out) hb); have n1_ := Aside0.mk (lqT (GS.lB HB.out) hb); clear BK180; clear HB; have BK180 := n0_; have HB := n1_; clear n0_ n1_; (try clear hb); (try clear hb2); (try clear hk); (try clear hi)) | ((with_reducible refine gqD (N := 10) rfl ?_); refine GS.bx (N := 10) (cs := #[.int .i64 0, .int .i64 0, .int .i64 0]) (t := 60) ?_; intro gb187 hg w20 hbox hb; have n0_ := Aside0.mk (bqB (GS.bqX BK180.out) hb); have n1_ := Aside0.mk (lqT (GS.lB HB.out) hb); have n2_ := Aside0.mk (hbox); have n3_ := Aside0.mk ((by rw [hg]; exact (lqZ (GS.lB HB.out)) : w.heap.size ≤ gb187)); have n4_ := Aside0.mk ((by rw [hg]; exact (lqZ (GS.lB HB.out)) : w.heap.size ≤ gb187)); have n5_ := Aside0.mk ((by rw [hg]; exact Nat.ne_of_lt (blk_lt (GS.bqX BK180.out)) : gb180 ≠ gb187)); have n6_ := Aside0.mk ((by rw [hg]; exact Nat.ne_of_gt (blk_lt (GS.bqX BK180.out)) : gb187 ≠ gb180)); clear BK180; clear HB; have BK180 := n0_; have HB := n1_; have BK187 := n2_; have GW187 := n3_; have GE187 := n4_; have NB180_187 := n5_; have NB187_180 := n6_; clear n0_ n1_ n2_ n3_ n4_ n5_ n6_; clear hb hbox hg; have hnb21 := NB187_180.out; have hnc21 := NB180_187.out; obtain ⟨hcz22_0, hcz22_1, hcz22_2, hfz22_0, hfz22_1, hfz22_2⟩ := GS.c3 BK187.out; obtain ⟨hcz23_0, hcz23_1, hfz23_0, hfz23_1⟩ := GS.c2 BK180.out) | ((with_reducible refine gqC (f := 71) rfl ?_); refine GS.gL (some 37) Try.func71 #[.int .u64 (IntKind.u64.wrap ((IntKind.u64.wrap (t185)) * (IntKind.u64.wrap (a3)))), .int .i64 a0_0] ?_; (with_reducible refine (tariff_rounded.calls kj4 (IntKind.u64.wrap ((IntKind.u64.wrap (t185)) * (IntKind.u64.wrap (a3)))) a0_0 t188 _ A17.out).mono ?_); rintro e w' ⟨rfl, ⟨nd, rfl⟩⟩; refine ⟨_, rfl, ?_⟩))
     go_ret2
     exact ⟨by first | rfl | (simp [errW_none, errW_some] <;> rfl) | (simp [*, errW_none, errW_some] <;> rfl), GS.lB HB.out⟩
    ·rw [if_neg c16] at H
     have c16b0 : (t186 == 0) = false := beq_eq_false_iff_ne.mpr c16
     try simp only [beq_self_eq_true, Bool.not_true, Bool.false_or, Bool.true_and] at c16b0
     have c16b1 : (t186 != 0) = true := bne_iff_ne.mpr c16
     simp only [Option.some.injEq, Prod.mk.injEq] at H
     obtain ⟨rfl, rfl⟩ := H
     obtain ⟨hcz24_0, hcz24_1, hfz24_0, hfz24_1⟩ := GS.c2 BK180.out
     go_wp2_with (first | ((with_reducible refine gqC (f := 70) rfl ?_); refine GS.gL (some 23) Try.func70 #[.agg #[.int .i64 a0_0, .slice A0_1 l0_1.length c0_1], .int .i64 a1, .int .i64 a2] ?_; (with_reducible refine (tariff_At.calls kj4 a0_0 _ _ l0_1 a1 a2 t183 t184 t185 t186 _ ?side1 ?side2 A15.out).mono ?_); (case side1 => exact GS.rC (Kd.C_below HR0_1.out HB.out)); (case side2 => exact HC0_1.out); rintro e w25 ⟨rfl, hb⟩; refine ⟨_, rfl, ?_⟩; have n0_ := Aside0.mk (bqB (GS.bqX BK180.out) hb); have n1_ := Aside0.mk (lqT (GS.lB HB.out) hb); clear BK180; clear HB; have BK180 := n0_; have HB := n1_; clear n0_ n1_; (try clear hb); (try clear hb2); (try clear hk); (try clear hi)) | ((with_reducible refine gqD (N := 10) rfl ?_); refine GS.bx (N := 10) (cs := #[.int .i64 0, .int .i64 0, .int .i64 0]) (t := 60) ?_; intro gb187 hg w26 hbox hb; have n0_ := Aside0.mk (bqB (GS.bqX BK180.out) hb); have n1_ := Aside0.mk (lqT (GS.lB HB.out) hb); have n2_ := Aside0.mk (hbox); have n3_ := Aside0.mk ((by rw [hg]; exact (lqZ (GS.lB HB.out)) : w.heap.size ≤ gb187)); have n4_ := Aside0.mk ((by rw [hg]; exact (lqZ (GS.lB HB.out)) : w.heap.size ≤ gb187)); have n5_ := Aside0.mk ((by rw [hg]; exact Nat.ne_of_lt (blk_lt (GS.bqX BK180.out)) : gb180 ≠ gb187)); have n6_ := Aside0.mk ((by rw [hg]; exact Nat.ne_of_gt (blk_lt (GS.bqX BK180.out)) : gb187 ≠ gb180)); clear BK180; clear HB; have BK180 := n0_; have HB := n1_; have BK187 := n2_; have GW187 := n3_; have GE187 := n4_; have NB180_187 := n5_; have NB187_180 := n6_; clear n0_ n1_ n2_ n3_ n4_ n5_ n6_; clear hb hbox hg; have hnb27 := NB187_180.out; have hnc27 := NB180_187.out; obtain ⟨hcz28_0, hcz28_1, hcz28_2, hfz28_0, hfz28_1, hfz28_2⟩ := GS.c3 BK187.out))
     go_ret2
     exact ⟨by first | rfl | (simp [errW_none, errW_some] <;> rfl) | (simp [*, errW_none, errW_some] <;> rfl), GS.lB HB.out⟩

/-! ### liability_causes: function 40 -/
def liability_causes.f (k : Nat) (a0_0 : Int) (l0_1 : List (S60)) (a1_0 : Int) (a1_1 : Int) (a1_2 : Int) (a1_3 : Int) (a1_4 : Int) (a2_0 : Int) (a2_1 : Int) (a2_2 : Int) (a2_3 : Int) : Option (Int) := if a2_2 = 0 then (some 0) else ((tariff_Duty.f k a0_0 l0_1 a1_2 a2_3 a2_2).bind fun bt192 => (some bt192.1))
theorem liability_causes.mono : ∀ a0 a1 a2 a3 a4 a5 a6 a7 a8 a9 a10 k, LeO (liability_causes.f k a0 a1 a2 a3 a4 a5 a6 a7 a8 a9 a10) (liability_causes.f (k + 1) a0 a1 a2 a3 a4 a5 a6 a7 a8 a9 a10) := by
 intro a0 a1 a2 a3 a4 a5 a6 a7 a8 a9 a10 k
 unfold liability_causes.f
 repeat' first
   | (with_reducible exact tariff_Duty.mono _ _ _ _ _ _)
   | (with_reducible exact LeO.refl _)
   | (with_reducible exact LeO.none _)
   | (with_reducible refine LeO.ite ?_ ?_)
   | (with_reducible refine LeO.bind ?_ (fun _ => ?_))
   | exact tariff_Duty.mono _ _ _ _ _ _
   | exact LeO.none _
   | refine LeO.ite ?_ ?_
   | refine LeO.bind ?_ (fun _ => ?_)
set_option maxHeartbeats 8000000 in
set_option maxRecDepth 100000 in
theorem liability_causes.calls (k : Nat) (a0_0 : Int) (A0_1 : Option Addr) (c0_1 : Nat) (l0_1 : List (S60)) (a1_0 : Int) (a1_1 : Int) (a1_2 : Int) (a1_3 : Int) (a1_4 : Int) (a2_0 : Int) (a2_1 : Int) (a2_2 : Int) (a2_3 : Int) (r : Int) (w : World) (hr0_1 : Kd.C k60 w A0_1 l0_1.length l0_1) (hc0_1 : l0_1.length ≤ c0_1) (h : liability_causes.f k a0_0 l0_1 a1_0 a1_1 a1_2 a1_3 a1_4 a2_0 a2_1 a2_2 a2_3 = some r) :
  Calls Try.prog 40 #[.agg #[.int .i64 a0_0, .slice A0_1 l0_1.length c0_1], .agg #[.int .i64 a1_0, .int .i64 a1_1, .int .i64 a1_2, .int .i64 a1_3, .int .i64 a1_4], .agg #[.int .i64 a2_0, .int .i64 a2_1, .int .i64 a2_2, .int .i64 a2_3]] w fun e w' => e = .returned (.int .i64 r) ∧ Below w.heap.size w w' := by
 have hu24 := Try.underlying24
 have hu35 := Try.underlying35
 have hu51 := Try.underlying51
 have HR0_1 := Aside0.mk hr0_1
 have HC0_1 := Aside0.mk hc0_1
 clear hr0_1 hc0_1
 have HB := Aside0.mk (Below.refl w.heap.size w)
 have H : (if a2_2 = 0 then (some 0) else ((tariff_Duty.f k a0_0 l0_1 a1_2 a2_3 a2_2).bind fun bt192 => (some bt192.1))) = some r := h
 clear h
 by_cases c4 : a2_2 = 0
 ·rw [if_pos c4] at H
  have c4b0 : (a2_2 == 0) = true := beq_iff_eq.mpr c4
  try simp only [beq_self_eq_true, Bool.not_true, Bool.false_or, Bool.true_and] at c4b0
  have c4b1 : (a2_2 != 0) = false := bne_eq_false_iff_eq.mpr c4
  clear c4
  obtain rfl := Option.some.inj H
  go_enter Try.func40, Try.ntmps40
  go_wp2_with (first | ((with_reducible refine gqD (N := 3) rfl ?_); refine GS.bx (N := 3) (cs := #[.int .i64 a0_0, .slice A0_1 l0_1.length c0_1]) (t := 24) ?_; intro gb189 hg w5 hbox hb; have n0_ := Aside0.mk (lqT (GS.lB HB.out) hb); have n1_ := Aside0.mk (hbox); have n2_ := Aside0.mk ((by rw [hg]; exact (lqZ (GS.lB HB.out)) : w.heap.size ≤ gb189)); have n3_ := Aside0.mk ((by rw [hg]; exact (lqZ (GS.lB HB.out)) : w.heap.size ≤ gb189)); clear HB; have HB := n0_; have BK189 := n1_; have GW189 := n2_; have GE189 := n3_; clear n0_ n1_ n2_ n3_; clear hb hbox hg) | ((with_reducible refine gqD (N := 4) rfl ?_); refine GS.bx (N := 4) (cs := #[.int .i64 a1_0, .int .i64 a1_1, .int .i64 a1_2, .int .i64 a1_3, .int .i64 a1_4]) (t := 35) ?_; intro gb190 hg w6 hbox hb; have n0_ := Aside0.mk (bqB (GS.bqX BK189.out) hb); have n1_ := Aside0.mk (lqT (GS.lB HB.out) hb); have n2_ := Aside0.mk (hbox); have n3_ := Aside0.mk ((by rw [hg]; exact (lqZ (GS.lB HB.out)) : w.heap.size ≤ gb190)); have n4_ := Aside0.mk ((by rw [hg]; exact (lqZ (GS.lB HB.out)) : w.heap.size ≤ gb190)); have n5_ := Aside0.mk ((by rw [hg]; exact Nat.ne_of_lt (blk_lt (GS.bqX BK189.out)) : gb189 ≠ gb190)); have n6_ := Aside0.mk ((by rw [hg]; exact Nat.ne_of_gt (blk_lt (GS.bqX BK189.out)) : gb190 ≠ gb189)); clear BK189; clear HB; have BK189 := n0_; have HB := n1_; have BK190 := n2_; have GW190 := n3_; have GE190 := n4_; have NB189_190 := n5_; have NB190_189 := n6_; clear n0_ n1_ n2_ n3_ n4_ n5_ n6_; clear hb hbox hg) | ((with_reducible refine gqD (N := 5) rfl ?_); refine GS.bx (N := 5) (cs := #[.int .i64 a2_0, .int .i64 a2_1, .int .i64 a2_2, .int .i64 a2_3]) (t := 51) ?_; intro gb191 hg w7 hbox hb; have n0_ := Aside0.mk (bqB (GS.bqX BK189.out) hb); have n1_ := Aside0.mk (bqB (GS.bqX BK190.out) hb); have n2_ := Aside0.mk (lqT (GS.lB HB.out) hb); have n3_ := Aside0.mk (hbox); have n4_ := Aside0.mk ((by rw [hg]; exact (lqZ (GS.lB HB.out)) : w.heap.size ≤ gb191)); have n5_ := Aside0.mk ((by rw [hg]; exact (lqZ (GS.lB HB.out)) : w.heap.size ≤ gb191)); have n6_ := Aside0.mk ((by rw [hg]; exact Nat.ne_of_lt (blk_lt (GS.bqX BK189.out)) : gb189 ≠ gb191)); have n7_ := Aside0.mk ((by rw [hg]; exact Nat.ne_of_gt (blk_lt (GS.bqX BK189.out)) : gb191 ≠ gb189)); have n8_ := Aside0.mk ((by rw [hg]; exact Nat.ne_of_lt (blk_lt (GS.bqX BK190.out)) : gb190 ≠ gb191)); have n9_ := Aside0.mk ((by rw [hg]; exact Nat.ne_of_gt (blk_lt (GS.bqX BK190.out)) : gb191 ≠ gb190)); clear BK189; clear BK190; clear HB; have BK189 := n0_; have BK190 := n1_; have HB := n2_; have BK191 := n3_; have GW191 := n4_; have GE191 := n5_; have NB189_191 := n6_; have NB191_189 := n7_; have NB190_191 := n8_; have NB191_190 := n9_; clear n0_ n1_ n2_ n3_ n4_ n5_ n6_ n7_ n8_ n9_; clear hb hbox hg; have hnb8 := NB191_189.out; have hnc8 := NB189_191.out; have hnb9 := NB191_190.out; have hnc9 := NB190_191.out; obtain ⟨hcz10_0, hcz10_1, hcz10_2, hcz10_3, hfz10_0, hfz10_1, hfz10_2, hfz10_3⟩ := GS.c4 BK191.out))
  go_ret
  exact ⟨by first | rfl | (simp [errW_none, errW_some] <;> rfl) | (simp [*, errW_none, errW_some] <;> rfl), GS.lB HB.out⟩
 ·rw [if_neg c4] at H
  have c4b0 : (a2_2 == 0) = false := beq_eq_false_iff_ne.mpr c4
  try simp only [beq_self_eq_true, Bool.not_true, Bool.false_or, Bool.true_and] at c4b0
  have c4b1 : (a2_2 != 0) = true := bne_iff_ne.mpr c4
  replace H := Option.bind_eq_some_iff.mp H
  obtain ⟨⟨t192, t193⟩, A110, H⟩ := H
  replace H : (some t192) = some r := H
  have A11 := Aside0.mk A110
  clear A110
  obtain rfl := Option.some.inj H
  go_enter Try.func40, Try.ntmps40
  go_wp2_with (first | ((with_reducible refine gqD (N := 3) rfl ?_); refine GS.bx (N := 3) (cs := #[.int .i64 a0_0, .slice A0_1 l0_1.length c0_1]) (t := 24) ?_; intro gb189 hg w12 hbox hb; have n0_ := Aside0.mk (lqT (GS.lB HB.out) hb); have n1_ := Aside0.mk (hbox); have n2_ := Aside0.mk ((by rw [hg]; exact (lqZ (GS.lB HB.out)) : w.heap.size ≤ gb189)); have n3_ := Aside0.mk ((by rw [hg]; exact (lqZ (GS.lB HB.out)) : w.heap.size ≤ gb189)); clear HB; have HB := n0_; have BK189 := n1_; have GW189 := n2_; have GE189 := n3_; clear n0_ n1_ n2_ n3_; clear hb hbox hg) | ((with_reducible refine gqD (N := 4) rfl ?_); refine GS.bx (N := 4) (cs := #[.int .i64 a1_0, .int .i64 a1_1, .int .i64 a1_2, .int .i64 a1_3, .int .i64 a1_4]) (t := 35) ?_; intro gb190 hg w13 hbox hb; have n0_ := Aside0.mk (bqB (GS.bqX BK189.out) hb); have n1_ := Aside0.mk (lqT (GS.lB HB.out) hb); have n2_ := Aside0.mk (hbox); have n3_ := Aside0.mk ((by rw [hg]; exact (lqZ (GS.lB HB.out)) : w.heap.size ≤ gb190)); have n4_ := Aside0.mk ((by rw [hg]; exact (lqZ (GS.lB HB.out)) : w.heap.size ≤ gb190)); have n5_ := Aside0.mk ((by rw [hg]; exact Nat.ne_of_lt (blk_lt (GS.bqX BK189.out)) : gb189 ≠ gb190)); have n6_ := Aside0.mk ((by rw [hg]; exact Nat.ne_of_gt (blk_lt (GS.bqX BK189.out)) : gb190 ≠ gb189)); clear BK189; clear HB; have BK189 := n0_; have HB := n1_; have BK190 := n2_; have GW190 := n3_; have GE190 := n4_; have NB189_190 := n5_; have NB190_189 := n6_; clear n0_ n1_ n2_ n3_ n4_ n5_ n6_; clear hb hbox hg) | ((with_reducible refine gqD (N := 5) rfl ?_); refine GS.bx (N := 5) (cs := #[.int .i64 a2_0, .int .i64 a2_1, .int .i64 a2_2, .int .i64 a2_3]) (t := 51) ?_; intro gb191 hg w14 hbox hb; have n0_ := Aside0.mk (bqB (GS.bqX BK189.out) hb); have n1_ := Aside0.mk (bqB (GS.bqX BK190.out) hb); have n2_ := Aside0.mk (lqT (GS.lB HB.out) hb); have n3_ := Aside0.mk (hbox); have n4_ := Aside0.mk ((by rw [hg]; exact (lqZ (GS.lB HB.out)) : w.heap.size ≤ gb191)); have n5_ := Aside0.mk ((by rw [hg]; exact (lqZ (GS.lB HB.out)) : w.heap.size ≤ gb191)); have n6_ := Aside0.mk ((by rw [hg]; exact Nat.ne_of_lt (blk_lt (GS.bqX BK189.out)) : gb189 ≠ gb191)); have n7_ := Aside0.mk ((by rw [hg]; exact Nat.ne_of_gt (blk_lt (GS.bqX BK189.out)) : gb191 ≠ gb189)); have n8_ := Aside0.mk ((by rw [hg]; exact Nat.ne_of_lt (blk_lt (GS.bqX BK190.out)) : gb190 ≠ gb191)); have n9_ := Aside0.mk ((by rw [hg]; exact Nat.ne_of_gt (blk_lt (GS.bqX BK190.out)) : gb191 ≠ gb190)); clear BK189; clear BK190; clear HB; have BK189 := n0_; have BK190 := n1_; have HB := n2_; have BK191 := n3_; have GW191 := n4_; have GE191 := n5_; have NB189_191 := n6_; have NB191_189 := n7_; have NB190_191 := n8_; have NB191_190 := n9_; clear n0_ n1_ n2_ n3_ n4_ n5_ n6_ n7_ n8_ n9_; clear hb hbox hg; have hnb15 := NB191_189.out; have hnc15 := NB189_191.out; have hnb16 := NB191_190.out; have hnc16 := NB190_191.out; obtain ⟨hcz17_0, hcz17_1, hcz17_2, hcz17_3, hfz17_0, hfz17_1, hfz17_2, hfz17_3⟩ := GS.c4 BK191.out; have hnb18 := NB189_190.out; have hnc18 := NB190_189.out; obtain ⟨hcz19_0, hcz19_1, hfz19_0, hfz19_1⟩ := GS.c2 BK189.out; obtain ⟨hcz20_0, hcz20_1, hcz20_2, hcz20_3, hcz20_4, hfz20_0, hfz20_1, hfz20_2, hfz20_3, hfz20_4⟩ := GS.c5 BK190.out) | ((with_reducible refine gqC (f := 56) rfl ?_); refine GS.gL (some 20) Try.func56 #[.agg #[.int .i64 a0_0, .slice A0_1 l0_1.length c0_1], .int .i64 a1_2, .int .i64 a2_3, .int .i64 a2_2] ?_; (with_reducible refine (tariff_Duty.calls k a0_0 _ _ l0_1 a1_2 a2_3 a2_2 t192 t193 _ ?side1 ?side2 A11.out).mono ?_); (case side1 => exact GS.rC (Kd.C_below HR0_1.out HB.out)); (case side2 => exact HC0_1.out); rintro e w21 ⟨rfl, hb⟩; refine ⟨_, rfl, ?_⟩; have n0_ := Aside0.mk (bqB (GS.bqX BK189.out) hb); have n1_ := Aside0.mk (bqB (GS.bqX BK190.out) hb); have n2_ := Aside0.mk (bqB (GS.bqX BK191.out) hb); have n3_ := Aside0.mk (lqT (GS.lB HB.out) hb); clear BK189; clear BK190; clear BK191; clear HB; have BK189 := n0_; have BK190 := n1_; have BK191 := n2_; have HB := n3_; clear n0_ n1_ n2_ n3_; (try clear hb); (try clear hb2); (try clear hk); (try clear hi)))
  go_ret
  exact ⟨by first | rfl | (simp [errW_none, errW_some] <;> rfl) | (simp [*, errW_none, errW_some] <;> rfl), GS.lB HB.out⟩

/-! ### liability_greatest: function 31 -/
def liability_greatest.f (k : Nat) (a0_0 : Int) (l0_1 : List (S60)) (a1_0 : Int) (a1_1 : Int) (a1_2 : Int) (a1_3 : Int) (a1_4 : Int) (a2 : Int) : Option (Int) := if a2 < a1_3 then (some 0) else ((liability_worst.f k a0_0 l0_1 a1_0 a1_1 a1_2 a1_3 a1_4 a2).bind fun bt196 => ((liability_causes.f k a0_0 l0_1 a1_0 a1_1 a1_2 a1_3 a1_4 bt196.1 bt196.2.1 bt196.2.2.1 bt196.2.2.2).bind fun t200 => (some t200)))
theorem liability_greatest.mono : ∀ a0 a1 a2 a3 a4 a5 a6 a7 k, LeO (liability_greatest.f k a0 a1 a2 a3 a4 a5 a6 a7) (liability_greatest.f (k + 1) a0 a1 a2 a3 a4 a5 a6 a7) := by
 intro a0 a1 a2 a3 a4 a5 a6 a7 k
 unfold liability_greatest.f
 repeat' first
   | (with_reducible exact liability_causes.mono _ _ _ _ _ _ _ _ _ _ _ _)
   | (with_reducible exact liability_worst.mono _ _ _ _ _ _ _ _ _)
   | (with_reducible exact LeO.refl _)
   | (with_reducible exact LeO.none _)
   | (with_reducible refine LeO.ite ?_ ?_)
   | (with_reducible refine LeO.bind ?_ (fun _ => ?_))
   | exact liability_causes.mono _ _ _ _ _ _ _ _ _ _ _ _
   | exact liability_worst.mono _ _ _ _ _ _ _ _ _
   | exact LeO.none _
   | refine LeO.ite ?_ ?_
   | refine LeO.bind ?_ (fun _ => ?_)
def liability_greatest.T3 : Bool × List (List Nat × List Nat) := (true, [([], []), ([], []), ([], []), ([], []), ([], []), ([2, 3, 4], [2, 3, 4]), ([0, 1, 5, 5], [0, 1, 5]), ([6, 6, 0, 1, 2, 3, 4, 5, 6], [6])])
def liability_greatest.B3 : List Nat := [0, 0, 0, 0, 0, 28, 63, 127]
theorem liability_greatest.tab3 : rtab .any (opsOf Try.f31 3) = liability_greatest.T3 := by kernel_rfl
theorem liability_greatest.bits3 : waitsOk liability_greatest.T3.2 liability_greatest.B3 = true := by kernel_rfl
set_option maxHeartbeats 8000000 in
set_option maxRecDepth 100000 in
theorem liability_greatest.calls (k : Nat) (a0_0 : Int) (A0_1 : Option Addr) (c0_1 : Nat) (l0_1 : List (S60)) (a1_0 : Int) (a1_1 : Int) (a1_2 : Int) (a1_3 : Int) (a1_4 : Int) (a2 : Int) (r : Int) (w : World) (hr0_1 : Kd.C k60 w A0_1 l0_1.length l0_1) (hc0_1 : l0_1.length ≤ c0_1) (h : liability_greatest.f k a0_0 l0_1 a1_0 a1_1 a1_2 a1_3 a1_4 a2 = some r) :
  Calls Try.prog 31 #[.agg #[.int .i64 a0_0, .slice A0_1 l0_1.length c0_1], .agg #[.int .i64 a1_0, .int .i64 a1_1, .int .i64 a1_2, .int .i64 a1_3, .int .i64 a1_4], .int .i64 a2] w fun e w' => e = .returned (.int .i64 r) ∧ Below w.heap.size w w' := by
 have hu24 := Try.underlying24
 have hu35 := Try.underlying35
 have HR0_1 := Aside0.mk hr0_1
 have HC0_1 := Aside0.mk hc0_1
 clear hr0_1 hc0_1
 have HB := Aside0.mk (Below.refl w.heap.size w)
 have H : (if a2 < a1_3 then (some 0) else ((liability_worst.f k a0_0 l0_1 a1_0 a1_1 a1_2 a1_3 a1_4 a2).bind fun bt196 => ((liability_causes.f k a0_0 l0_1 a1_0 a1_1 a1_2 a1_3 a1_4 bt196.1 bt196.2.1 bt196.2.2.1 bt196.2.2.2).bind fun t200 => (some t200)))) = some r := h
 clear h
 by_cases c4 : a2 < a1_3
 ·rw [if_pos c4] at H
  have c4b0 : decide (a2 < a1_3) = true := decide_eq_true c4
  clear c4
  obtain rfl := Option.some.inj H
  go_enter Try.func31, Try.ntmps31
  go_wp2_with (first | ((with_reducible refine gqD (N := 3) rfl ?_); refine GS.bx (N := 3) (cs := #[.int .i64 a0_0, .slice A0_1 l0_1.length c0_1]) (t := 24) ?_; intro gb194 hg w5 hbox hb; have n0_ := Aside0.mk (lqT (GS.lB HB.out) hb); have n1_ := Aside0.mk (hbox); have n2_ := Aside0.mk ((by rw [hg]; exact (lqZ (GS.lB HB.out)) : w.heap.size ≤ gb194)); have n3_ := Aside0.mk ((by rw [hg]; exact (lqZ (GS.lB HB.out)) : w.heap.size ≤ gb194)); clear HB; have HB := n0_; have BK194 := n1_; have GW194 := n2_; have GE194 := n3_; clear n0_ n1_ n2_ n3_; clear hb hbox hg) | ((with_reducible refine gqD (N := 4) rfl ?_); refine GS.bx (N := 4) (cs := #[.int .i64 a1_0, .int .i64 a1_1, .int .i64 a1_2, .int .i64 a1_3, .int .i64 a1_4]) (t := 35) ?_; intro gb195 hg w6 hbox hb; have n0_ := Aside0.mk (bqB (GS.bqX BK194.out) hb); have n1_ := Aside0.mk (lqT (GS.lB HB.out) hb); have n2_ := Aside0.mk (hbox); have n3_ := Aside0.mk ((by rw [hg]; exact (lqZ (GS.lB HB.out)) : w.heap.size ≤ gb195)); have n4_ := Aside0.mk ((by rw [hg]; exact (lqZ (GS.lB HB.out)) : w.heap.size ≤ gb195)); have n5_ := Aside0.mk ((by rw [hg]; exact Nat.ne_of_lt (blk_lt (GS.bqX BK194.out)) : gb194 ≠ gb195)); have n6_ := Aside0.mk ((by rw [hg]; exact Nat.ne_of_gt (blk_lt (GS.bqX BK194.out)) : gb195 ≠ gb194)); clear BK194; clear HB; have BK194 := n0_; have HB := n1_; have BK195 := n2_; have GW195 := n3_; have GE195 := n4_; have NB194_195 := n5_; have NB195_194 := n6_; clear n0_ n1_ n2_ n3_ n4_ n5_ n6_; clear hb hbox hg; have hnb7 := NB195_194.out; have hnc7 := NB194_195.out; obtain ⟨hcz8_0, hcz8_1, hcz8_2, hcz8_3, hcz8_4, hfz8_0, hfz8_1, hfz8_2, hfz8_3, hfz8_4⟩ := GS.c5 BK195.out))
  go_ret
  exact ⟨by first | rfl | (simp [errW_none, errW_some] <;> rfl) | (simp [*, errW_none, errW_some] <;> rfl), GS.lB HB.out⟩
 ·rw [if_neg c4] at H
  have c4b0 : decide (a2 < a1_3) = false := decide_eq_false c4
  clear c4
  replace H := Option.bind_eq_some_iff.mp H
  obtain ⟨⟨t196, t197, t198, t199⟩, A90, H⟩ := H
  replace H : ((liability_causes.f k a0_0 l0_1 a1_0 a1_1 a1_2 a1_3 a1_4 t196 t197 t198 t199).bind fun t200 => (some t200)) = some r := H
  have A9 := Aside0.mk A90
  clear A90
  replace H := Option.bind_eq_some_iff.mp H
  obtain ⟨t200, A100, H⟩ := H
  replace H : (some t200) = some r := H
  have A10 := Aside0.mk A100
  clear A100
  obtain rfl := Option.some.inj H
  go_enter Try.func31, Try.ntmps31
  try go_wp2_with (first | ((with_reducible refine gqD (N := 3) rfl ?_); refine GS.bx (N := 3) (cs := #[.int .i64 a0_0, .slice A0_1 l0_1.length c0_1]) (t := 24) ?_; intro gb194 hg w11 hbox hb; have n0_ := Aside0.mk (lqT (GS.lB HB.out) hb); have n1_ := Aside0.mk (hbox); have n2_ := Aside0.mk ((by rw [hg]; exact (lqZ (GS.lB HB.out)) : w.heap.size ≤ gb194)); have n3_ := Aside0.mk ((by rw [hg]; exact (lqZ (GS.lB HB.out)) : w.heap.size ≤ gb194)); clear HB; have HB := n0_; have BK194 := n1_; have GW194 := n2_; have GE194 := n3_; clear n0_ n1_ n2_ n3_; clear hb hbox hg) | ((with_reducible refine gqD (N := 4) rfl ?_); refine GS.bx (N := 4) (cs := #[.int .i64 a1_0, .int .i64 a1_1, .int .i64 a1_2, .int .i64 a1_3, .int .i64 a1_4]) (t := 35) ?_; intro gb195 hg w12 hbox hb; have n0_ := Aside0.mk (bqB (GS.bqX BK194.out) hb); have n1_ := Aside0.mk (lqT (GS.lB HB.out) hb); have n2_ := Aside0.mk (hbox); have n3_ := Aside0.mk ((by rw [hg]; exact (lqZ (GS.lB HB.out)) : w.heap.size ≤ gb195)); have n4_ := Aside0.mk ((by rw [hg]; exact (lqZ (GS.lB HB.out)) : w.heap.size ≤ gb195)); have n5_ := Aside0.mk ((by rw [hg]; exact Nat.ne_of_lt (blk_lt (GS.bqX BK194.out)) : gb194 ≠ gb195)); have n6_ := Aside0.mk ((by rw [hg]; exact Nat.ne_of_gt (blk_lt (GS.bqX BK194.out)) : gb195 ≠ gb194)); clear BK194; clear HB; have BK194 := n0_; have HB := n1_; have BK195 := n2_; have GW195 := n3_; have GE195 := n4_; have NB194_195 := n5_; have NB195_194 := n6_; clear n0_ n1_ n2_ n3_ n4_ n5_ n6_; clear hb hbox hg; have hnb13 := NB195_194.out; have hnc13 := NB194_195.out; obtain ⟨hcz14_0, hcz14_1, hcz14_2, hcz14_3, hcz14_4, hfz14_0, hfz14_1, hfz14_2, hfz14_3, hfz14_4⟩ := GS.c5 BK195.out))
  have n0_ := Aside0.mk (bqD BK194.out)
  have n1_ := Aside0.mk (bqD BK195.out)
  have n2_ := Aside0.mk (lqD HB.out)
  clear BK194
  clear BK195
  clear HB
  have BK194 := n0_
  have BK195 := n1_
  have HB := n2_
  clear n0_ n1_ n2_
  refine start_ (n := 8) (S := fun w' => w'.cell? ⟨gb194, 0, none⟩ = some (.int .i64 a0_0) ∧ w'.cell? ⟨gb194, 1, none⟩ = some (.slice A0_1 l0_1.length c0_1) ∧ w'.cell? ⟨gb195, 0, none⟩ = some (.int .i64 a1_0) ∧ w'.cell? ⟨gb195, 1, none⟩ = some (.int .i64 a1_1) ∧ w'.cell? ⟨gb195, 2, none⟩ = some (.int .i64 a1_2) ∧ w'.cell? ⟨gb195, 3, none⟩ = some (.int .i64 a1_3) ∧ w'.cell? ⟨gb195, 4, none⟩ = some (.int .i64 a1_4)) (ds := []) #[false, false, false, false, false, false, false, false] (by kernel_rfl) rfl rfl ⟨(bqC BK194.out 0).trans rfl, (bqC BK194.out 1).trans rfl, (bqC BK195.out 0).trans rfl, (bqC BK195.out 1).trans rfl, (bqC BK195.out 2).trans rfl, (bqC BK195.out 3).trans rfl, (bqC BK195.out 4).trans rfl⟩ (fun hHeld => ?_); refine with_tabW liability_greatest.tab3 liability_greatest.bits3 (fun HT_ HW_ => ?_)
  generalize w12.drew = w15 at BK194 BK195 HB hHeld ⊢
  refine GS.pu 4 (some 15) HT_.out ?_
  refine GS.tk 0 (some 11) HT_.out HW_.out hHeld ?_
  refine GS.tk 1 (some 12) HT_.out HW_.out hHeld ?_
  refine GS.tk 2 (some 13) HT_.out HW_.out hHeld ?_
  refine GS.tk 3 (some 14) HT_.out HW_.out hHeld ?_
  refine one_ (i := 5) (N := some 16) #[true, true, true, true, true, true, false, false] rfl rfl (one_of HT_.out (by kernel_rfl)) (by decide) (fun K hK => ?_)
  refine goes_ Try.func38 (by kernel_rfl) rfl #[.agg #[.int .i64 a0_0, .slice A0_1 l0_1.length c0_1], .agg #[.int .i64 a1_0, .int .i64 a1_1, .int .i64 a1_2, .int .i64 a1_3, .int .i64 a1_4], .int .i64 a2] (by rfl) rfl rfl (by (try simp only [List.map_toArray, List.map_cons, List.map_nil]); first | done | rfl | (simp only [List.length_drop, List.length_take]; rfl)) ?_
  with_reducible refine (liability_worst.calls k a0_0 _ _ l0_1 a1_0 a1_1 a1_2 a1_3 a1_4 a2 t196 t197 t198 t199 _ ?side1 ?side2 A9.out).mono ?_
  (case side1 => exact GS.rC (Kd.C_below HR0_1.out HB.out))
  (case side2 => exact HC0_1.out)
  rintro e w16 ⟨rfl, hb⟩
  refine ⟨_, rfl, ?_⟩
  have n0_ := Aside0.mk (bqB (GS.bqX BK194.out) hb)
  have n1_ := Aside0.mk (bqB (GS.bqX BK195.out) hb)
  have n2_ := Aside0.mk (lqT (GS.lB HB.out) hb)
  clear BK194
  clear BK195
  clear HB
  have BK194 := n0_
  have BK195 := n1_
  have HB := n2_
  clear n0_ n1_ n2_
  (try clear hb)
  (try clear hb2)
  (try clear hk)
  (try clear hi)
  refine hK.out _ _ ⟨(bqC BK194.out 0).trans rfl, (bqC BK194.out 1).trans rfl, (bqC BK195.out 0).trans rfl, (bqC BK195.out 1).trans rfl, (bqC BK195.out 2).trans rfl, (bqC BK195.out 3).trans rfl, (bqC BK195.out 4).trans rfl⟩ (fun hHeld => ?_)
  clear hK K
  refine norm_ (a' := ?_) ?_ ?_
  rotate_left
  ·show Act.put _ (some 16) _ = _
   simp only [Act.put, List.setIfInBounds_toArray, List.set_cons_zero, List.set_cons_succ, i64_w, i32_w]
   rfl
  refine one_ (i := 6) (N := some 17) #[true, true, true, true, true, true, true, false] rfl rfl (one_of HT_.out (by kernel_rfl)) (by decide) (fun K hK => ?_)
  refine goes_ Try.func40 (by kernel_rfl) rfl #[.agg #[.int .i64 a0_0, .slice A0_1 l0_1.length c0_1], .agg #[.int .i64 a1_0, .int .i64 a1_1, .int .i64 a1_2, .int .i64 a1_3, .int .i64 a1_4], .agg #[.int .i64 t196, .int .i64 t197, .int .i64 t198, .int .i64 t199]] (by rfl) rfl rfl (by (try simp only [List.map_toArray, List.map_cons, List.map_nil]); first | done | rfl | (simp only [List.length_drop, List.length_take]; rfl)) ?_
  with_reducible refine (liability_causes.calls k a0_0 _ _ l0_1 a1_0 a1_1 a1_2 a1_3 a1_4 t196 t197 t198 t199 t200 _ ?side1 ?side2 A10.out).mono ?_
  (case side1 => exact GS.rC (Kd.C_below HR0_1.out HB.out))
  (case side2 => exact HC0_1.out)
  rintro e w17 ⟨rfl, hb⟩
  refine ⟨_, rfl, ?_⟩
  have n0_ := Aside0.mk (bqB (GS.bqX BK194.out) hb)
  have n1_ := Aside0.mk (bqB (GS.bqX BK195.out) hb)
  have n2_ := Aside0.mk (lqT (GS.lB HB.out) hb)
  clear BK194
  clear BK195
  clear HB
  have BK194 := n0_
  have BK195 := n1_
  have HB := n2_
  clear n0_ n1_ n2_
  (try clear hb)
  (try clear hb2)
  (try clear hk)
  (try clear hi)
  refine hK.out _ _ ⟨(bqC BK194.out 0).trans rfl, (bqC BK194.out 1).trans rfl, (bqC BK195.out 0).trans rfl, (bqC BK195.out 1).trans rfl, (bqC BK195.out 2).trans rfl, (bqC BK195.out 3).trans rfl, (bqC BK195.out 4).trans rfl⟩ (fun hHeld => ?_)
  clear hK K
  refine norm_ (a' := ?_) ?_ ?_
  rotate_left
  ·show Act.put _ (some 17) _ = _
   simp only [Act.put, List.setIfInBounds_toArray, List.set_cons_zero, List.set_cons_succ, i64_w, i32_w]
   rfl
  refine GS.pu 7 (some 6) HT_.out ?_
  refine done_ (done_of HT_.out (by kernel_rfl)) ?_
  try go_wp2
  go_ret
  exact ⟨by first | rfl | (simp [errW_none, errW_some] <;> rfl) | (simp [*, errW_none, errW_some] <;> rfl), GS.lB HB.out⟩

/-! ### liability_Greatest: function 11 -/
def liability_Greatest.l0 : Nat → Int → List Int → Int → List (S35) → Int → Int → Int → List (S60) → Option (List Int × Int × Int)
 | 0, _, _, _, _, _, _, _, _ => none
 | k + 1, x2, x10, x11, x22, x23, x24, x202000, x202001 => if x24 < x23 then (if 0 ≤ x24 then (if x24 < (x22.length : Int) then ((liability_greatest.f k x202000 x202001 ((rd_T35 x22 x24).f0) ((rd_T35 x22 x24).f1) ((rd_T35 x22 x24).f2) ((rd_T35 x22 x24).f3) ((rd_T35 x22 x24).f4) x2).bind fun t205 => (if x10.length < 17592186044416 then (liability_Greatest.l0 k x2 (x10 ++ [t205]) (wrap64 (x11 + t205)) x22 x23 (wrap64 (x24 + 1)) x202000 x202001) else (none))) else (none)) else (none)) else (some (x10, x11, 0))
def liability_Greatest.f (k : Nat) (a0_0 : Int) (l0_1 : List (S60)) (l1 : List (S35)) (a2 : Int) : Option (List Int × Int × Int) := (liability_asks.f k a0_0 l0_1 l1 a2).bind fun t202 => (if t202 = 0 then (liability_Greatest.l0 k a2 ([] : List Int) 0 l1 (l1.length : Int) 0 a0_0 l0_1) else (some (([] : List Int), 0, t202)))
theorem liability_Greatest.mono_l : ∀ k, (∀ y0 y1 y2 y3 y4 y5 y6 y7, LeO (liability_Greatest.l0 k y0 y1 y2 y3 y4 y5 y6 y7) (liability_Greatest.l0 (k + 1) y0 y1 y2 y3 y4 y5 y6 y7))
 | 0 => fun _ _ _ _ _ _ _ _ r h => by simp [liability_Greatest.l0] at h
 | k + 1 => by
  have ih0 := liability_Greatest.mono_l k
  ·intro y0 y1 y2 y3 y4 y5 y6 y7
   unfold liability_Greatest.l0
   repeat' first
   | (with_reducible exact ih0 _ _ _ _ _ _ _ _)
   | (with_reducible exact liability_asks.mono _ _ _ _ _)
   | (with_reducible exact liability_greatest.mono _ _ _ _ _ _ _ _ _)
   | (with_reducible exact LeO.refl _)
   | (with_reducible exact LeO.none _)
   | (with_reducible refine LeO.ite ?_ ?_)
   | (with_reducible refine LeO.bind ?_ (fun _ => ?_))
   | exact ih0 _ _ _ _ _ _ _ _
   | exact liability_asks.mono _ _ _ _ _
   | exact liability_greatest.mono _ _ _ _ _ _ _ _ _
   | exact LeO.none _
   | refine LeO.ite ?_ ?_
   | refine LeO.bind ?_ (fun _ => ?_)
theorem liability_Greatest.mono : ∀ a0 a1 a2 a3 k, LeO (liability_Greatest.f k a0 a1 a2 a3) (liability_Greatest.f (k + 1) a0 a1 a2 a3) := by
 intro a0 a1 a2 a3 k
 have ih0 := liability_Greatest.mono_l k
 unfold liability_Greatest.f
 repeat' first
   | (with_reducible exact ih0 _ _ _ _ _ _ _ _)
   | (with_reducible exact liability_asks.mono _ _ _ _ _)
   | (with_reducible exact liability_greatest.mono _ _ _ _ _ _ _ _ _)
   | (with_reducible exact LeO.refl _)
   | (with_reducible exact LeO.none _)
   | (with_reducible refine LeO.ite ?_ ?_)
   | (with_reducible refine LeO.bind ?_ (fun _ => ?_))
   | exact ih0 _ _ _ _ _ _ _ _
   | exact liability_asks.mono _ _ _ _ _
   | exact liability_greatest.mono _ _ _ _ _ _ _ _ _
   | exact LeO.none _
   | refine LeO.ite ?_ ?_
   | refine LeO.bind ?_ (fun _ => ?_)
set_option maxHeartbeats 8000000 in
set_option maxRecDepth 100000 in
theorem liability_Greatest.calls (k : Nat) (a0_0 : Int) (A0_1 : Option Addr) (c0_1 : Nat) (l0_1 : List (S60)) (A1 : Option Addr) (c1 : Nat) (l1 : List (S35)) (a2 : Int) (r1 : List Int) (r2 : Int) (r3 : Int) (w : World) (hr0_1 : Kd.C k60 w A0_1 l0_1.length l0_1) (hc0_1 : l0_1.length ≤ c0_1) (hr1 : Kd.C k35 w A1 l1.length l1) (hc1 : l1.length ≤ c1) (h : liability_Greatest.f k a0_0 l0_1 l1 a2 = some (r1, r2, r3)) :
  Calls Try.prog 11 #[.agg #[.int .i64 a0_0, .slice A0_1 l0_1.length c0_1], .slice A1 l1.length c1, .int .i64 a2] w fun e w' => ∃ v0_ : Value, e = .returned (.tuple #[v0_, .int .i64 r2, .int .i64 r3]) ∧ Kd.R (Kd.int .i64) 3 w' w.heap.size (fun _ => True) v0_ r1 ∧ Below w.heap.size w w' := by
 have hu24 := Try.underlying24
 have hu35 := Try.underlying35
 have HR0_1 := Aside0.mk hr0_1
 have HC0_1 := Aside0.mk hc0_1
 clear hr0_1 hc0_1
 have HR1 := Aside0.mk hr1
 have HC1 := Aside0.mk hc1
 clear hr1 hc1
 have HB := Aside0.mk (Below.refl w.heap.size w)
 have H : ((liability_asks.f k a0_0 l0_1 l1 a2).bind fun t202 => (if t202 = 0 then (liability_Greatest.l0 k a2 ([] : List Int) 0 l1 (l1.length : Int) 0 a0_0 l0_1) else (some (([] : List Int), 0, t202)))) = some (r1, r2, r3) := h
 clear h
 replace H := Option.bind_eq_some_iff.mp H
 obtain ⟨t202, A40, H⟩ := H
 replace H : (if t202 = 0 then (liability_Greatest.l0 k a2 ([] : List Int) 0 l1 (l1.length : Int) 0 a0_0 l0_1) else (some (([] : List Int), 0, t202))) = some (r1, r2, r3) := H
 have A4 := Aside0.mk A40
 clear A40
 by_cases c5 : t202 = 0
 ·rw [if_pos c5] at H
  have c5b0 : (t202 == 0) = true := beq_iff_eq.mpr c5
  try simp only [beq_self_eq_true, Bool.not_true, Bool.false_or, Bool.true_and] at c5b0
  have c5b1 : (t202 != 0) = false := bne_eq_false_iff_eq.mpr c5
  clear c5
  have H' := Aside0.mk H
  clear H
  go_enter Try.func11, Try.ntmps11
  go_wp2_with (first | ((with_reducible refine gqD (N := 3) rfl ?_); refine GS.bx (N := 3) (cs := #[.int .i64 a0_0, .slice A0_1 l0_1.length c0_1]) (t := 24) ?_; intro gb201 hg w6 hbox hb; have n0_ := Aside0.mk (lqT (GS.lB HB.out) hb); have n1_ := Aside0.mk (hbox); have n2_ := Aside0.mk ((by rw [hg]; exact (lqZ (GS.lB HB.out)) : w.heap.size ≤ gb201)); have n3_ := Aside0.mk ((by rw [hg]; exact (lqZ (GS.lB HB.out)) : w.heap.size ≤ gb201)); clear HB; have HB := n0_; have BK201 := n1_; have GW201 := n2_; have GE201 := n3_; clear n0_ n1_ n2_ n3_; clear hb hbox hg; obtain ⟨hcz7_0, hcz7_1, hfz7_0, hfz7_1⟩ := GS.c2 BK201.out) | ((with_reducible refine gqC (f := 30) rfl ?_); refine GS.gL (some 18) Try.func30 #[.agg #[.int .i64 a0_0, .slice A0_1 l0_1.length c0_1], .slice A1 l1.length c1, .int .i64 a2] ?_; (with_reducible refine (liability_asks.calls k a0_0 _ _ l0_1 _ _ l1 a2 t202 _ ?side1 ?side2 ?side3 ?side4 A4.out).mono ?_); (case side1 => exact GS.rC (Kd.C_below HR0_1.out HB.out)); (case side2 => exact HC0_1.out); (case side3 => exact GS.rC (Kd.C_below HR1.out HB.out)); (case side4 => exact HC1.out); rintro e w8 ⟨rfl, hb⟩; refine ⟨_, rfl, ?_⟩; have n0_ := Aside0.mk (bqB (GS.bqX BK201.out) hb); have n1_ := Aside0.mk (lqT (GS.lB HB.out) hb); clear BK201; clear HB; have BK201 := n0_; have HB := n1_; clear n0_ n1_; (try clear hb); (try clear hb2); (try clear hk); (try clear hi)))
  go_loopg [10, 11, 24] k (fun kq v10 v11 v24 w' => ∃ (x10_1 : List Int) (x11_1 : Int) (x24_1 : Int), v11 = .int .i64 x11_1 ∧ v24 = .int .i64 x24_1 ∧ Aside0 (liability_Greatest.l0 kq a2 x10_1 x11_1 l1 (l1.length : Int) x24_1 a0_0 l0_1 = some (r1, r2, r3)) ∧ Aside0 (kq ≤ k) ∧ Aside0 (Kd.R (Kd.int .i64) 3 w' w.heap.size (fun _ => True) v10 x10_1) ∧ Aside0 (w'.heap[gb201]? = some (.cells #[.int .i64 a0_0, (.slice A0_1 l0_1.length c0_1)] 24 (0, 0))) ∧ Aside0 (Below w.heap.size w w'))
  case atStart => exact ⟨(([] : List Int)), (0), (0), (by first | rfl | (simp; done) | (simp [*]; done)), (by first | rfl | (simp; done) | (simp [*]; done)), H', ⟨Nat.le_refl _⟩, ⟨by first | exact Kd.R_nil _ _ _ _ _ | exact Kd.N_nil _ _ _ _ _ | exact Kd.V_nil _ _ _ _ _ | exact Kd.Q_nil _ _ _ _ _ | exact Kd.S_nil _ _ _ _ _⟩, ⟨GS.bqX BK201.out⟩, ⟨GS.lB HB.out⟩⟩
  case round =>
   clear H'
   try clear c1
   try clear p2
   try clear c3
   try clear c5
   try clear c5b0
   try clear c5b1
   try clear hcz7_0
   try clear hcz7_1
   try clear hfz7_0
   try clear hfz7_1
   obtain ⟨x10_1, x11_1, x24_1, rfl, rfl, HA, HK1, HO_10, BK201, HB⟩ := hrel
   cases gk with
   | zero => exact absurd HA.out (by simp [liability_Greatest.l0])
   | succ k1 =>
    have H := HA.out
    clear HA
    simp only [liability_Greatest.l0] at H
    by_cases c9 : x24_1 < (l1.length : Int)
    ·rw [if_pos c9] at H
     have c9b0 : decide (x24_1 < (l1.length : Int)) = true := decide_eq_true c9
     clear c9
     by_cases c10 : 0 ≤ x24_1
     ·rw [if_pos c10] at H
      have c10b0 : decide (0 ≤ x24_1) = true := decide_eq_true c10
      clear c10
      by_cases c11 : x24_1 < (l1.length : Int)
      ·rw [if_pos c11] at H
       have c11b0 : decide (x24_1 < (l1.length : Int)) = true := decide_eq_true c11
       clear c11
       replace H := Option.bind_eq_some_iff.mp H
       obtain ⟨t205, A120, H⟩ := H
       replace H : (if x10_1.length < 17592186044416 then (liability_Greatest.l0 k1 a2 (x10_1 ++ [t205]) (wrap64 (x11_1 + t205)) l1 (l1.length : Int) (wrap64 (x24_1 + 1)) a0_0 l0_1) else (none)) = some (r1, r2, r3) := H
       have A12 := Aside0.mk A120
       clear A120
       by_cases c13 : x10_1.length < 17592186044416
       ·rw [if_pos c13] at H
        have LMc13 := Aside0.mk c13
        clear c13
        obtain ⟨y206, hy206⟩ : ∃ y_ : List Int, y_ = (x10_1 ++ [t205]) := ⟨_, rfl⟩
        replace H : (liability_Greatest.l0 k1 a2 y206 (wrap64 (x11_1 + t205)) l1 (l1.length : Int) (wrap64 (x24_1 + 1)) a0_0 l0_1) = some (r1, r2, r3) := by first | (rw [hy206]; with_reducible exact H) | (have H2_ := (Option.bind_some _ _).symm.trans H; rw [hy206]; with_reducible exact H2_) | (have H2_ := (Option.bind_some _ _).symm.trans H; with_reducible exact H2_) | with_reducible exact H | (rw [hy206]; exact H) | exact H
        have Ny206 := Aside0.mk hy206
        clear hy206
        have H' := Aside0.mk H
        clear H
        have p203 : 0 ≤ (x24_1 : Int) := of_decide_eq_true (by first | (with_reducible assumption) | assumption)
        have q203 : x24_1 < (l1.length : Int) := of_decide_eq_true (by first | (with_reducible assumption) | assumption)
        obtain ⟨ad203, e203, hx203_0, hx203_1, hx203_2, hx203_3, hx203_4⟩ := at_T35 HR1.out x24_1 p203 q203
        cases e203
        replace hx203_0 := (HB.out.cell (World.block_lt_of_cell? w _ hx203_0)).trans hx203_0
        replace hx203_1 := (HB.out.cell (World.block_lt_of_cell? w _ hx203_1)).trans hx203_1
        replace hx203_2 := (HB.out.cell (World.block_lt_of_cell? w _ hx203_2)).trans hx203_2
        replace hx203_3 := (HB.out.cell (World.block_lt_of_cell? w _ hx203_3)).trans hx203_3
        replace hx203_4 := (HB.out.cell (World.block_lt_of_cell? w _ hx203_4)).trans hx203_4
        replace p203 := eq_true p203
        replace q203 := eq_true q203
        go_wp2_with (first | ((with_reducible refine gqD (N := 13) rfl ?_); refine GS.bx (N := 13) (cs := #[.int .i64 0, .int .i64 0, .int .i64 0, .int .i64 0, .int .i64 0]) (t := 35) ?_; intro gb204 hg w14 hbox hb; have n0_ := Aside0.mk (Kd.R_below (GS.rR HO_10.out) hb); have n1_ := Aside0.mk (bqB (GS.bqX BK201.out) hb); have n2_ := Aside0.mk (lqT (GS.lB HB.out) hb); have n3_ := Aside0.mk (hbox); have n4_ := Aside0.mk ((by rw [hg]; exact (lqZ (GS.lB HB.out)) : w.heap.size ≤ gb204)); have n5_ := Aside0.mk ((by rw [hg]; exact (lqZ (GS.lB HB.out)) : w.heap.size ≤ gb204)); have n6_ := Aside0.mk ((by rw [hg]; exact Nat.ne_of_lt (blk_lt (GS.bqX BK201.out)) : gb201 ≠ gb204)); have n7_ := Aside0.mk ((by rw [hg]; exact Nat.ne_of_gt (blk_lt (GS.bqX BK201.out)) : gb204 ≠ gb201)); clear HO_10; clear BK201; clear HB; have HO_10 := n0_; have BK201 := n1_; have HB := n2_; have BK204 := n3_; have GW204 := n4_; have GE204 := n5_; have NB201_204 := n6_; have NB204_201 := n7_; clear n0_ n1_ n2_ n3_ n4_ n5_ n6_ n7_; clear hb hbox hg; have hnb15 := NB204_201.out; have hnc15 := NB201_204.out; obtain ⟨hcz16_0, hcz16_1, hcz16_2, hcz16_3, hcz16_4, hfz16_0, hfz16_1, hfz16_2, hfz16_3, hfz16_4⟩ := GS.c5 BK204.out; obtain ⟨hcz17_0, hcz17_1, hfz17_0, hfz17_1⟩ := GS.c2 BK201.out) | ((with_reducible refine gqC (f := 31) rfl ?_); refine GS.gL (some 31) Try.func31 #[.agg #[.int .i64 a0_0, .slice A0_1 l0_1.length c0_1], .agg #[.int .i64 ((rd_T35 l1 x24_1).f0), .int .i64 ((rd_T35 l1 x24_1).f1), .int .i64 ((rd_T35 l1 x24_1).f2), .int .i64 ((rd_T35 l1 x24_1).f3), .int .i64 ((rd_T35 l1 x24_1).f4)], .int .i64 a2] ?_; (with_reducible refine (liability_greatest.calls k1 a0_0 _ _ l0_1 ((rd_T35 l1 x24_1).f0) ((rd_T35 l1 x24_1).f1) ((rd_T35 l1 x24_1).f2) ((rd_T35 l1 x24_1).f3) ((rd_T35 l1 x24_1).f4) a2 t205 _ ?side1 ?side2 A12.out).mono ?_); (case side1 => exact Kd.C_below HR0_1.out (GS.lB HB.out)); (case side2 => exact HC0_1.out); rintro e w18 ⟨rfl, hb⟩; refine ⟨_, rfl, ?_⟩; have n0_ := Aside0.mk (Kd.R_below (by (with_reducible repeat (first | apply Kd.R_alloc | apply Kd.R_drewN | apply Kd.R_drew)); exact (Kd.R_mono (Kd.R_far (p := ⟨gb204, 4, none⟩) (Kd.R_far (p := ⟨gb204, 3, none⟩) (Kd.R_far (p := ⟨gb204, 2, none⟩) (Kd.R_far (p := ⟨gb204, 1, none⟩) (Kd.R_far (p := ⟨gb204, 0, none⟩) (Kd.R_types HO_10.out BK204.out (by decide)) (fun _ hk => hk.2) (.int .i64 ((rd_T35 l1 x24_1).f0))) (fun _ hk => hk.2) (.int .i64 ((rd_T35 l1 x24_1).f1))) (fun _ hk => hk.2) (.int .i64 ((rd_T35 l1 x24_1).f2))) (fun _ hk => hk.2) (.int .i64 ((rd_T35 l1 x24_1).f3))) (fun _ hk => hk.2) (.int .i64 ((rd_T35 l1 x24_1).f4))) (fun _ h_ => h_.1))) hb); have n1_ := Aside0.mk (bqB (GS.bqX BK201.out) hb); have n2_ := Aside0.mk (bqB (g := gb204) (o := .cells #[.int .i64 ((rd_T35 l1 x24_1).f0), .int .i64 ((rd_T35 l1 x24_1).f1), .int .i64 ((rd_T35 l1 x24_1).f2), .int .i64 ((rd_T35 l1 x24_1).f3), .int .i64 ((rd_T35 l1 x24_1).f4)] 35 (0, 0)) (GS.bqZ BK204.out) hb); have n3_ := Aside0.mk (lqT (GS.lB HB.out) hb); clear HO_10; clear BK201; clear BK204; clear HB; have HO_10 := n0_; have BK201 := n1_; have BK204 := n2_; have HB := n3_; clear n0_ n1_ n2_ n3_; (try clear hb); (try clear hb2); (try clear hk); (try clear hi)) | ((with_reducible refine gate_builtin (b := .append) (xs := #[.tmp 32, .tmp 34]) rfl ?_); at_builtin; refine Kd.R_append (Kd.int .i64) (w0 := w) w.heap.size rfl (.tmp 32) (.tmp 34) 28 3 (.int .i64 0) 8 rfl Try.underlying28 info3 rfl (by decide) (by omega) u10 x10_1 t205 [.int .i64 t205] (fun _ => True) (fun _ => False) rfl rfl ?aP (fun _ hk => hk.elim) ?aF ?aO ?aB ?aS ?aL ?_; (case aP => exact rfl); (case aB => exact (GS.lB HB.out)); (case aF => exact (fun _ _ => trivial)); (case aO => exact (GS.rR HO_10.out)); (case aS => exact (lqZ (GS.lB HB.out))); (case aL => have := LMc13.out; omega); intro v207 w19 ho hb hg hat; rw [← Ny206.out] at ho; have n0_ := Aside0.mk (blk_grown (GS.bqX BK201.out) hg (Kd.R_ne HO_10.out BK201.out (by decide))); have n1_ := Aside0.mk (blk_grown (GS.bqX BK204.out) hg (Kd.R_ne HO_10.out BK204.out (by decide))); have n2_ := Aside0.mk (hb); have n3_ := Aside0.mk (ho); clear BK201; clear BK204; clear HB; clear HO_10; have BK201 := n0_; have BK204 := n1_; have HB := n2_; have HO208 := n3_; clear n0_ n1_ n2_ n3_; clear ho hb hg hat))
        go_roundg k1
        case measure => have := HK1.out; omega
        case rel => exact ⟨(y206), (wrap64 (x11_1 + t205)), (wrap64 (x24_1 + 1)), (by first | rfl | (simp; done) | (simp [*]; done)), (by first | rfl | (simp; done) | (simp [*]; done)), H', ⟨by have := HK1.out; omega⟩, ⟨by (with_reducible repeat (first | apply Kd.R_alloc | apply Kd.R_drewN | apply Kd.R_drew)); exact HO208.out⟩, ⟨GS.bqX BK201.out⟩, ⟨GS.lB HB.out⟩⟩
       ·rw [if_neg c13] at H
        exact absurd H (by simp)
      ·rw [if_neg c11] at H
       exact absurd H (by simp)
     ·rw [if_neg c10] at H
      exact absurd H (by simp)
    ·rw [if_neg c9] at H
     have c9b0 : decide (x24_1 < (l1.length : Int)) = false := decide_eq_false c9
     clear c9
     simp only [Option.some.injEq, Prod.mk.injEq] at H
     obtain ⟨rfl, rfl, rfl⟩ := H
     go_wp2
     go_ret3
     exact ⟨_, by first | rfl | (simp [errW_none, errW_some] <;> rfl) | (simp [*, errW_none, errW_some] <;> rfl), by (with_reducible repeat (first | apply Kd.R_alloc | apply Kd.R_drewN | apply Kd.R_drew)); exact HO_10.out, GS.lB HB.out⟩
 ·rw [if_neg c5] at H
  have c5b0 : (t202 == 0) = false := beq_eq_false_iff_ne.mpr c5
  try simp only [beq_self_eq_true, Bool.not_true, Bool.false_or, Bool.true_and] at c5b0
  have c5b1 : (t202 != 0) = true := bne_iff_ne.mpr c5
  simp only [Option.some.injEq, Prod.mk.injEq] at H
  obtain ⟨rfl, rfl, rfl⟩ := H
  go_enter Try.func11, Try.ntmps11
  go_wp2_with (first | ((with_reducible refine gqD (N := 3) rfl ?_); refine GS.bx (N := 3) (cs := #[.int .i64 a0_0, .slice A0_1 l0_1.length c0_1]) (t := 24) ?_; intro gb201 hg w20 hbox hb; have n0_ := Aside0.mk (lqT (GS.lB HB.out) hb); have n1_ := Aside0.mk (hbox); have n2_ := Aside0.mk ((by rw [hg]; exact (lqZ (GS.lB HB.out)) : w.heap.size ≤ gb201)); have n3_ := Aside0.mk ((by rw [hg]; exact (lqZ (GS.lB HB.out)) : w.heap.size ≤ gb201)); clear HB; have HB := n0_; have BK201 := n1_; have GW201 := n2_; have GE201 := n3_; clear n0_ n1_ n2_ n3_; clear hb hbox hg; obtain ⟨hcz21_0, hcz21_1, hfz21_0, hfz21_1⟩ := GS.c2 BK201.out) | ((with_reducible refine gqC (f := 30) rfl ?_); refine GS.gL (some 18) Try.func30 #[.agg #[.int .i64 a0_0, .slice A0_1 l0_1.length c0_1], .slice A1 l1.length c1, .int .i64 a2] ?_; (with_reducible refine (liability_asks.calls k a0_0 _ _ l0_1 _ _ l1 a2 t202 _ ?side1 ?side2 ?side3 ?side4 A4.out).mono ?_); (case side1 => exact GS.rC (Kd.C_below HR0_1.out HB.out)); (case side2 => exact HC0_1.out); (case side3 => exact GS.rC (Kd.C_below HR1.out HB.out)); (case side4 => exact HC1.out); rintro e w22 ⟨rfl, hb⟩; refine ⟨_, rfl, ?_⟩; have n0_ := Aside0.mk (bqB (GS.bqX BK201.out) hb); have n1_ := Aside0.mk (lqT (GS.lB HB.out) hb); clear BK201; clear HB; have BK201 := n0_; have HB := n1_; clear n0_ n1_; (try clear hb); (try clear hb2); (try clear hk); (try clear hi)))
  go_ret3
  exact ⟨_, by first | rfl | (simp [errW_none, errW_some] <;> rfl) | (simp [*, errW_none, errW_some] <;> rfl), by first | exact Kd.R_nil _ _ _ _ _ | exact Kd.N_nil _ _ _ _ _ | exact Kd.V_nil _ _ _ _ _ | exact Kd.Q_nil _ _ _ _ _ | exact Kd.S_nil _ _ _ _ _, GS.lB HB.out⟩

-- GIVEN: function 32 (api_Rate)

/-! ### spilelaw51_ct: function 12 -/
def spilelaw51_ct.f (a0_0 : Int) (l0_1 : List (S60)) : Option (Int × (List (S60))) := (clone32.f l0_1).bind fun t211 => (some (a0_0, t211))
set_option maxHeartbeats 8000000 in
set_option maxRecDepth 100000 in
theorem spilelaw51_ct.calls (a0_0 : Int) (A0_1 : Option Addr) (c0_1 : Nat) (l0_1 : List (S60)) (r1 : Int) (r2 : List (S60)) (w : World) (hr0_1 : Kd.C k60 w A0_1 l0_1.length l0_1) (hc0_1 : l0_1.length ≤ c0_1) (h : spilelaw51_ct.f a0_0 l0_1 = some (r1, r2)) :
  Calls Try.prog 12 #[.agg #[.int .i64 a0_0, .slice A0_1 l0_1.length c0_1]] w fun e w' => ∃ v1_ : Value, e = .returned (.agg #[.int .i64 r1, v1_]) ∧ Kd.R k60 60 w' w.heap.size (fun _ => True) v1_ r2 ∧ Below w.heap.size w w' := by
 have hu24 := Try.underlying24
 have HR0_1 := Aside0.mk hr0_1
 have HC0_1 := Aside0.mk hc0_1
 clear hr0_1 hc0_1
 have HB := Aside0.mk (Below.refl w.heap.size w)
 have H : ((clone32.f l0_1).bind fun t211 => (some (a0_0, t211))) = some (r1, r2) := h
 clear h
 replace H := Option.bind_eq_some_iff.mp H
 obtain ⟨t211, A20, H⟩ := H
 replace H : (some (a0_0, t211)) = some (r1, r2) := H
 have A2 := Aside0.mk A20
 clear A20
 simp only [Option.some.injEq, Prod.mk.injEq] at H
 obtain ⟨rfl, rfl⟩ := H
 go_enter Try.func12, Try.ntmps12
 go_wp2_with (first | ((with_reducible refine gqD (N := 1) rfl ?_); refine GS.bx (N := 1) (cs := #[.int .i64 a0_0, .slice A0_1 l0_1.length c0_1]) (t := 24) ?_; intro gb209 hg w3 hbox hb; have n0_ := Aside0.mk (lqT (GS.lB HB.out) hb); have n1_ := Aside0.mk (hbox); have n2_ := Aside0.mk ((by rw [hg]; exact (lqZ (GS.lB HB.out)) : w.heap.size ≤ gb209)); have n3_ := Aside0.mk ((by rw [hg]; exact (lqZ (GS.lB HB.out)) : w.heap.size ≤ gb209)); clear HB; have HB := n0_; have BK209 := n1_; have GW209 := n2_; have GE209 := n3_; clear n0_ n1_ n2_ n3_; clear hb hbox hg) | ((with_reducible refine gqD (N := 2) rfl ?_); refine GS.bx (N := 2) (cs := #[.int .i64 0, .slice none 0 0]) (t := 24) ?_; intro gb210 hg w4 hbox hb; have n0_ := Aside0.mk (bqB (GS.bqX BK209.out) hb); have n1_ := Aside0.mk (lqT (GS.lB HB.out) hb); have n2_ := Aside0.mk (hbox); have n3_ := Aside0.mk ((by rw [hg]; exact (lqZ (GS.lB HB.out)) : w.heap.size ≤ gb210)); have n4_ := Aside0.mk ((by rw [hg]; exact (lqZ (GS.lB HB.out)) : w.heap.size ≤ gb210)); have n5_ := Aside0.mk ((by rw [hg]; exact Nat.ne_of_lt (blk_lt (GS.bqX BK209.out)) : gb209 ≠ gb210)); have n6_ := Aside0.mk ((by rw [hg]; exact Nat.ne_of_gt (blk_lt (GS.bqX BK209.out)) : gb210 ≠ gb209)); clear BK209; clear HB; have BK209 := n0_; have HB := n1_; have BK210 := n2_; have GW210 := n3_; have GE210 := n4_; have NB209_210 := n5_; have NB210_209 := n6_; clear n0_ n1_ n2_ n3_ n4_ n5_ n6_; clear hb hbox hg; have hnb5 := NB209_210.out; have hnc5 := NB210_209.out; obtain ⟨hcz6_0, hcz6_1, hfz6_0, hfz6_1⟩ := GS.c2 BK209.out) | ((with_reducible refine gqC (f := 32) rfl ?_); refine GS.gL (some 5) Try.func32 #[.slice A0_1 l0_1.length c0_1] ?_; (with_reducible refine (clone32.calls _ _ l0_1 t211 _ ?side1 ?side2 A2.out).mono ?_); (case side1 => exact GS.rC (Kd.C_below HR0_1.out HB.out)); (case side2 => exact HC0_1.out); rintro e w7 ⟨v212, rfl, ho0, hb⟩; refine ⟨_, rfl, ?_⟩; have n0_ := Aside0.mk (Kd.R_lower ho0 (lqZ (GS.lB HB.out))); have n1_ := Aside0.mk (bqB (GS.bqX BK209.out) hb); have n2_ := Aside0.mk (bqB (GS.bqX BK210.out) hb); have n3_ := Aside0.mk (lqT (GS.lB HB.out) hb); clear BK209; clear BK210; clear HB; have HO213 := n0_; have BK209 := n1_; have BK210 := n2_; have HB := n3_; clear n0_ n1_ n2_ n3_; (try clear hb); (try clear hb2); (try clear hk); (try clear hi); (try clear ho0); obtain ⟨Ao8, co8, eo8⟩ := Kd.R_slice HO213.out; subst eo8; obtain ⟨hcz9_0, hcz9_1, hfz9_0, hfz9_1⟩ := GS.c2 BK209.out; obtain ⟨hcz10_0, hcz10_1, hfz10_0, hfz10_1⟩ := GS.c2 BK210.out))
 refine bodyPost_ret (results_cell_row rfl _ _ gb210 24 #[.int .i64 a0_0, .slice Ao8 t211.length co8] (0, 0) _ rfl (GS.bqZ BK210.out) Try.underlying24 rfl (by kernel_rfl)) rfl ?_
 exact ⟨_, by first | rfl | (simp [errW_none, errW_some] <;> rfl) | (simp [*, errW_none, errW_some] <;> rfl), by (with_reducible repeat (first | apply Kd.R_alloc | apply Kd.R_drewN | apply Kd.R_drew)); exact Kd.R_mono (Kd.R_far (p := ⟨gb210, 1, none⟩) (Kd.R_far (p := ⟨gb210, 0, none⟩) (Kd.R_far (p := ⟨gb209, 1, none⟩) (Kd.R_types (Kd.R_types HO213.out BK209.out (by decide)) BK210.out (by decide)) (fun _ hk => hk.1.2) (.slice Ao8 t211.length co8)) (fun _ hk => hk.2) (.int .i64 a0_0)) (fun _ hk => hk.2) (.slice Ao8 t211.length co8)) (fun _ hk => trivial), GS.lB HB.out⟩

-- GIVEN: function 13 (api_Exposure_13)

-- NOT PRINTED: function 63 (slices_AppendSeq_int_int)

-- NOT PRINTED: function 50 (slices_Collect_int)

/-! ### cmp_Less_int: function 82 -/
def cmp_Less_int.f (a0 : Int) (a1 : Int) : Option (Bool) := (cmp_isNaN_int.f a0).bind fun t214 => (if t214 = true then ((cmp_isNaN_int.f a1).bind fun t215 => (if t215 = true then (some (decide (a0 < a1))) else (some true))) else (some (decide (a0 < a1))))
set_option maxHeartbeats 8000000 in
set_option maxRecDepth 100000 in
theorem cmp_Less_int.calls (a0 : Int) (a1 : Int) (r : Bool) (w : World) (h : cmp_Less_int.f a0 a1 = some r) :
  Calls Try.prog 82 #[.int .i64 a0, .int .i64 a1] w fun e w' => e = .returned (.bool r) ∧ Drawn0 w w' := by
 have H : ((cmp_isNaN_int.f a0).bind fun t214 => (if t214 = true then ((cmp_isNaN_int.f a1).bind fun t215 => (if t215 = true then (some (decide (a0 < a1))) else (some true))) else (some (decide (a0 < a1))))) = some r := h
 clear h
 replace H := Option.bind_eq_some_iff.mp H
 obtain ⟨t214, A30, H⟩ := H
 replace H : (if t214 = true then ((cmp_isNaN_int.f a1).bind fun t215 => (if t215 = true then (some (decide (a0 < a1))) else (some true))) else (some (decide (a0 < a1)))) = some r := H
 have A3 := Aside0.mk A30
 clear A30
 by_cases c4 : t214 = true
 ·subst c4
  have H1 : ((cmp_isNaN_int.f a1).bind fun t215 => (if t215 = true then (some (decide (a0 < a1))) else (some true))) = some r := by rw [if_pos rfl] at H; exact H
  clear H
  have H := H1
  clear H1
  replace H := Option.bind_eq_some_iff.mp H
  obtain ⟨t215, A50, H⟩ := H
  replace H : (if t215 = true then (some (decide (a0 < a1))) else (some true)) = some r := H
  have A5 := Aside0.mk A50
  clear A50
  by_cases c6 : t215 = true
  ·subst c6
   have H1 : (some (decide (a0 < a1))) = some r := by rw [if_pos rfl] at H; exact H
   clear H
   have H := H1
   clear H1
   obtain rfl := Option.some.inj H
   go_enter Try.func82, Try.ntmps82
   go_wp2_with (first | ((with_reducible refine gqC (f := 87) rfl ?_); refine GS.gL (some 6) Try.func87 #[.int .i64 a0] ?_; (with_reducible refine (cmp_isNaN_int.calls a0 true _ A3.out).mono ?_); rintro e w' ⟨rfl, ⟨nd, rfl⟩⟩; refine ⟨_, rfl, ?_⟩) | (go_at_call 87; (with_reducible refine (cmp_isNaN_int.calls a1 true _ A5.out).mono ?_); rintro e w' ⟨rfl, ⟨nd, rfl⟩⟩))
   go_ret
   exact ⟨by first | rfl | (simp; done) | (simp [*]; done), by repeat (first | exact Drawn0.refl _ | apply Drawn0.step)⟩
  ·replace c6 := Bool.eq_false_iff.mpr c6
   subst c6
   have H1 : (some true) = some r := by rw [if_neg (show ¬ (false = true) by decide)] at H; exact H
   clear H
   have H := H1
   clear H1
   obtain rfl := Option.some.inj H
   go_enter Try.func82, Try.ntmps82
   go_wp2_with (first | ((with_reducible refine gqC (f := 87) rfl ?_); refine GS.gL (some 6) Try.func87 #[.int .i64 a0] ?_; (with_reducible refine (cmp_isNaN_int.calls a0 true _ A3.out).mono ?_); rintro e w' ⟨rfl, ⟨nd, rfl⟩⟩; refine ⟨_, rfl, ?_⟩) | (go_at_call 87; (with_reducible refine (cmp_isNaN_int.calls a1 false _ A5.out).mono ?_); rintro e w' ⟨rfl, ⟨nd, rfl⟩⟩))
   go_ret
   exact ⟨by first | rfl | (simp; done) | (simp [*]; done), by repeat (first | exact Drawn0.refl _ | apply Drawn0.step)⟩
 ·replace c4 := Bool.eq_false_iff.mpr c4
  subst c4
  have H1 : (some (decide (a0 < a1))) = some r := by rw [if_neg (show ¬ (false = true) by decide)] at H; exact H
  clear H
  have H := H1
  clear H1
  obtain rfl := Option.some.inj H
  go_enter Try.func82, Try.ntmps82
  go_wp2_with (first | ((with_reducible refine gqC (f := 87) rfl ?_); refine GS.gL (some 6) Try.func87 #[.int .i64 a0] ?_; (with_reducible refine (cmp_isNaN_int.calls a0 false _ A3.out).mono ?_); rintro e w' ⟨rfl, ⟨nd, rfl⟩⟩; refine ⟨_, rfl, ?_⟩))
  go_ret
  exact ⟨by first | rfl | (simp; done) | (simp [*]; done), by repeat (first | exact Drawn0.refl _ | apply Drawn0.step)⟩

end Go.Proofs.Ythboaobgipodiaa.K
