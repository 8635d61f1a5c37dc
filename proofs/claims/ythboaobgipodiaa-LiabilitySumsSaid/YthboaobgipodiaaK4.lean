-- PRINTED by print.py (a twelfth state) out of the translation. Not trusted: Lean checks it.
import Derived.Test.YthboaobgipodiaaK0
import Derived.Test.YthboaobgipodiaaGPu
import Derived.Test.YthboaobgipodiaaGShort
import Derived.Test.YthboaobgipodiaaK3
namespace Go.Proofs.Ythboaobgipodiaa.K
open Go.RowKit Go.Proofs.YthboaobgipodiaaW.PrintWords Go.Proofs.YthboaobgipodiaaW.PrintLast Go.Proofs.YthboaobgipodiaaW.PrintMore
attribute [local go_sem] max2_int min2_int max_two min_two max_three min_three max_four min_four   -- for this text's walks alone
set_option linter.unusedVariables false
set_option linter.unusedSimpArgs false

/-! ### tariff_compare: function 60 -/
def tariff_compare.f (k : Nat) (a0_0 : Int) (a0_1 : Int) (a0_2 : Int) (a1_0 : Int) (a1_1 : Int) (a1_2 : Int) : Option (Int) := (cmp_Compare_int.f a0_0 a1_0).bind fun t118 => ((cmp_Compare_int.f a0_1 a1_1).bind fun t119 => ((cmp_Or_int.f k (([t118, t119] : List Int))).bind fun t123 => (some t123)))
theorem tariff_compare.mono : ∀ a0 a1 a2 a3 a4 a5 k, LeO (tariff_compare.f k a0 a1 a2 a3 a4 a5) (tariff_compare.f (k + 1) a0 a1 a2 a3 a4 a5) := by
 intro a0 a1 a2 a3 a4 a5 k
 unfold tariff_compare.f
 repeat' first
   | (with_reducible exact cmp_Or_int.mono _ _)
   | (with_reducible exact LeO.refl _)
   | (with_reducible exact LeO.none _)
   | (with_reducible refine LeO.ite ?_ ?_)
   | (with_reducible refine LeO.bind ?_ (fun _ => ?_))
   | exact cmp_Or_int.mono _ _
   | exact LeO.none _
   | refine LeO.ite ?_ ?_
   | refine LeO.bind ?_ (fun _ => ?_)
def tariff_compare.T1 : Bool × List (List Nat × List Nat) := (true, [([], []), ([0], [0]), ([], []), ([2], [2]), ([1, 3], [1, 3]), ([], []), ([5], [5]), ([], []), ([7], [7]), ([6, 8, 4], [6, 8]), ([4, 9], [4, 9]), ([10, 9], [10]), ([11, 11, 0, 1, 2, 3, 4, 5, 6, 7, 8, 9, 10, 11], [11])])
def tariff_compare.B1 : List Nat := [0, 1, 0, 4, 15, 0, 32, 0, 128, 511, 1023, 2047, 4095]
theorem tariff_compare.tab1 : rtab .any (opsOf Try.f60 1) = tariff_compare.T1 := by kernel_rfl
theorem tariff_compare.bits1 : waitsOk tariff_compare.T1.2 tariff_compare.B1 = true := by kernel_rfl
set_option maxHeartbeats 8000000 in
set_option maxRecDepth 100000 in
theorem tariff_compare.calls (k : Nat) (a0_0 : Int) (a0_1 : Int) (a0_2 : Int) (a1_0 : Int) (a1_1 : Int) (a1_2 : Int) (r : Int) (w : World) (h : tariff_compare.f k a0_0 a0_1 a0_2 a1_0 a1_1 a1_2 = some r) :
  Calls Try.prog 60 #[.agg #[.int .i64 a0_0, .int .i64 a0_1, .int .i64 a0_2], .agg #[.int .i64 a1_0, .int .i64 a1_1, .int .i64 a1_2]] w fun e w' => e = .returned (.int .i64 r) ∧ Below w.heap.size w w' := by
 have hu60 := Try.underlying60
 have HB := Aside0.mk (Below.refl w.heap.size w)
 have H : ((cmp_Compare_int.f a0_0 a1_0).bind fun t118 => ((cmp_Compare_int.f a0_1 a1_1).bind fun t119 => ((cmp_Or_int.f k (([t118, t119] : List Int))).bind fun t123 => (some t123)))) = some r := h
 clear h
 replace H := Option.bind_eq_some_iff.mp H
 obtain ⟨t118, A30, H⟩ := H
 replace H : ((cmp_Compare_int.f a0_1 a1_1).bind fun t119 => ((cmp_Or_int.f k (([t118, t119] : List Int))).bind fun t123 => (some t123))) = some r := H
 have A3 := Aside0.mk A30
 clear A30
 replace H := Option.bind_eq_some_iff.mp H
 obtain ⟨t119, A40, H⟩ := H
 replace H : ((cmp_Or_int.f k (([t118, t119] : List Int))).bind fun t123 => (some t123)) = some r := H
 have A4 := Aside0.mk A40
 clear A40
 obtain ⟨y120, hy120⟩ : ∃ y_ : List Int, y_ = (([t118, t119] : List Int)) := ⟨_, rfl⟩
 replace H : ((cmp_Or_int.f k y120).bind fun t123 => (some t123)) = some r := by first | (rw [hy120]; with_reducible exact H) | (have H2_ := (Option.bind_some _ _).symm.trans H; rw [hy120]; with_reducible exact H2_) | (have H2_ := (Option.bind_some _ _).symm.trans H; with_reducible exact H2_) | with_reducible exact H | (rw [hy120]; exact H) | exact H
 have Ny120 := Aside0.mk hy120
 clear hy120
 replace H := Option.bind_eq_some_iff.mp H
 obtain ⟨t123, A50, H⟩ := H
 replace H : (some t123) = some r := H
 have A5 := Aside0.mk A50
 clear A50
 obtain rfl := Option.some.inj H
 go_enter Try.func60, Try.ntmps60
 try go_wp2_with (first | ((with_reducible refine gqD (N := 2) rfl ?_); refine GS.bx (N := 2) (cs := #[.int .i64 a0_0, .int .i64 a0_1, .int .i64 a0_2]) (t := 60) ?_; intro gb116 hg w6 hbox hb; have n0_ := Aside0.mk (lqT (GS.lB HB.out) hb); have n1_ := Aside0.mk (hbox); have n2_ := Aside0.mk ((by rw [hg]; exact (lqZ (GS.lB HB.out)) : w.heap.size ≤ gb116)); have n3_ := Aside0.mk ((by rw [hg]; exact (lqZ (GS.lB HB.out)) : w.heap.size ≤ gb116)); clear HB; have HB := n0_; have BK116 := n1_; have GW116 := n2_; have GE116 := n3_; clear n0_ n1_ n2_ n3_; clear hb hbox hg) | ((with_reducible refine gqD (N := 3) rfl ?_); refine GS.bx (N := 3) (cs := #[.int .i64 a1_0, .int .i64 a1_1, .int .i64 a1_2]) (t := 60) ?_; intro gb117 hg w7 hbox hb; have n0_ := Aside0.mk (bqB (GS.bqX BK116.out) hb); have n1_ := Aside0.mk (lqT (GS.lB HB.out) hb); have n2_ := Aside0.mk (hbox); have n3_ := Aside0.mk ((by rw [hg]; exact (lqZ (GS.lB HB.out)) : w.heap.size ≤ gb117)); have n4_ := Aside0.mk ((by rw [hg]; exact (lqZ (GS.lB HB.out)) : w.heap.size ≤ gb117)); have n5_ := Aside0.mk ((by rw [hg]; exact Nat.ne_of_lt (blk_lt (GS.bqX BK116.out)) : gb116 ≠ gb117)); have n6_ := Aside0.mk ((by rw [hg]; exact Nat.ne_of_gt (blk_lt (GS.bqX BK116.out)) : gb117 ≠ gb116)); clear BK116; clear HB; have BK116 := n0_; have HB := n1_; have BK117 := n2_; have GW117 := n3_; have GE117 := n4_; have NB116_117 := n5_; have NB117_116 := n6_; clear n0_ n1_ n2_ n3_ n4_ n5_ n6_; clear hb hbox hg))
 have n0_ := Aside0.mk (bqD BK116.out)
 have n1_ := Aside0.mk (bqD BK117.out)
 have n2_ := Aside0.mk (lqD HB.out)
 clear BK116
 clear BK117
 clear HB
 have BK116 := n0_
 have BK117 := n1_
 have HB := n2_
 clear n0_ n1_ n2_
 refine start_ (n := 13) (S := fun w' => w'.cell? ⟨gb116, 0, none⟩ = some (.int .i64 a0_0) ∧ w'.cell? ⟨gb116, 1, none⟩ = some (.int .i64 a0_1) ∧ w'.cell? ⟨gb116, 2, none⟩ = some (.int .i64 a0_2) ∧ w'.cell? ⟨gb117, 0, none⟩ = some (.int .i64 a1_0) ∧ w'.cell? ⟨gb117, 1, none⟩ = some (.int .i64 a1_1) ∧ w'.cell? ⟨gb117, 2, none⟩ = some (.int .i64 a1_2)) (ds := []) #[false, false, false, false, false, false, false, false, false, false, false, false, false] (by kernel_rfl) rfl rfl ⟨(bqC BK116.out 0).trans rfl, (bqC BK116.out 1).trans rfl, (bqC BK116.out 2).trans rfl, (bqC BK117.out 0).trans rfl, (bqC BK117.out 1).trans rfl, (bqC BK117.out 2).trans rfl⟩ (fun hHeld => ?_); refine with_tabW tariff_compare.tab1 tariff_compare.bits1 (fun HT_ HW_ => ?_)
 generalize w7.drew = w8 at BK116 BK117 HB hHeld ⊢
 refine GS.pu 0 (some 5) HT_.out ?_
 refine GS.pu 2 (some 7) HT_.out ?_
 refine GS.pu 5 (some 10) HT_.out ?_
 refine GS.pu 7 (some 12) HT_.out ?_
 refine GS.tk 1 (some 6) HT_.out HW_.out hHeld ?_
 refine GS.tk 3 (some 8) HT_.out HW_.out hHeld ?_
 refine GS.tk 6 (some 11) HT_.out HW_.out hHeld ?_
 refine GS.tk 8 (some 13) HT_.out HW_.out hHeld ?_
 refine one_ (i := 4) (N := some 9) #[true, true, true, true, true, true, true, true, true, false, false, false, false] rfl rfl (one_of HT_.out (by kernel_rfl)) (by decide) (fun K hK => ?_)
 refine goes_ Try.func73 (by kernel_rfl) rfl #[.int .i64 a0_0, .int .i64 a1_0] (by rfl) rfl rfl (by (try simp only [List.map_toArray, List.map_cons, List.map_nil]); first | done | rfl | (simp only [List.length_drop, List.length_take]; rfl)) ?_
 with_reducible refine (cmp_Compare_int.calls a0_0 a1_0 t118 _ A3.out).mono ?_
 rintro e w' ⟨rfl, ⟨nd, rfl⟩⟩
 refine ⟨_, rfl, ?_⟩
 refine hK.out _ _ ⟨(bqC BK116.out 0).trans rfl, (bqC BK116.out 1).trans rfl, (bqC BK116.out 2).trans rfl, (bqC BK117.out 0).trans rfl, (bqC BK117.out 1).trans rfl, (bqC BK117.out 2).trans rfl⟩ (fun hHeld => ?_)
 clear hK K
 refine norm_ (a' := ?_) ?_ ?_
 rotate_left
 ·show Act.put _ (some 9) _ = _
  simp only [Act.put, List.setIfInBounds_toArray, List.set_cons_zero, List.set_cons_succ, i64_w, i32_w]
  rfl
 refine one_ (i := 9) (N := some 14) #[true, true, true, true, true, true, true, true, true, true, false, false, false] rfl rfl (one_of HT_.out (by kernel_rfl)) (by decide) (fun K hK => ?_)
 refine goes_ Try.func73 (by kernel_rfl) rfl #[.int .i64 a0_1, .int .i64 a1_1] (by rfl) rfl rfl (by (try simp only [List.map_toArray, List.map_cons, List.map_nil]); first | done | rfl | (simp only [List.length_drop, List.length_take]; rfl)) ?_
 with_reducible refine (cmp_Compare_int.calls a0_1 a1_1 t119 _ A4.out).mono ?_
 rintro e w' ⟨rfl, ⟨nd, rfl⟩⟩
 refine ⟨_, rfl, ?_⟩
 refine hK.out _ _ ⟨(bqC BK116.out 0).trans rfl, (bqC BK116.out 1).trans rfl, (bqC BK116.out 2).trans rfl, (bqC BK117.out 0).trans rfl, (bqC BK117.out 1).trans rfl, (bqC BK117.out 2).trans rfl⟩ (fun hHeld => ?_)
 clear hK K
 refine norm_ (a' := ?_) ?_ ?_
 rotate_left
 ·show Act.put _ (some 14) _ = _
  simp only [Act.put, List.setIfInBounds_toArray, List.set_cons_zero, List.set_cons_succ, i64_w, i32_w]
  rfl
 refine one_ (i := 10) (N := some 15) #[true, true, true, true, true, true, true, true, true, true, true, false, false] rfl rfl (one_of HT_.out (by kernel_rfl)) (by decide) (fun K hK => ?_)
 refine Kd.R_lit_step (Kd.int .i64) _ 3 ?hg (N := 15) ?hd (xs := ([t118, t119] : List Int)) (inner := [.int .i64 t118, .int .i64 t119]) (ok := fun _ => True) (okp := fun _ => True) ?hr ?hp (fun _ hk => hk) trivial (Below.refl _ _) (Nat.le_refl _) (by simp) ?_; (case hd => rfl); (case hg => rfl); (case hr => first | (go_simp; done) | (go_simp; rfl)); (case hp => exact (Reps.one (show Kd.M (Kd.int .i64) _ _ _ t118 [.int .i64 t118] from rfl) (Reps.one (show Kd.M (Kd.int .i64) _ _ _ t119 [.int .i64 t119] from rfl) (Reps.none _ _))))
 intro v121 w9 ho10 hb hg_ hnew_
 clear hg_ hnew_
 (first | rw [← Ny120.out] at ho10 | (simp only [Int.reduceToNat] at ho10; rw [← Ny120.out] at ho10))
 have n0_ := Aside0.mk (Kd.R_lower ho10 (lqZ (GS.lB HB.out)))
 have n1_ := Aside0.mk (bqB (GS.bqX BK116.out) hb)
 have n2_ := Aside0.mk (bqB (GS.bqX BK117.out) hb)
 have n3_ := Aside0.mk (lqT (GS.lB HB.out) hb)
 clear BK116
 clear BK117
 clear HB
 have HO122 := n0_
 have BK116 := n1_
 have BK117 := n2_
 have HB := n3_
 clear n0_ n1_ n2_ n3_
 clear hb ho10
 obtain ⟨Ao11, co11, eo11⟩ := Kd.R_slice HO122.out
 (first | subst eo11 | (injection eo11 with f1_ f2_ f3_; have f4_ := f1_.symm; have f5_ := f3_.symm; clear f1_ f2_ f3_; subst f4_; subst f5_))
 refine hK.out _ _ ⟨(bqC BK116.out 0).trans rfl, (bqC BK116.out 1).trans rfl, (bqC BK116.out 2).trans rfl, (bqC BK117.out 0).trans rfl, (bqC BK117.out 1).trans rfl, (bqC BK117.out 2).trans rfl⟩ (fun hHeld => ?_)
 clear hK K
 refine norm_ (a' := ?_) ?_ ?_
 rotate_left
 ·show Act.put _ (some 15) _ = _
  simp only [Act.put, List.setIfInBounds_toArray, List.set_cons_zero, List.set_cons_succ, i64_w, i32_w]
  rfl
 refine one_ (i := 11) (N := some 16) #[true, true, true, true, true, true, true, true, true, true, true, true, false] rfl rfl (one_of HT_.out (by kernel_rfl)) (by decide) (fun K hK => ?_)
 refine goes_ Try.func72 (by kernel_rfl) rfl #[.slice Ao11 y120.length co11] (by rfl) rfl rfl (by (try simp only [List.map_toArray, List.map_cons, List.map_nil]); first | done | rfl | (simp only [List.length_drop, List.length_take]; rfl)) ?_
 with_reducible refine (cmp_Or_int.calls k _ _ y120 t123 _ ?side1 ?side2 A5.out).mono ?_
 (case side1 => repeat (first | exact (Kd.R_reads' HO122.out).2.2 | (with_reducible refine Kd.C_alloc ?_ _) | (with_reducible refine Kd.C_drewN ?_ _) | (with_reducible refine Kd.C_drew ?_)))
 (case side2 => exact (Kd.R_reads' HO122.out).2.1)
 rintro e w' ⟨rfl, ⟨nd, rfl⟩⟩
 refine ⟨_, rfl, ?_⟩
 refine hK.out _ _ ⟨(bqC BK116.out 0).trans rfl, (bqC BK116.out 1).trans rfl, (bqC BK116.out 2).trans rfl, (bqC BK117.out 0).trans rfl, (bqC BK117.out 1).trans rfl, (bqC BK117.out 2).trans rfl⟩ (fun hHeld => ?_)
 clear hK K
 refine norm_ (a' := ?_) ?_ ?_
 rotate_left
 ·show Act.put _ (some 16) _ = _
  simp only [Act.put, List.setIfInBounds_toArray, List.set_cons_zero, List.set_cons_succ, i64_w, i32_w]
  rfl
 refine GS.pu 12 (some 4) HT_.out ?_
 refine done_ (done_of HT_.out (by kernel_rfl)) ?_
 try go_wp2
 go_ret
 exact ⟨by first | rfl | (simp [errW_none, errW_some] <;> rfl) | (simp [*, errW_none, errW_some] <;> rfl), GS.lB HB.out⟩

/-! ### tariff_Check: function 44 -/
def tariff_Check.l0 : Nat → List (S60) → Int → Int → Int → List (S60) → Option (Int × Int)
 | 0, _, _, _, _, _ => none
 | k + 1, x17, x18, x19, x125000, x125001 => if x19 < x18 then (if 0 ≤ x19 then (if x19 < (x17.length : Int) then ((tariff_ranged.f ((rd_T60 x17 x19).f0) ((rd_T60 x17 x19).f1) ((rd_T60 x17 x19).f2)).bind fun t128 => (if t128 = true then (if x19 > 0 then (if 0 ≤ (wrap64 (x19 - 1)) then (if (wrap64 (x19 - 1)) < (x125001.length : Int) then ((tariff_compare.f k ((rd_T60 x125001 (wrap64 (x19 - 1))).f0) ((rd_T60 x125001 (wrap64 (x19 - 1))).f1) ((rd_T60 x125001 (wrap64 (x19 - 1))).f2) ((rd_T60 x17 x19).f0) ((rd_T60 x17 x19).f1) ((rd_T60 x17 x19).f2)).bind fun t130 => (if t130 ≥ 0 then (some (x19, 5)) else (tariff_Check.l0 k x17 x18 (wrap64 (x19 + 1)) x125000 x125001))) else (none)) else (none)) else (tariff_Check.l0 k x17 x18 (wrap64 (x19 + 1)) x125000 x125001)) else (some (x19, 2)))) else (none)) else (none)) else (some ((-1), 0))
def tariff_Check.f (k : Nat) (a0_0 : Int) (l0_1 : List (S60)) : Option (Int × Int) := (tariff_within.f a0_0 1 4).bind fun t125 => (if t125 = true then (if (l0_1.length : Int) > 64 then (some ((-1), 8)) else (tariff_Check.l0 k l0_1 (l0_1.length : Int) 0 a0_0 l0_1)) else (some ((-1), 2)))
theorem tariff_Check.mono_l : ∀ k, (∀ y0 y1 y2 y3 y4, LeO (tariff_Check.l0 k y0 y1 y2 y3 y4) (tariff_Check.l0 (k + 1) y0 y1 y2 y3 y4))
 | 0 => fun _ _ _ _ _ r h => by simp [tariff_Check.l0] at h
 | k + 1 => by
  have ih0 := tariff_Check.mono_l k
  ·intro y0 y1 y2 y3 y4
   unfold tariff_Check.l0
   repeat' first
   | (with_reducible exact ih0 _ _ _ _ _)
   | (with_reducible exact tariff_compare.mono _ _ _ _ _ _ _)
   | (with_reducible exact LeO.refl _)
   | (with_reducible exact LeO.none _)
   | (with_reducible refine LeO.ite ?_ ?_)
   | (with_reducible refine LeO.bind ?_ (fun _ => ?_))
   | exact ih0 _ _ _ _ _
   | exact tariff_compare.mono _ _ _ _ _ _ _
   | exact LeO.none _
   | refine LeO.ite ?_ ?_
   | refine LeO.bind ?_ (fun _ => ?_)
theorem tariff_Check.mono : ∀ a0 a1 k, LeO (tariff_Check.f k a0 a1) (tariff_Check.f (k + 1) a0 a1) := by
 intro a0 a1 k
 have ih0 := tariff_Check.mono_l k
 unfold tariff_Check.f
 repeat' first
   | (with_reducible exact ih0 _ _ _ _ _)
   | (with_reducible exact tariff_compare.mono _ _ _ _ _ _ _)
   | (with_reducible exact LeO.refl _)
   | (with_reducible exact LeO.none _)
   | (with_reducible refine LeO.ite ?_ ?_)
   | (with_reducible refine LeO.bind ?_ (fun _ => ?_))
   | exact ih0 _ _ _ _ _
   | exact tariff_compare.mono _ _ _ _ _ _ _
   | exact LeO.none _
   | refine LeO.ite ?_ ?_
   | refine LeO.bind ?_ (fun _ => ?_)
def tariff_Check.T10 : Bool × List (List Nat × List Nat) := (true, [([], []), ([0], [0]), ([1], [1]), ([2], [2]), ([3, 2], [2, 3]), ([2], [2]), ([5, 2], [2, 5]), ([4, 6, 2], [2, 4, 6]), ([7, 2], [2, 7]), ([2], [2]), ([8, 9, 2, 2], [2, 8, 9]), ([10, 2], [2, 10]), ([2, 11], [2, 11]), ([12, 10], [12])])
def tariff_Check.B10 : List Nat := [0, 1, 3, 7, 15, 7, 39, 127, 255, 7, 1023, 2047, 4095, 8191]
theorem tariff_Check.tab10 : rtab .any (opsOf Try.f44 10) = tariff_Check.T10 := by kernel_rfl
theorem tariff_Check.bits10 : waitsOk tariff_Check.T10.2 tariff_Check.B10 = true := by kernel_rfl
set_option maxHeartbeats 8000000 in
set_option maxRecDepth 100000 in
theorem tariff_Check.calls (k : Nat) (a0_0 : Int) (A0_1 : Option Addr) (c0_1 : Nat) (l0_1 : List (S60)) (r1 : Int) (r2 : Int) (w : World) (hr0_1 : Kd.C k60 w A0_1 l0_1.length l0_1) (hc0_1 : l0_1.length ≤ c0_1) (h : tariff_Check.f k a0_0 l0_1 = some (r1, r2)) :
  Calls Try.prog 44 #[.agg #[.int .i64 a0_0, .slice A0_1 l0_1.length c0_1]] w fun e w' => e = .returned (.tuple #[.int .i64 r1, .int .i64 r2]) ∧ Below w.heap.size w w' := by
 have hu24 := Try.underlying24
 have hu60 := Try.underlying60
 have HR0_1 := Aside0.mk hr0_1
 have HC0_1 := Aside0.mk hc0_1
 clear hr0_1 hc0_1
 have HB := Aside0.mk (Below.refl w.heap.size w)
 have H : ((tariff_within.f a0_0 1 4).bind fun t125 => (if t125 = true then (if (l0_1.length : Int) > 64 then (some ((-1), 8)) else (tariff_Check.l0 k l0_1 (l0_1.length : Int) 0 a0_0 l0_1)) else (some ((-1), 2)))) = some (r1, r2) := h
 clear h
 replace H := Option.bind_eq_some_iff.mp H
 obtain ⟨t125, A20, H⟩ := H
 replace H : (if t125 = true then (if (l0_1.length : Int) > 64 then (some ((-1), 8)) else (tariff_Check.l0 k l0_1 (l0_1.length : Int) 0 a0_0 l0_1)) else (some ((-1), 2))) = some (r1, r2) := H
 have A2 := Aside0.mk A20
 clear A20
 by_cases c3 : t125 = true
 ·subst c3
  have H1 : (if (l0_1.length : Int) > 64 then (some ((-1), 8)) else (tariff_Check.l0 k l0_1 (l0_1.length : Int) 0 a0_0 l0_1)) = some (r1, r2) := by rw [if_pos rfl] at H; exact H
  clear H
  have H := H1
  clear H1
  by_cases c4 : (l0_1.length : Int) > 64
  ·rw [if_pos c4] at H
   have c4b0 : decide (64 < (l0_1.length : Int)) = true := decide_eq_true c4
   have c4b1 : decide (64 < l0_1.length) = true := decide_eq_true (by omega)
   clear c4
   simp only [Option.some.injEq, Prod.mk.injEq] at H
   obtain ⟨rfl, rfl⟩ := H
   go_enter Try.func44, Try.ntmps44
   go_wp2_with (first | ((with_reducible refine gqD (N := 1) rfl ?_); refine GS.bx (N := 1) (cs := #[.int .i64 a0_0, .slice A0_1 l0_1.length c0_1]) (t := 24) ?_; intro gb124 hg w5 hbox hb; have n0_ := Aside0.mk (lqT (GS.lB HB.out) hb); have n1_ := Aside0.mk (hbox); have n2_ := Aside0.mk ((by rw [hg]; exact (lqZ (GS.lB HB.out)) : w.heap.size ≤ gb124)); have n3_ := Aside0.mk ((by rw [hg]; exact (lqZ (GS.lB HB.out)) : w.heap.size ≤ gb124)); clear HB; have HB := n0_; have BK124 := n1_; have GW124 := n2_; have GE124 := n3_; clear n0_ n1_ n2_ n3_; clear hb hbox hg; obtain ⟨hcz6_0, hcz6_1, hfz6_0, hfz6_1⟩ := GS.c2 BK124.out) | ((with_reducible refine gqC (f := 58) rfl ?_); refine GS.gL (some 9) Try.func58 #[.int .i64 a0_0, .int .i64 1, .int .i64 4] ?_; (with_reducible refine (tariff_within.calls a0_0 1 4 true _ A2.out).mono ?_); rintro e w' ⟨rfl, ⟨nd, rfl⟩⟩; refine ⟨_, rfl, ?_⟩))
   go_ret2
   exact ⟨by first | rfl | (simp [errW_none, errW_some] <;> rfl) | (simp [*, errW_none, errW_some] <;> rfl), GS.lB HB.out⟩
  ·rw [if_neg c4] at H
   have c4b0 : decide (64 < (l0_1.length : Int)) = false := decide_eq_false c4
   have c4b1 : decide (64 < l0_1.length) = false := decide_eq_false (by omega)
   clear c4
   have H' := Aside0.mk H
   clear H
   go_enter Try.func44, Try.ntmps44
   go_wp2_with (first | ((with_reducible refine gqD (N := 1) rfl ?_); refine GS.bx (N := 1) (cs := #[.int .i64 a0_0, .slice A0_1 l0_1.length c0_1]) (t := 24) ?_; intro gb124 hg w7 hbox hb; have n0_ := Aside0.mk (lqT (GS.lB HB.out) hb); have n1_ := Aside0.mk (hbox); have n2_ := Aside0.mk ((by rw [hg]; exact (lqZ (GS.lB HB.out)) : w.heap.size ≤ gb124)); have n3_ := Aside0.mk ((by rw [hg]; exact (lqZ (GS.lB HB.out)) : w.heap.size ≤ gb124)); clear HB; have HB := n0_; have BK124 := n1_; have GW124 := n2_; have GE124 := n3_; clear n0_ n1_ n2_ n3_; clear hb hbox hg; obtain ⟨hcz8_0, hcz8_1, hfz8_0, hfz8_1⟩ := GS.c2 BK124.out) | ((with_reducible refine gqC (f := 58) rfl ?_); refine GS.gL (some 9) Try.func58 #[.int .i64 a0_0, .int .i64 1, .int .i64 4] ?_; (with_reducible refine (tariff_within.calls a0_0 1 4 true _ A2.out).mono ?_); rintro e w' ⟨rfl, ⟨nd, rfl⟩⟩; refine ⟨_, rfl, ?_⟩))
   go_loopg [19] k (fun kq v19 w' => ∃ (x19_1 : Int), v19 = .int .i64 x19_1 ∧ Aside0 (tariff_Check.l0 kq l0_1 (l0_1.length : Int) x19_1 a0_0 l0_1 = some (r1, r2)) ∧ Aside0 (kq ≤ k) ∧ Aside0 (w'.heap[gb124]? = some (.cells #[.int .i64 a0_0, (.slice A0_1 l0_1.length c0_1)] 24 (0, 0))) ∧ Aside0 (Below w.heap.size w w'))
   case atStart => exact ⟨(0), (by first | rfl | (simp; done) | (simp [*]; done)), H', ⟨Nat.le_refl _⟩, ⟨GS.bqX BK124.out⟩, ⟨GS.lB HB.out⟩⟩
   case round =>
    clear H'
    try clear p2
    try clear c3
    try clear c4
    try clear c4b0
    try clear c4b1
    try clear c5
    try clear hcz6_0
    try clear hcz6_1
    try clear hcz8_0
    try clear hcz8_1
    try clear hfz6_0
    try clear hfz6_1
    try clear hfz8_0
    try clear hfz8_1
    obtain ⟨x19_1, rfl, HA, HK1, BK124, HB⟩ := hrel
    cases gk with
    | zero => exact absurd HA.out (by simp [tariff_Check.l0])
    | succ k1 =>
     have H := HA.out
     clear HA
     simp only [tariff_Check.l0] at H
     by_cases c9 : x19_1 < (l0_1.length : Int)
     ·rw [if_pos c9] at H
      have c9b0 : decide (x19_1 < (l0_1.length : Int)) = true := decide_eq_true c9
      clear c9
      by_cases c10 : 0 ≤ x19_1
      ·rw [if_pos c10] at H
       have c10b0 : decide (0 ≤ x19_1) = true := decide_eq_true c10
       clear c10
       by_cases c11 : x19_1 < (l0_1.length : Int)
       ·rw [if_pos c11] at H
        have c11b0 : decide (x19_1 < (l0_1.length : Int)) = true := decide_eq_true c11
        clear c11
        replace H := Option.bind_eq_some_iff.mp H
        obtain ⟨t128, A120, H⟩ := H
        replace H : (if t128 = true then (if x19_1 > 0 then (if 0 ≤ (wrap64 (x19_1 - 1)) then (if (wrap64 (x19_1 - 1)) < (l0_1.length : Int) then ((tariff_compare.f k1 ((rd_T60 l0_1 (wrap64 (x19_1 - 1))).f0) ((rd_T60 l0_1 (wrap64 (x19_1 - 1))).f1) ((rd_T60 l0_1 (wrap64 (x19_1 - 1))).f2) ((rd_T60 l0_1 x19_1).f0) ((rd_T60 l0_1 x19_1).f1) ((rd_T60 l0_1 x19_1).f2)).bind fun t130 => (if t130 ≥ 0 then (some (x19_1, 5)) else (tariff_Check.l0 k1 l0_1 (l0_1.length : Int) (wrap64 (x19_1 + 1)) a0_0 l0_1))) else (none)) else (none)) else (tariff_Check.l0 k1 l0_1 (l0_1.length : Int) (wrap64 (x19_1 + 1)) a0_0 l0_1)) else (some (x19_1, 2))) = some (r1, r2) := H
        have A12 := Aside0.mk A120
        clear A120
        by_cases c13 : t128 = true
        ·subst c13
         have H1 : (if x19_1 > 0 then (if 0 ≤ (wrap64 (x19_1 - 1)) then (if (wrap64 (x19_1 - 1)) < (l0_1.length : Int) then ((tariff_compare.f k1 ((rd_T60 l0_1 (wrap64 (x19_1 - 1))).f0) ((rd_T60 l0_1 (wrap64 (x19_1 - 1))).f1) ((rd_T60 l0_1 (wrap64 (x19_1 - 1))).f2) ((rd_T60 l0_1 x19_1).f0) ((rd_T60 l0_1 x19_1).f1) ((rd_T60 l0_1 x19_1).f2)).bind fun t130 => (if t130 ≥ 0 then (some (x19_1, 5)) else (tariff_Check.l0 k1 l0_1 (l0_1.length : Int) (wrap64 (x19_1 + 1)) a0_0 l0_1))) else (none)) else (none)) else (tariff_Check.l0 k1 l0_1 (l0_1.length : Int) (wrap64 (x19_1 + 1)) a0_0 l0_1)) = some (r1, r2) := by rw [if_pos rfl] at H; exact H
         clear H
         have H := H1
         clear H1
         by_cases c14 : x19_1 > 0
         ·rw [if_pos c14] at H
          have c14b0 : decide (0 < x19_1) = true := decide_eq_true c14
          clear c14
          obtain ⟨ji15, hji15⟩ : ∃ j_ : Int, (wrap64 (x19_1 - 1)) = j_ := ⟨_, rfl⟩
          replace H : (if 0 ≤ (ji15) then (if (ji15) < (l0_1.length : Int) then ((tariff_compare.f k1 ((rd_T60 l0_1 (ji15)).f0) ((rd_T60 l0_1 (ji15)).f1) ((rd_T60 l0_1 (ji15)).f2) ((rd_T60 l0_1 x19_1).f0) ((rd_T60 l0_1 x19_1).f1) ((rd_T60 l0_1 x19_1).f2)).bind fun t130 => (if t130 ≥ 0 then (some (x19_1, 5)) else (tariff_Check.l0 k1 l0_1 (l0_1.length : Int) (wrap64 (x19_1 + 1)) a0_0 l0_1))) else (none)) else (none)) = some (r1, r2) := by first | (rw [hji15] at H; exact H) | (simp only [hji15] at H ⊢; exact H)
          (try rw [hji15] at A12)
          have hji15w : (IntKind.i64.wrap (x19_1 - 1)) = ji15 := (i64_w _).trans hji15
          by_cases c16 : 0 ≤ (ji15)
          ·rw [if_pos c16] at H
           have c16b0 : decide (0 ≤ (ji15)) = true := decide_eq_true c16
           clear c16
           by_cases c17 : (ji15) < (l0_1.length : Int)
           ·rw [if_pos c17] at H
            have c17b0 : decide ((ji15) < (l0_1.length : Int)) = true := decide_eq_true c17
            clear c17
            replace H := Option.bind_eq_some_iff.mp H
            obtain ⟨t130, A180, H⟩ := H
            replace H : (if t130 ≥ 0 then (some (x19_1, 5)) else (tariff_Check.l0 k1 l0_1 (l0_1.length : Int) (wrap64 (x19_1 + 1)) a0_0 l0_1)) = some (r1, r2) := H
            have A18 := Aside0.mk A180
            clear A180
            by_cases c19 : t130 ≥ 0
            ·rw [if_pos c19] at H
             have c19b0 : decide (0 ≤ t130) = true := decide_eq_true c19
             clear c19
             simp only [Option.some.injEq, Prod.mk.injEq] at H
             obtain ⟨rfl, rfl⟩ := H
             have p126 : 0 ≤ (x19_1 : Int) := of_decide_eq_true (by first | (with_reducible assumption) | assumption)
             have q126 : x19_1 < (l0_1.length : Int) := of_decide_eq_true (by first | (with_reducible assumption) | assumption)
             obtain ⟨ad126, e126, hx126_0, hx126_1, hx126_2⟩ := at_T60 HR0_1.out x19_1 p126 q126
             cases e126
             replace hx126_0 := (HB.out.cell (World.block_lt_of_cell? w _ hx126_0)).trans hx126_0
             replace hx126_1 := (HB.out.cell (World.block_lt_of_cell? w _ hx126_1)).trans hx126_1
             replace hx126_2 := (HB.out.cell (World.block_lt_of_cell? w _ hx126_2)).trans hx126_2
             replace p126 := eq_true p126
             replace q126 := eq_true q126
             try go_wp2_with (first | ((with_reducible refine gqD (N := 5) rfl ?_); refine GS.bx (N := 5) (cs := #[.int .i64 0, .int .i64 0, .int .i64 0]) (t := 60) ?_; intro gb127 hg w20 hbox hb; have n0_ := Aside0.mk (bqB (GS.bqX BK124.out) hb); have n1_ := Aside0.mk (lqT (GS.lB HB.out) hb); have n2_ := Aside0.mk (hbox); have n3_ := Aside0.mk ((by rw [hg]; exact (lqZ (GS.lB HB.out)) : w.heap.size ≤ gb127)); have n4_ := Aside0.mk ((by rw [hg]; exact (lqZ (GS.lB HB.out)) : w.heap.size ≤ gb127)); have n5_ := Aside0.mk ((by rw [hg]; exact Nat.ne_of_lt (blk_lt (GS.bqX BK124.out)) : gb124 ≠ gb127)); have n6_ := Aside0.mk ((by rw [hg]; exact Nat.ne_of_gt (blk_lt (GS.bqX BK124.out)) : gb127 ≠ gb124)); clear BK124; clear HB; have BK124 := n0_; have HB := n1_; have BK127 := n2_; have GW127 := n3_; have GE127 := n4_; have NB124_127 := n5_; have NB127_124 := n6_; clear n0_ n1_ n2_ n3_ n4_ n5_ n6_; clear hb hbox hg; have hnb21 := NB127_124.out; have hnc21 := NB124_127.out; obtain ⟨hcz22_0, hcz22_1, hcz22_2, hfz22_0, hfz22_1, hfz22_2⟩ := GS.c3 BK127.out) | ((with_reducible refine gqC (f := 59) rfl ?_); refine GS.gL (some 26) Try.func59 #[.agg #[.int .i64 ((rd_T60 l0_1 x19_1).f0), .int .i64 ((rd_T60 l0_1 x19_1).f1), .int .i64 ((rd_T60 l0_1 x19_1).f2)]] ?_; (with_reducible refine (tariff_ranged.calls ((rd_T60 l0_1 x19_1).f0) ((rd_T60 l0_1 x19_1).f1) ((rd_T60 l0_1 x19_1).f2) true _ A12.out).mono ?_); rintro e w23 ⟨rfl, hb⟩; refine ⟨_, rfl, ?_⟩; have n0_ := Aside0.mk (bqB (GS.bqX BK124.out) hb); have n1_ := Aside0.mk (bqB (g := gb127) (o := .cells #[.int .i64 ((rd_T60 l0_1 x19_1).f0), .int .i64 ((rd_T60 l0_1 x19_1).f1), .int .i64 ((rd_T60 l0_1 x19_1).f2)] 60 (0, 0)) (GS.bqZ BK127.out) hb); have n2_ := Aside0.mk (lqT (GS.lB HB.out) hb); clear BK124; clear BK127; clear HB; have BK124 := n0_; have BK127 := n1_; have HB := n2_; clear n0_ n1_ n2_; (try clear hb); (try clear hb2); (try clear hk); (try clear hi)))
             have n0_ := Aside0.mk (bqD BK124.out)
             have n1_ := Aside0.mk (bqD BK127.out)
             have n2_ := Aside0.mk (lqD HB.out)
             clear BK124
             clear BK127
             clear HB
             have BK124 := n0_
             have BK127 := n1_
             have HB := n2_
             clear n0_ n1_ n2_
             have p129 : 0 ≤ ((ji15) : Int) := of_decide_eq_true (by first | (with_reducible assumption) | assumption)
             have q129 : (ji15) < (l0_1.length : Int) := of_decide_eq_true (by first | (with_reducible assumption) | assumption)
             obtain ⟨ad129, e129, hx129_0, hx129_1, hx129_2⟩ := at_T60 HR0_1.out (ji15) p129 q129
             have hw129_2 := hx129_2
             have hw129_1 := hx129_1
             have hw129_0 := hx129_0
             obtain rfl : ad126 = ad129 := (by injection e129)
             replace hx129_0 := (HB.out.cell (World.block_lt_of_cell? w _ hx129_0)).trans hx129_0
             replace hx129_1 := (HB.out.cell (World.block_lt_of_cell? w _ hx129_1)).trans hx129_1
             replace hx129_2 := (HB.out.cell (World.block_lt_of_cell? w _ hx129_2)).trans hx129_2
             replace p129 := eq_true p129
             replace q129 := eq_true q129
             refine start_ (n := 14) (S := fun w' => w'.cell? ⟨gb124, 0, none⟩ = some (.int .i64 a0_0) ∧ w'.cell? ⟨gb124, 1, none⟩ = some (.slice (some ad126) l0_1.length c0_1) ∧ w'.cell? ⟨gb127, 0, none⟩ = some (.int .i64 ((rd_T60 l0_1 x19_1).f0)) ∧ w'.cell? ⟨gb127, 1, none⟩ = some (.int .i64 ((rd_T60 l0_1 x19_1).f1)) ∧ w'.cell? ⟨gb127, 2, none⟩ = some (.int .i64 ((rd_T60 l0_1 x19_1).f2)) ∧ w'.cell? (ad126.add (((ji15)).toNat * 3)) = some (.int .i64 ((rd_T60 l0_1 (ji15)).f0)) ∧ w'.cell? ⟨(ad126.add (((ji15)).toNat * 3)).block, (ad126.add (((ji15)).toNat * 3)).off + 1, none⟩ = some (.int .i64 ((rd_T60 l0_1 (ji15)).f1)) ∧ w'.cell? ⟨(ad126.add (((ji15)).toNat * 3)).block, (ad126.add (((ji15)).toNat * 3)).off + 2, none⟩ = some (.int .i64 ((rd_T60 l0_1 (ji15)).f2))) (ds := []) #[false, false, false, false, false, false, false, false, false, false, false, false, false, false] (by kernel_rfl) rfl rfl ⟨(bqC BK124.out 0).trans rfl, (bqC BK124.out 1).trans rfl, (bqC BK127.out 0).trans rfl, (bqC BK127.out 1).trans rfl, (bqC BK127.out 2).trans rfl, ((HB.out.cell (World.block_lt_of_cell? w _ hw129_0)).trans hw129_0), ((HB.out.cell (World.block_lt_of_cell? w _ hw129_1)).trans hw129_1), ((HB.out.cell (World.block_lt_of_cell? w _ hw129_2)).trans hw129_2)⟩ (fun hHeld => ?_); refine with_tabW tariff_Check.tab10 tariff_Check.bits10 (fun HT_ HW_ => ?_)
             generalize w23.drew = w24 at BK124 BK127 HB hx129_0 hx129_1 hx129_2 hHeld ⊢
             refine GS.pu 0 (some 30) HT_.out ?_
             refine GS.pu 1 (some 31) HT_.out ?_
             refine GS.pu 2 (some 32) HT_.out ?_
             refine GS.pu 3 (some 33) HT_.out ?_
             refine GS.pu 5 (some 35) HT_.out ?_
             refine GS.pu 6 (some 36) HT_.out ?_
             refine GS.tk 4 (some 34) HT_.out HW_.out hHeld ?_
             refine GS.pu 7 (some 37) HT_.out ?_
             refine GS.tk 8 (some 38) HT_.out HW_.out hHeld ?_
             refine GS.tk 9 (some 39) HT_.out HW_.out hHeld ?_
             refine one_ (i := 10) (N := some 40) #[true, true, true, true, true, true, true, true, true, true, true, false, false, false] rfl rfl (one_of HT_.out (by kernel_rfl)) (by decide) (fun K hK => ?_)
             refine goes_ Try.func60 (by kernel_rfl) rfl #[.agg #[.int .i64 ((rd_T60 l0_1 (ji15)).f0), .int .i64 ((rd_T60 l0_1 (ji15)).f1), .int .i64 ((rd_T60 l0_1 (ji15)).f2)], .agg #[.int .i64 ((rd_T60 l0_1 x19_1).f0), .int .i64 ((rd_T60 l0_1 x19_1).f1), .int .i64 ((rd_T60 l0_1 x19_1).f2)]] (by rfl) rfl rfl (by (try simp only [List.map_toArray, List.map_cons, List.map_nil]); first | done | (simp only [hji15]; rfl) | rfl | (simp only [List.length_drop, List.length_take]; rfl)) ?_
             with_reducible refine (tariff_compare.calls k1 ((rd_T60 l0_1 (ji15)).f0) ((rd_T60 l0_1 (ji15)).f1) ((rd_T60 l0_1 (ji15)).f2) ((rd_T60 l0_1 x19_1).f0) ((rd_T60 l0_1 x19_1).f1) ((rd_T60 l0_1 x19_1).f2) t130 _ A18.out).mono ?_
             rintro e w25 ⟨rfl, hb⟩
             refine ⟨_, rfl, ?_⟩
             have n0_ := Aside0.mk (bqB (GS.bqX BK124.out) hb)
             have n1_ := Aside0.mk (bqB (GS.bqX BK127.out) hb)
             have n2_ := Aside0.mk (lqT (GS.lB HB.out) hb)
             clear BK124
             clear BK127
             clear HB
             have BK124 := n0_
             have BK127 := n1_
             have HB := n2_
             clear n0_ n1_ n2_
             (try clear hb)
             (try clear hb2)
             (try clear hk)
             (try clear hi)
             refine hK.out _ _ ⟨(bqC BK124.out 0).trans rfl, (bqC BK124.out 1).trans rfl, (bqC BK127.out 0).trans rfl, (bqC BK127.out 1).trans rfl, (bqC BK127.out 2).trans rfl, ((HB.out.cell (World.block_lt_of_cell? w _ hw129_0)).trans hw129_0), ((HB.out.cell (World.block_lt_of_cell? w _ hw129_1)).trans hw129_1), ((HB.out.cell (World.block_lt_of_cell? w _ hw129_2)).trans hw129_2)⟩ (fun hHeld => ?_)
             clear hK K
             refine norm_ (a' := ?_) ?_ ?_
             rotate_left
             ·show Act.put _ (some 40) _ = _
              simp only [Act.put, List.setIfInBounds_toArray, List.set_cons_zero, List.set_cons_succ, i64_w, i32_w]
              rfl
             refine GS.pu 11 (some 41) HT_.out ?_
             refine GS.pu 12 (some 42) HT_.out ?_
             refine GS.pu 13 (some 29) HT_.out ?_
             refine done_ (done_of HT_.out (by kernel_rfl)) ?_
             try go_wp2
             go_ret2
             exact ⟨by first | rfl | (simp [errW_none, errW_some] <;> rfl) | (simp only [← hji15]; first | rfl | (simp [errW_none, errW_some] <;> rfl)) | (simp [*, errW_none, errW_some] <;> rfl), GS.lB HB.out⟩
            ·rw [if_neg c19] at H
             have c19b0 : decide (0 ≤ t130) = false := decide_eq_false c19
             clear c19
             have H' := Aside0.mk H
             clear H
             have p126 : 0 ≤ (x19_1 : Int) := of_decide_eq_true (by first | (with_reducible assumption) | assumption)
             have q126 : x19_1 < (l0_1.length : Int) := of_decide_eq_true (by first | (with_reducible assumption) | assumption)
             obtain ⟨ad126, e126, hx126_0, hx126_1, hx126_2⟩ := at_T60 HR0_1.out x19_1 p126 q126
             cases e126
             replace hx126_0 := (HB.out.cell (World.block_lt_of_cell? w _ hx126_0)).trans hx126_0
             replace hx126_1 := (HB.out.cell (World.block_lt_of_cell? w _ hx126_1)).trans hx126_1
             replace hx126_2 := (HB.out.cell (World.block_lt_of_cell? w _ hx126_2)).trans hx126_2
             replace p126 := eq_true p126
             replace q126 := eq_true q126
             try go_wp2_with (first | ((with_reducible refine gqD (N := 5) rfl ?_); refine GS.bx (N := 5) (cs := #[.int .i64 0, .int .i64 0, .int .i64 0]) (t := 60) ?_; intro gb127 hg w26 hbox hb; have n0_ := Aside0.mk (bqB (GS.bqX BK124.out) hb); have n1_ := Aside0.mk (lqT (GS.lB HB.out) hb); have n2_ := Aside0.mk (hbox); have n3_ := Aside0.mk ((by rw [hg]; exact (lqZ (GS.lB HB.out)) : w.heap.size ≤ gb127)); have n4_ := Aside0.mk ((by rw [hg]; exact (lqZ (GS.lB HB.out)) : w.heap.size ≤ gb127)); have n5_ := Aside0.mk ((by rw [hg]; exact Nat.ne_of_lt (blk_lt (GS.bqX BK124.out)) : gb124 ≠ gb127)); have n6_ := Aside0.mk ((by rw [hg]; exact Nat.ne_of_gt (blk_lt (GS.bqX BK124.out)) : gb127 ≠ gb124)); clear BK124; clear HB; have BK124 := n0_; have HB := n1_; have BK127 := n2_; have GW127 := n3_; have GE127 := n4_; have NB124_127 := n5_; have NB127_124 := n6_; clear n0_ n1_ n2_ n3_ n4_ n5_ n6_; clear hb hbox hg; have hnb27 := NB127_124.out; have hnc27 := NB124_127.out; obtain ⟨hcz28_0, hcz28_1, hcz28_2, hfz28_0, hfz28_1, hfz28_2⟩ := GS.c3 BK127.out) | ((with_reducible refine gqC (f := 59) rfl ?_); refine GS.gL (some 26) Try.func59 #[.agg #[.int .i64 ((rd_T60 l0_1 x19_1).f0), .int .i64 ((rd_T60 l0_1 x19_1).f1), .int .i64 ((rd_T60 l0_1 x19_1).f2)]] ?_; (with_reducible refine (tariff_ranged.calls ((rd_T60 l0_1 x19_1).f0) ((rd_T60 l0_1 x19_1).f1) ((rd_T60 l0_1 x19_1).f2) true _ A12.out).mono ?_); rintro e w29 ⟨rfl, hb⟩; refine ⟨_, rfl, ?_⟩; have n0_ := Aside0.mk (bqB (GS.bqX BK124.out) hb); have n1_ := Aside0.mk (bqB (g := gb127) (o := .cells #[.int .i64 ((rd_T60 l0_1 x19_1).f0), .int .i64 ((rd_T60 l0_1 x19_1).f1), .int .i64 ((rd_T60 l0_1 x19_1).f2)] 60 (0, 0)) (GS.bqZ BK127.out) hb); have n2_ := Aside0.mk (lqT (GS.lB HB.out) hb); clear BK124; clear BK127; clear HB; have BK124 := n0_; have BK127 := n1_; have HB := n2_; clear n0_ n1_ n2_; (try clear hb); (try clear hb2); (try clear hk); (try clear hi)))
             have n0_ := Aside0.mk (bqD BK124.out)
             have n1_ := Aside0.mk (bqD BK127.out)
             have n2_ := Aside0.mk (lqD HB.out)
             clear BK124
             clear BK127
             clear HB
             have BK124 := n0_
             have BK127 := n1_
             have HB := n2_
             clear n0_ n1_ n2_
             have p129 : 0 ≤ ((ji15) : Int) := of_decide_eq_true (by first | (with_reducible assumption) | assumption)
             have q129 : (ji15) < (l0_1.length : Int) := of_decide_eq_true (by first | (with_reducible assumption) | assumption)
             obtain ⟨ad129, e129, hx129_0, hx129_1, hx129_2⟩ := at_T60 HR0_1.out (ji15) p129 q129
             have hw129_2 := hx129_2
             have hw129_1 := hx129_1
             have hw129_0 := hx129_0
             obtain rfl : ad126 = ad129 := (by injection e129)
             replace hx129_0 := (HB.out.cell (World.block_lt_of_cell? w _ hx129_0)).trans hx129_0
             replace hx129_1 := (HB.out.cell (World.block_lt_of_cell? w _ hx129_1)).trans hx129_1
             replace hx129_2 := (HB.out.cell (World.block_lt_of_cell? w _ hx129_2)).trans hx129_2
             replace p129 := eq_true p129
             replace q129 := eq_true q129
             refine start_ (n := 14) (S := fun w' => w'.cell? ⟨gb124, 0, none⟩ = some (.int .i64 a0_0) ∧ w'.cell? ⟨gb124, 1, none⟩ = some (.slice (some ad126) l0_1.length c0_1) ∧ w'.cell? ⟨gb127, 0, none⟩ = some (.int .i64 ((rd_T60 l0_1 x19_1).f0)) ∧ w'.cell? ⟨gb127, 1, none⟩ = some (.int .i64 ((rd_T60 l0_1 x19_1).f1)) ∧ w'.cell? ⟨gb127, 2, none⟩ = some (.int .i64 ((rd_T60 l0_1 x19_1).f2)) ∧ w'.cell? (ad126.add (((ji15)).toNat * 3)) = some (.int .i64 ((rd_T60 l0_1 (ji15)).f0)) ∧ w'.cell? ⟨(ad126.add (((ji15)).toNat * 3)).block, (ad126.add (((ji15)).toNat * 3)).off + 1, none⟩ = some (.int .i64 ((rd_T60 l0_1 (ji15)).f1)) ∧ w'.cell? ⟨(ad126.add (((ji15)).toNat * 3)).block, (ad126.add (((ji15)).toNat * 3)).off + 2, none⟩ = some (.int .i64 ((rd_T60 l0_1 (ji15)).f2))) (ds := []) #[false, false, false, false, false, false, false, false, false, false, false, false, false, false] (by kernel_rfl) rfl rfl ⟨(bqC BK124.out 0).trans rfl, (bqC BK124.out 1).trans rfl, (bqC BK127.out 0).trans rfl, (bqC BK127.out 1).trans rfl, (bqC BK127.out 2).trans rfl, ((HB.out.cell (World.block_lt_of_cell? w _ hw129_0)).trans hw129_0), ((HB.out.cell (World.block_lt_of_cell? w _ hw129_1)).trans hw129_1), ((HB.out.cell (World.block_lt_of_cell? w _ hw129_2)).trans hw129_2)⟩ (fun hHeld => ?_); refine with_tabW tariff_Check.tab10 tariff_Check.bits10 (fun HT_ HW_ => ?_)
             generalize w29.drew = w30 at BK124 BK127 HB hx129_0 hx129_1 hx129_2 hHeld ⊢
             refine GS.pu 0 (some 30) HT_.out ?_
             refine GS.pu 1 (some 31) HT_.out ?_
             refine GS.pu 2 (some 32) HT_.out ?_
             refine GS.pu 3 (some 33) HT_.out ?_
             refine GS.pu 5 (some 35) HT_.out ?_
             refine GS.pu 6 (some 36) HT_.out ?_
             refine GS.tk 4 (some 34) HT_.out HW_.out hHeld ?_
             refine GS.pu 7 (some 37) HT_.out ?_
             refine GS.tk 8 (some 38) HT_.out HW_.out hHeld ?_
             refine GS.tk 9 (some 39) HT_.out HW_.out hHeld ?_
             refine one_ (i := 10) (N := some 40) #[true, true, true, true, true, true, true, true, true, true, true, false, false, false] rfl rfl (one_of HT_.out (by kernel_rfl)) (by decide) (fun K hK => ?_)
             refine goes_ Try.func60 (by kernel_rfl) rfl #[.agg #[.int .i64 ((rd_T60 l0_1 (ji15)).f0), .int .i64 ((rd_T60 l0_1 (ji15)).f1), .int .i64 ((rd_T60 l0_1 (ji15)).f2)], .agg #[.int .i64 ((rd_T60 l0_1 x19_1).f0), .int .i64 ((rd_T60 l0_1 x19_1).f1), .int .i64 ((rd_T60 l0_1 x19_1).f2)]] (by rfl) rfl rfl (by (try simp only [List.map_toArray, List.map_cons, List.map_nil]); first | done | (simp only [hji15]; rfl) | rfl | (simp only [List.length_drop, List.length_take]; rfl)) ?_
             with_reducible refine (tariff_compare.calls k1 ((rd_T60 l0_1 (ji15)).f0) ((rd_T60 l0_1 (ji15)).f1) ((rd_T60 l0_1 (ji15)).f2) ((rd_T60 l0_1 x19_1).f0) ((rd_T60 l0_1 x19_1).f1) ((rd_T60 l0_1 x19_1).f2) t130 _ A18.out).mono ?_
             rintro e w31 ⟨rfl, hb⟩
             refine ⟨_, rfl, ?_⟩
             have n0_ := Aside0.mk (bqB (GS.bqX BK124.out) hb)
             have n1_ := Aside0.mk (bqB (GS.bqX BK127.out) hb)
             have n2_ := Aside0.mk (lqT (GS.lB HB.out) hb)
             clear BK124
             clear BK127
             clear HB
             have BK124 := n0_
             have BK127 := n1_
             have HB := n2_
             clear n0_ n1_ n2_
             (try clear hb)
             (try clear hb2)
             (try clear hk)
             (try clear hi)
             refine hK.out _ _ ⟨(bqC BK124.out 0).trans rfl, (bqC BK124.out 1).trans rfl, (bqC BK127.out 0).trans rfl, (bqC BK127.out 1).trans rfl, (bqC BK127.out 2).trans rfl, ((HB.out.cell (World.block_lt_of_cell? w _ hw129_0)).trans hw129_0), ((HB.out.cell (World.block_lt_of_cell? w _ hw129_1)).trans hw129_1), ((HB.out.cell (World.block_lt_of_cell? w _ hw129_2)).trans hw129_2)⟩ (fun hHeld => ?_)
             clear hK K
             refine norm_ (a' := ?_) ?_ ?_
             rotate_left
             ·show Act.put _ (some 40) _ = _
              simp only [Act.put, List.setIfInBounds_toArray, List.set_cons_zero, List.set_cons_succ, i64_w, i32_w]
              rfl
             refine GS.pu 11 (some 41) HT_.out ?_
             refine GS.pu 12 (some 42) HT_.out ?_
             refine GS.pu 13 (some 29) HT_.out ?_
             refine done_ (done_of HT_.out (by kernel_rfl)) ?_
             try go_wp2
             go_roundg k1
             case measure => have := HK1.out; omega
             case rel => exact ⟨(wrap64 (x19_1 + 1)), (by first | rfl | (simp; done) | (simp [*]; done)), H', ⟨by have := HK1.out; omega⟩, ⟨GS.bqX BK124.out⟩, ⟨GS.lB HB.out⟩⟩
           ·rw [if_neg c17] at H
            exact absurd H (by simp)
          ·rw [if_neg c16] at H
           exact absurd H (by simp)
         ·rw [if_neg c14] at H
          have c14b0 : decide (0 < x19_1) = false := decide_eq_false c14
          clear c14
          have H' := Aside0.mk H
          clear H
          have p126 : 0 ≤ (x19_1 : Int) := of_decide_eq_true (by first | (with_reducible assumption) | assumption)
          have q126 : x19_1 < (l0_1.length : Int) := of_decide_eq_true (by first | (with_reducible assumption) | assumption)
          obtain ⟨ad126, e126, hx126_0, hx126_1, hx126_2⟩ := at_T60 HR0_1.out x19_1 p126 q126
          cases e126
          replace hx126_0 := (HB.out.cell (World.block_lt_of_cell? w _ hx126_0)).trans hx126_0
          replace hx126_1 := (HB.out.cell (World.block_lt_of_cell? w _ hx126_1)).trans hx126_1
          replace hx126_2 := (HB.out.cell (World.block_lt_of_cell? w _ hx126_2)).trans hx126_2
          replace p126 := eq_true p126
          replace q126 := eq_true q126
          try go_wp2_with (first | ((with_reducible refine gqD (N := 5) rfl ?_); refine GS.bx (N := 5) (cs := #[.int .i64 0, .int .i64 0, .int .i64 0]) (t := 60) ?_; intro gb127 hg w32 hbox hb; have n0_ := Aside0.mk (bqB (GS.bqX BK124.out) hb); have n1_ := Aside0.mk (lqT (GS.lB HB.out) hb); have n2_ := Aside0.mk (hbox); have n3_ := Aside0.mk ((by rw [hg]; exact (lqZ (GS.lB HB.out)) : w.heap.size ≤ gb127)); have n4_ := Aside0.mk ((by rw [hg]; exact (lqZ (GS.lB HB.out)) : w.heap.size ≤ gb127)); have n5_ := Aside0.mk ((by rw [hg]; exact Nat.ne_of_lt (blk_lt (GS.bqX BK124.out)) : gb124 ≠ gb127)); have n6_ := Aside0.mk ((by rw [hg]; exact Nat.ne_of_gt (blk_lt (GS.bqX BK124.out)) : gb127 ≠ gb124)); clear BK124; clear HB; have BK124 := n0_; have HB := n1_; have BK127 := n2_; have GW127 := n3_; have GE127 := n4_; have NB124_127 := n5_; have NB127_124 := n6_; clear n0_ n1_ n2_ n3_ n4_ n5_ n6_; clear hb hbox hg; have hnb33 := NB127_124.out; have hnc33 := NB124_127.out; obtain ⟨hcz34_0, hcz34_1, hcz34_2, hfz34_0, hfz34_1, hfz34_2⟩ := GS.c3 BK127.out) | ((with_reducible refine gqC (f := 59) rfl ?_); refine GS.gL (some 26) Try.func59 #[.agg #[.int .i64 ((rd_T60 l0_1 x19_1).f0), .int .i64 ((rd_T60 l0_1 x19_1).f1), .int .i64 ((rd_T60 l0_1 x19_1).f2)]] ?_; (with_reducible refine (tariff_ranged.calls ((rd_T60 l0_1 x19_1).f0) ((rd_T60 l0_1 x19_1).f1) ((rd_T60 l0_1 x19_1).f2) true _ A12.out).mono ?_); rintro e w35 ⟨rfl, hb⟩; refine ⟨_, rfl, ?_⟩; have n0_ := Aside0.mk (bqB (GS.bqX BK124.out) hb); have n1_ := Aside0.mk (bqB (g := gb127) (o := .cells #[.int .i64 ((rd_T60 l0_1 x19_1).f0), .int .i64 ((rd_T60 l0_1 x19_1).f1), .int .i64 ((rd_T60 l0_1 x19_1).f2)] 60 (0, 0)) (GS.bqZ BK127.out) hb); have n2_ := Aside0.mk (lqT (GS.lB HB.out) hb); clear BK124; clear BK127; clear HB; have BK124 := n0_; have BK127 := n1_; have HB := n2_; clear n0_ n1_ n2_; (try clear hb); (try clear hb2); (try clear hk); (try clear hi)))
          have n0_ := Aside0.mk (bqD BK124.out)
          have n1_ := Aside0.mk (bqD BK127.out)
          have n2_ := Aside0.mk (lqD HB.out)
          clear BK124
          clear BK127
          clear HB
          have BK124 := n0_
          have BK127 := n1_
          have HB := n2_
          clear n0_ n1_ n2_
          refine start_ (n := 14) (S := fun w' => True) (ds := []) #[false, false, false, false, false, false, false, false, false, false, false, false, false, false] (by kernel_rfl) rfl rfl trivial (fun hHeld => ?_); refine with_tabW tariff_Check.tab10 tariff_Check.bits10 (fun HT_ HW_ => ?_)
          generalize w35.drew = w36 at BK124 BK127 HB hHeld ⊢
          refine GS.pu 0 (some 30) HT_.out ?_
          refine GS.pu 1 (some 31) HT_.out ?_
          refine GS.pu 2 (some 32) HT_.out ?_
          refine GS.pn 3 (some 33) HT_.out ?_
          refine GS.pn 4 (some 34) HT_.out ?_
          refine GS.pn 5 (some 35) HT_.out ?_
          refine GS.pn 6 (some 36) HT_.out ?_
          refine GS.pn 7 (some 37) HT_.out ?_
          refine GS.pn 8 (some 38) HT_.out ?_
          refine GS.pn 9 (some 39) HT_.out ?_
          refine GS.pn 10 (some 40) HT_.out ?_
          refine GS.pn 11 (some 41) HT_.out ?_
          refine GS.pu 12 (some 42) HT_.out ?_
          refine GS.pu 13 (some 29) HT_.out ?_
          refine done_ (done_of HT_.out (by kernel_rfl)) ?_
          try go_wp2
          go_roundg k1
          case measure => have := HK1.out; omega
          case rel => exact ⟨(wrap64 (x19_1 + 1)), (by first | rfl | (simp; done) | (simp [*]; done)), H', ⟨by have := HK1.out; omega⟩, ⟨GS.bqX BK124.out⟩, ⟨GS.lB HB.out⟩⟩
        ·replace c13 := Bool.eq_false_iff.mpr c13
         subst c13
         have H1 : (some (x19_1, 2)) = some (r1, r2) := by rw [if_neg (show ¬ (false = true) by decide)] at H; exact H
         clear H
         have H := H1
         clear H1
         simp only [Option.some.injEq, Prod.mk.injEq] at H
         obtain ⟨rfl, rfl⟩ := H
         have p126 : 0 ≤ (x19_1 : Int) := of_decide_eq_true (by first | (with_reducible assumption) | assumption)
         have q126 : x19_1 < (l0_1.length : Int) := of_decide_eq_true (by first | (with_reducible assumption) | assumption)
         obtain ⟨ad126, e126, hx126_0, hx126_1, hx126_2⟩ := at_T60 HR0_1.out x19_1 p126 q126
         cases e126
         replace hx126_0 := (HB.out.cell (World.block_lt_of_cell? w _ hx126_0)).trans hx126_0
         replace hx126_1 := (HB.out.cell (World.block_lt_of_cell? w _ hx126_1)).trans hx126_1
         replace hx126_2 := (HB.out.cell (World.block_lt_of_cell? w _ hx126_2)).trans hx126_2
         replace p126 := eq_true p126
         replace q126 := eq_true q126
         go_wp2_with (first | ((with_reducible refine gqD (N := 5) rfl ?_); refine GS.bx (N := 5) (cs := #[.int .i64 0, .int .i64 0, .int .i64 0]) (t := 60) ?_; intro gb127 hg w37 hbox hb; have n0_ := Aside0.mk (bqB (GS.bqX BK124.out) hb); have n1_ := Aside0.mk (lqT (GS.lB HB.out) hb); have n2_ := Aside0.mk (hbox); have n3_ := Aside0.mk ((by rw [hg]; exact (lqZ (GS.lB HB.out)) : w.heap.size ≤ gb127)); have n4_ := Aside0.mk ((by rw [hg]; exact (lqZ (GS.lB HB.out)) : w.heap.size ≤ gb127)); have n5_ := Aside0.mk ((by rw [hg]; exact Nat.ne_of_lt (blk_lt (GS.bqX BK124.out)) : gb124 ≠ gb127)); have n6_ := Aside0.mk ((by rw [hg]; exact Nat.ne_of_gt (blk_lt (GS.bqX BK124.out)) : gb127 ≠ gb124)); clear BK124; clear HB; have BK124 := n0_; have HB := n1_; have BK127 := n2_; have GW127 := n3_; have GE127 := n4_; have NB124_127 := n5_; have NB127_124 := n6_; clear n0_ n1_ n2_ n3_ n4_ n5_ n6_; clear hb hbox hg; have hnb38 := NB127_124.out; have hnc38 := NB124_127.out; obtain ⟨hcz39_0, hcz39_1, hcz39_2, hfz39_0, hfz39_1, hfz39_2⟩ := GS.c3 BK127.out) | ((with_reducible refine gqC (f := 59) rfl ?_); refine GS.gL (some 26) Try.func59 #[.agg #[.int .i64 ((rd_T60 l0_1 x19_1).f0), .int .i64 ((rd_T60 l0_1 x19_1).f1), .int .i64 ((rd_T60 l0_1 x19_1).f2)]] ?_; (with_reducible refine (tariff_ranged.calls ((rd_T60 l0_1 x19_1).f0) ((rd_T60 l0_1 x19_1).f1) ((rd_T60 l0_1 x19_1).f2) false _ A12.out).mono ?_); rintro e w40 ⟨rfl, hb⟩; refine ⟨_, rfl, ?_⟩; have n0_ := Aside0.mk (bqB (GS.bqX BK124.out) hb); have n1_ := Aside0.mk (bqB (g := gb127) (o := .cells #[.int .i64 ((rd_T60 l0_1 x19_1).f0), .int .i64 ((rd_T60 l0_1 x19_1).f1), .int .i64 ((rd_T60 l0_1 x19_1).f2)] 60 (0, 0)) (GS.bqZ BK127.out) hb); have n2_ := Aside0.mk (lqT (GS.lB HB.out) hb); clear BK124; clear BK127; clear HB; have BK124 := n0_; have BK127 := n1_; have HB := n2_; clear n0_ n1_ n2_; (try clear hb); (try clear hb2); (try clear hk); (try clear hi)))
         go_ret2
         exact ⟨by first | rfl | (simp [errW_none, errW_some] <;> rfl) | (simp [*, errW_none, errW_some] <;> rfl), GS.lB HB.out⟩
       ·rw [if_neg c11] at H
        exact absurd H (by simp)
      ·rw [if_neg c10] at H
       exact absurd H (by simp)
     ·rw [if_neg c9] at H
      have c9b0 : decide (x19_1 < (l0_1.length : Int)) = false := decide_eq_false c9
      clear c9
      simp only [Option.some.injEq, Prod.mk.injEq] at H
      obtain ⟨rfl, rfl⟩ := H
      go_wp2
      go_ret2
      exact ⟨by first | rfl | (simp [errW_none, errW_some] <;> rfl) | (simp [*, errW_none, errW_some] <;> rfl), GS.lB HB.out⟩
 ·replace c3 := Bool.eq_false_iff.mpr c3
  subst c3
  have H1 : (some ((-1), 2)) = some (r1, r2) := by rw [if_neg (show ¬ (false = true) by decide)] at H; exact H
  clear H
  have H := H1
  clear H1
  simp only [Option.some.injEq, Prod.mk.injEq] at H
  obtain ⟨rfl, rfl⟩ := H
  go_enter Try.func44, Try.ntmps44
  go_wp2_with (first | ((with_reducible refine gqD (N := 1) rfl ?_); refine GS.bx (N := 1) (cs := #[.int .i64 a0_0, .slice A0_1 l0_1.length c0_1]) (t := 24) ?_; intro gb124 hg w41 hbox hb; have n0_ := Aside0.mk (lqT (GS.lB HB.out) hb); have n1_ := Aside0.mk (hbox); have n2_ := Aside0.mk ((by rw [hg]; exact (lqZ (GS.lB HB.out)) : w.heap.size ≤ gb124)); have n3_ := Aside0.mk ((by rw [hg]; exact (lqZ (GS.lB HB.out)) : w.heap.size ≤ gb124)); clear HB; have HB := n0_; have BK124 := n1_; have GW124 := n2_; have GE124 := n3_; clear n0_ n1_ n2_ n3_; clear hb hbox hg; obtain ⟨hcz42_0, hcz42_1, hfz42_0, hfz42_1⟩ := GS.c2 BK124.out) | ((with_reducible refine gqC (f := 58) rfl ?_); refine GS.gL (some 9) Try.func58 #[.int .i64 a0_0, .int .i64 1, .int .i64 4] ?_; (with_reducible refine (tariff_within.calls a0_0 1 4 false _ A2.out).mono ?_); rintro e w' ⟨rfl, ⟨nd, rfl⟩⟩; refine ⟨_, rfl, ?_⟩))
  go_ret2
  exact ⟨by first | rfl | (simp [errW_none, errW_some] <;> rfl) | (simp [*, errW_none, errW_some] <;> rfl), GS.lB HB.out⟩

end Go.Proofs.Ythboaobgipodiaa.K
