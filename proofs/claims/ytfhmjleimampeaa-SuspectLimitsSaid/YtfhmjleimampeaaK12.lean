-- PRINTED by print.py (a twelfth state) out of the translation. Not trusted: Lean checks it.
import Derived.Test.YtfhmjleimampeaaK0
import Derived.Test.YtfhmjleimampeaaGShort
import Derived.Test.YtfhmjleimampeaaK3
import Derived.Test.YtfhmjleimampeaaGSuspects
import Derived.Test.YtfhmjleimampeaaGTrend
import Derived.Test.YtfhmjleimampeaaGWithout
namespace Go.Proofs.Ytfhmjleimampeaa.K
open Go.RowKit Go.Proofs.YtfhmjleimampeaaW.PrintWords Go.Proofs.YtfhmjleimampeaaW.PrintLast Go.Proofs.YtfhmjleimampeaaW.PrintMore
attribute [local go_sem] max2_int min2_int max_two min_two max_three min_three max_four min_four   -- for this text's walks alone
set_option linter.unusedVariables false
set_option linter.unusedSimpArgs false

-- NOT PRINTED: function 76 (slices_pdqsortOrdered_int)

-- NOT PRINTED: function 70 (slices_Sort_int_int)

-- NOT PRINTED: function 51 (slices_Sorted_int)

-- NOT PRINTED: function 52 (maps_Keys_map_int_int_int_int)

-- GIVEN: function 25 (suspect_Suspects)

/-! ### spilelaw34_example: function 33 -/
def spilelaw34_example.f  : Option ((List (S30))) := some (([(⟨1, 1, 7, 10⟩ : S30), (⟨1, 2, 8, 90⟩ : S30), (⟨2, 1, 7, 12⟩ : S30), (⟨2, 2, 8, 95⟩ : S30), (⟨3, 1, 7, 11⟩ : S30)] : List (S30)))
set_option maxHeartbeats 8000000 in
set_option maxRecDepth 100000 in
theorem spilelaw34_example.calls  (r : List (S30)) (w : World) (h : spilelaw34_example.f  = some r) :
  Calls Try.prog 33 #[] w fun e w' => ∃ v0_ : Value, e = .returned (v0_) ∧ Kd.R k30 30 w' w.heap.size (fun _ => True) v0_ r ∧ Below w.heap.size w w' := by
 have hu30 := Try.underlying30
 have HB := Aside0.mk (Below.refl w.heap.size w)
 have H : (some (([(⟨1, 1, 7, 10⟩ : S30), (⟨1, 2, 8, 90⟩ : S30), (⟨2, 1, 7, 12⟩ : S30), (⟨2, 2, 8, 95⟩ : S30), (⟨3, 1, 7, 11⟩ : S30)] : List (S30)))) = some r := h
 clear h
 obtain ⟨y245, hy245⟩ : ∃ y_ : List (S30), y_ = (([(⟨1, 1, 7, 10⟩ : S30), (⟨1, 2, 8, 90⟩ : S30), (⟨2, 1, 7, 12⟩ : S30), (⟨2, 2, 8, 95⟩ : S30), (⟨3, 1, 7, 11⟩ : S30)] : List (S30))) := ⟨_, rfl⟩
 replace H : (some y245) = some r := by first | (rw [hy245]; with_reducible exact H) | (have H2_ := (Option.bind_some _ _).symm.trans H; rw [hy245]; with_reducible exact H2_) | (have H2_ := (Option.bind_some _ _).symm.trans H; with_reducible exact H2_) | with_reducible exact H | (rw [hy245]; exact H) | exact H
 have Ny245 := Aside0.mk hy245
 clear hy245
 obtain rfl := Option.some.inj H
 go_enter Try.func33, Try.ntmps33
 go_wp2_with (first | ((with_reducible refine gqD (N := 6) rfl ?_); refine Kd.R_lit k30 _ 30 ?hg (N := 6) ?hd (xs := ([(⟨1, 1, 7, 10⟩ : S30), (⟨1, 2, 8, 90⟩ : S30), (⟨2, 1, 7, 12⟩ : S30), (⟨2, 2, 8, 95⟩ : S30), (⟨3, 1, 7, 11⟩ : S30)] : List (S30))) (inner := [.int .i64 1, .int .i64 1, .int .i64 7, .int .i64 10, .int .i64 1, .int .i64 2, .int .i64 8, .int .i64 90, .int .i64 2, .int .i64 1, .int .i64 7, .int .i64 12, .int .i64 2, .int .i64 2, .int .i64 8, .int .i64 95, .int .i64 3, .int .i64 1, .int .i64 7, .int .i64 11]) (ok := fun _ => True) (okp := fun _ => True) ?hr ?hp (fun _ hk => hk) trivial (Below.refl _ _) (Nat.le_refl _) (by simp) ?_; (case hd => rfl); (case hg => rfl); (case hr => first | (go_simp; done) | (go_simp; rfl)); (case hp => exact (Reps.c4 (show Kd.M k30 _ _ _ (⟨1, 1, 7, 10⟩ : S30) [.int .i64 1, .int .i64 1, .int .i64 7, .int .i64 10] from (k30_mkM _ _ _ (⟨1, 1, 7, 10⟩ : S30) )) (Reps.c4 (show Kd.M k30 _ _ _ (⟨1, 2, 8, 90⟩ : S30) [.int .i64 1, .int .i64 2, .int .i64 8, .int .i64 90] from (k30_mkM _ _ _ (⟨1, 2, 8, 90⟩ : S30) )) (Reps.c4 (show Kd.M k30 _ _ _ (⟨2, 1, 7, 12⟩ : S30) [.int .i64 2, .int .i64 1, .int .i64 7, .int .i64 12] from (k30_mkM _ _ _ (⟨2, 1, 7, 12⟩ : S30) )) (Reps.c4 (show Kd.M k30 _ _ _ (⟨2, 2, 8, 95⟩ : S30) [.int .i64 2, .int .i64 2, .int .i64 8, .int .i64 95] from (k30_mkM _ _ _ (⟨2, 2, 8, 95⟩ : S30) )) (Reps.c4 (show Kd.M k30 _ _ _ (⟨3, 1, 7, 11⟩ : S30) [.int .i64 3, .int .i64 1, .int .i64 7, .int .i64 11] from (k30_mkM _ _ _ (⟨3, 1, 7, 11⟩ : S30) )) (Reps.none _ _))))))); intro v246 w1 ho2 hb hg_ hnew_; clear hg_ hnew_; (first | rw [← Ny245.out] at ho2 | (simp only [Int.reduceToNat] at ho2; rw [← Ny245.out] at ho2)); have n0_ := Aside0.mk (Kd.R_lower ho2 (lqZ (GS.lB HB.out))); have n1_ := Aside0.mk (lqT (GS.lB HB.out) hb); clear HB; have HO247 := n0_; have HB := n1_; clear n0_ n1_; clear hb ho2))
 go_ret
 exact ⟨_, by first | rfl | (simp [errW_none, errW_some] <;> rfl) | (simp [*, errW_none, errW_some] <;> rfl), by (with_reducible repeat (first | apply Kd.R_alloc | apply Kd.R_drewN | apply Kd.R_drew)); exact HO247.out, GS.lB HB.out⟩

/-! ### slices_Equal_int_int: function 34 -/
def slices_Equal_int_int.l0 : Nat → List Int → List Int → Int → Int → Option (Bool)
 | 0, _, _, _, _ => none
 | k + 1, x0, x1, x12, x13 => if x13 < x12 then (if 0 ≤ x13 then (if x13 < (x0.length : Int) then (if x13 < (x1.length : Int) then (if (rd x0 x13) = (rd x1 x13) then (slices_Equal_int_int.l0 k x0 x1 x12 (wrap64 (x13 + 1))) else (some false)) else (none)) else (none)) else (none)) else (some true)
def slices_Equal_int_int.f (k : Nat) (l0 : List Int) (l1 : List Int) : Option (Bool) := if (l0.length : Int) = (l1.length : Int) then (slices_Equal_int_int.l0 k l0 l1 (l0.length : Int) 0) else (some false)
theorem slices_Equal_int_int.mono_l : ∀ k, (∀ y0 y1 y2 y3, LeO (slices_Equal_int_int.l0 k y0 y1 y2 y3) (slices_Equal_int_int.l0 (k + 1) y0 y1 y2 y3))
 | 0 => fun _ _ _ _ r h => by simp [slices_Equal_int_int.l0] at h
 | k + 1 => by
  have ih0 := slices_Equal_int_int.mono_l k
  ·intro y0 y1 y2 y3
   unfold slices_Equal_int_int.l0
   repeat' first
   | (with_reducible exact ih0 _ _ _ _)
   | (with_reducible exact LeO.refl _)
   | (with_reducible exact LeO.none _)
   | (with_reducible refine LeO.ite ?_ ?_)
   | (with_reducible refine LeO.bind ?_ (fun _ => ?_))
   | exact ih0 _ _ _ _
   | exact LeO.none _
   | refine LeO.ite ?_ ?_
   | refine LeO.bind ?_ (fun _ => ?_)
theorem slices_Equal_int_int.mono : ∀ a0 a1 k, LeO (slices_Equal_int_int.f k a0 a1) (slices_Equal_int_int.f (k + 1) a0 a1) := by
 intro a0 a1 k
 have ih0 := slices_Equal_int_int.mono_l k
 unfold slices_Equal_int_int.f
 repeat' first
   | (with_reducible exact ih0 _ _ _ _)
   | (with_reducible exact LeO.refl _)
   | (with_reducible exact LeO.none _)
   | (with_reducible refine LeO.ite ?_ ?_)
   | (with_reducible refine LeO.bind ?_ (fun _ => ?_))
   | exact ih0 _ _ _ _
   | exact LeO.none _
   | refine LeO.ite ?_ ?_
   | refine LeO.bind ?_ (fun _ => ?_)
set_option maxHeartbeats 8000000 in
set_option maxRecDepth 100000 in
theorem slices_Equal_int_int.calls (k : Nat) (A0 : Option Addr) (c0 : Nat) (l0 : List Int) (A1 : Option Addr) (c1 : Nat) (l1 : List Int) (r : Bool) (w : World) (hr0 : Kd.C (Kd.int .i64) w A0 l0.length l0) (hc0 : l0.length ≤ c0) (hr1 : Kd.C (Kd.int .i64) w A1 l1.length l1) (hc1 : l1.length ≤ c1) (h : slices_Equal_int_int.f k l0 l1 = some r) :
  Calls Try.prog 34 #[.slice A0 l0.length c0, .slice A1 l1.length c1] w fun e w' => e = .returned (.bool r) ∧ Drawn0 w w' := by
 have HR0 := Aside0.mk hr0
 have HC0 := Aside0.mk hc0
 clear hr0 hc0
 have HR1 := Aside0.mk hr1
 have HC1 := Aside0.mk hc1
 clear hr1 hc1
 have H : (if (l0.length : Int) = (l1.length : Int) then (slices_Equal_int_int.l0 k l0 l1 (l0.length : Int) 0) else (some false)) = some r := h
 clear h
 by_cases c3 : (l0.length : Int) = (l1.length : Int)
 ·rw [if_pos c3] at H
  have c3b0 : ((l0.length : Int) == (l1.length : Int)) = true := beq_iff_eq.mpr c3
  try simp only [beq_self_eq_true, Bool.not_true, Bool.false_or, Bool.true_and] at c3b0
  have c3b1 : ((l0.length : Int) != (l1.length : Int)) = false := bne_eq_false_iff_eq.mpr c3
  have c3b2 : (l0.length == l1.length) = true := by first | simpa using c3 | (simp at c3 ⊢; omega)
  clear c3
  have H' := Aside0.mk H
  clear H
  go_enter Try.func34, Try.ntmps34
  go_wp2
  repeat (go_quiet (fail); try go_wp2)
  go_loopg [13] k (fun kq v13 w' => ∃ (x13_1 : Int), v13 = .int .i64 x13_1 ∧ Aside0 (slices_Equal_int_int.l0 kq l0 l1 (l0.length : Int) x13_1 = some r) ∧ Aside0 (kq ≤ k) ∧ Drawn0 w w')
  case atStart => exact ⟨(0), (by first | rfl | (simp; done) | (simp [*]; done)), H', ⟨Nat.le_refl _⟩, by repeat (first | exact Drawn0.refl _ | apply Drawn0.step)⟩
  case round =>
   clear H'
   try clear c1
   try clear p2
   try clear c3
   try clear c3b0
   try clear c3b1
   try clear c3b2
   obtain ⟨x13_1, rfl, HA, HK1, ⟨m1, rfl⟩⟩ := hrel
   cases gk with
   | zero => exact absurd HA.out (by simp [slices_Equal_int_int.l0])
   | succ k1 =>
    have H := HA.out
    clear HA
    simp only [slices_Equal_int_int.l0] at H
    by_cases c4 : x13_1 < (l0.length : Int)
    ·rw [if_pos c4] at H
     have c4b0 : decide (x13_1 < (l0.length : Int)) = true := decide_eq_true c4
     clear c4
     by_cases c5 : 0 ≤ x13_1
     ·rw [if_pos c5] at H
      have c5b0 : decide (0 ≤ x13_1) = true := decide_eq_true c5
      clear c5
      by_cases c6 : x13_1 < (l0.length : Int)
      ·rw [if_pos c6] at H
       have c6b0 : decide (x13_1 < (l0.length : Int)) = true := decide_eq_true c6
       clear c6
       by_cases c7 : x13_1 < (l1.length : Int)
       ·rw [if_pos c7] at H
        have c7b0 : decide (x13_1 < (l1.length : Int)) = true := decide_eq_true c7
        clear c7
        by_cases c8 : (rd l0 x13_1) = (rd l1 x13_1)
        ·rw [if_pos c8] at H
         have c8b0 : ((rd l0 x13_1) == (rd l1 x13_1)) = true := beq_iff_eq.mpr c8
         try simp only [beq_self_eq_true, Bool.not_true, Bool.false_or, Bool.true_and] at c8b0
         have c8b1 : ((rd l0 x13_1) != (rd l1 x13_1)) = false := bne_eq_false_iff_eq.mpr c8
         clear c8
         have H' := Aside0.mk H
         clear H
         have p248 : 0 ≤ (x13_1 : Int) := of_decide_eq_true (by first | (with_reducible assumption) | assumption)
         have q248 : x13_1 < (l0.length : Int) := of_decide_eq_true (by first | (with_reducible assumption) | assumption)
         obtain ⟨ad248, e248, hx248_0⟩ := Kd.at_int HR0.out x13_1 p248 q248
         cases e248
         replace p248 := eq_true p248
         replace q248 := eq_true q248
         have p249 : 0 ≤ (x13_1 : Int) := of_decide_eq_true (by first | (with_reducible assumption) | assumption)
         have q249 : x13_1 < (l1.length : Int) := of_decide_eq_true (by first | (with_reducible assumption) | assumption)
         obtain ⟨ad249, e249, hx249_0⟩ := Kd.at_int HR1.out x13_1 p249 q249
         cases e249
         replace p249 := eq_true p249
         replace q249 := eq_true q249
         go_wp2
         repeat (go_quiet (fail); try go_wp2)
         go_roundg k1
         case measure => have := HK1.out; omega
         case rel => exact ⟨(wrap64 (x13_1 + 1)), (by first | rfl | (simp; done) | (simp [*]; done)), H', ⟨by have := HK1.out; omega⟩, by repeat (first | exact Drawn0.refl _ | apply Drawn0.step)⟩
        ·rw [if_neg c8] at H
         have c8b0 : ((rd l0 x13_1) == (rd l1 x13_1)) = false := beq_eq_false_iff_ne.mpr c8
         try simp only [beq_self_eq_true, Bool.not_true, Bool.false_or, Bool.true_and] at c8b0
         have c8b1 : ((rd l0 x13_1) != (rd l1 x13_1)) = true := bne_iff_ne.mpr c8
         obtain rfl := Option.some.inj H
         have p248 : 0 ≤ (x13_1 : Int) := of_decide_eq_true (by first | (with_reducible assumption) | assumption)
         have q248 : x13_1 < (l0.length : Int) := of_decide_eq_true (by first | (with_reducible assumption) | assumption)
         obtain ⟨ad248, e248, hx248_0⟩ := Kd.at_int HR0.out x13_1 p248 q248
         cases e248
         replace p248 := eq_true p248
         replace q248 := eq_true q248
         have p249 : 0 ≤ (x13_1 : Int) := of_decide_eq_true (by first | (with_reducible assumption) | assumption)
         have q249 : x13_1 < (l1.length : Int) := of_decide_eq_true (by first | (with_reducible assumption) | assumption)
         obtain ⟨ad249, e249, hx249_0⟩ := Kd.at_int HR1.out x13_1 p249 q249
         cases e249
         replace p249 := eq_true p249
         replace q249 := eq_true q249
         go_wp2
         repeat (go_quiet (fail); try go_wp2)
         go_ret
         exact ⟨by first | rfl | (simp; done) | (simp [*]; done), by repeat (first | exact Drawn0.refl _ | apply Drawn0.step)⟩
       ·rw [if_neg c7] at H
        exact absurd H (by simp)
      ·rw [if_neg c6] at H
       exact absurd H (by simp)
     ·rw [if_neg c5] at H
      exact absurd H (by simp)
    ·rw [if_neg c4] at H
     have c4b0 : decide (x13_1 < (l0.length : Int)) = false := decide_eq_false c4
     clear c4
     obtain rfl := Option.some.inj H
     go_wp2
     repeat (go_quiet (fail); try go_wp2)
     go_ret
     exact ⟨by first | rfl | (simp; done) | (simp [*]; done), by repeat (first | exact Drawn0.refl _ | apply Drawn0.step)⟩
 ·rw [if_neg c3] at H
  have c3b0 : ((l0.length : Int) == (l1.length : Int)) = false := beq_eq_false_iff_ne.mpr c3
  try simp only [beq_self_eq_true, Bool.not_true, Bool.false_or, Bool.true_and] at c3b0
  have c3b1 : ((l0.length : Int) != (l1.length : Int)) = true := bne_iff_ne.mpr c3
  have c3b2 : (l0.length == l1.length) = false := by first | simpa using c3 | (simp at c3 ⊢; omega)
  obtain rfl := Option.some.inj H
  go_enter Try.func34, Try.ntmps34
  go_wp2
  repeat (go_quiet (fail); try go_wp2)
  go_ret
  exact ⟨by first | rfl | (simp; done) | (simp [*]; done), by repeat (first | exact Drawn0.refl _ | apply Drawn0.step)⟩

/-! ### spilelaw34_awake: function 10 -/
def spilelaw34_awake.f (k : Nat)  : Option (Bool) := (spilelaw34_example.f).bind fun t250 => ((suspect_Test.f t250 2 8).bind fun bt253 => ((spilelaw34_example.f).bind fun t256 => ((suspect_Suspects.f t256 2 1 10).bind fun bt259 => ((spilelaw34_example.f).bind fun t263 => ((suspect_Trend.f t263 1).bind fun bt266 => ((spilelaw34_example.f).bind fun t269 => ((suspect_Without.f t269 1 1).bind fun bt272 => (if bt253.1 = 1 then (if bt253.2.1 = 10 then ((slices_Equal_int_int.f k bt259.1 (([8] : List Int))).bind fun t279 => (if t279 = true then (if bt266.1 = 3 then (if bt266.2.1 = 6 then (if (bt272.1.length : Int) = 2 then (some ((wrap64 ((wrap64 ((wrap64 (bt253.2.2 + bt259.2)) + bt266.2.2)) + bt272.2)) == 0)) else (none)) else (none)) else (none)) else (none))) else (none)) else (none)))))))))
theorem spilelaw34_awake.mono : ∀ k, LeO (spilelaw34_awake.f k ) (spilelaw34_awake.f (k + 1) ) := by
 intro  k
 unfold spilelaw34_awake.f
 repeat' first
   | (with_reducible exact slices_Equal_int_int.mono _ _ _)
   | (with_reducible exact LeO.refl _)
   | (with_reducible exact LeO.none _)
   | (with_reducible refine LeO.ite ?_ ?_)
   | (with_reducible refine LeO.bind ?_ (fun _ => ?_))
   | exact slices_Equal_int_int.mono _ _ _
   | exact LeO.none _
   | refine LeO.ite ?_ ?_
   | refine LeO.bind ?_ (fun _ => ?_)
set_option maxHeartbeats 8000000 in
set_option maxRecDepth 100000 in
theorem spilelaw34_awake.calls (k : Nat)  (r : Bool) (w : World) (h : spilelaw34_awake.f k  = some r) :
  Calls Try.prog 10 #[] w fun e w' => e = .returned (.bool r) ∧ Below w.heap.size w w' := by
 have HB := Aside0.mk (Below.refl w.heap.size w)
 have H : ((spilelaw34_example.f).bind fun t250 => ((suspect_Test.f t250 2 8).bind fun bt253 => ((spilelaw34_example.f).bind fun t256 => ((suspect_Suspects.f t256 2 1 10).bind fun bt259 => ((spilelaw34_example.f).bind fun t263 => ((suspect_Trend.f t263 1).bind fun bt266 => ((spilelaw34_example.f).bind fun t269 => ((suspect_Without.f t269 1 1).bind fun bt272 => (if bt253.1 = 1 then (if bt253.2.1 = 10 then ((slices_Equal_int_int.f k bt259.1 (([8] : List Int))).bind fun t279 => (if t279 = true then (if bt266.1 = 3 then (if bt266.2.1 = 6 then (if (bt272.1.length : Int) = 2 then (some ((wrap64 ((wrap64 ((wrap64 (bt253.2.2 + bt259.2)) + bt266.2.2)) + bt272.2)) == 0)) else (none)) else (none)) else (none)) else (none))) else (none)) else (none)))))))))) = some r := h
 clear h
 replace H := Option.bind_eq_some_iff.mp H
 obtain ⟨t250, A10, H⟩ := H
 replace H : ((suspect_Test.f t250 2 8).bind fun bt253 => ((spilelaw34_example.f).bind fun t256 => ((suspect_Suspects.f t256 2 1 10).bind fun bt259 => ((spilelaw34_example.f).bind fun t263 => ((suspect_Trend.f t263 1).bind fun bt266 => ((spilelaw34_example.f).bind fun t269 => ((suspect_Without.f t269 1 1).bind fun bt272 => (if bt253.1 = 1 then (if bt253.2.1 = 10 then ((slices_Equal_int_int.f k bt259.1 (([8] : List Int))).bind fun t279 => (if t279 = true then (if bt266.1 = 3 then (if bt266.2.1 = 6 then (if (bt272.1.length : Int) = 2 then (some ((wrap64 ((wrap64 ((wrap64 (bt253.2.2 + bt259.2)) + bt266.2.2)) + bt272.2)) == 0)) else (none)) else (none)) else (none)) else (none))) else (none)) else (none))))))))) = some r := H
 have A1 := Aside0.mk A10
 clear A10
 replace H := Option.bind_eq_some_iff.mp H
 obtain ⟨⟨t253, t254, t255⟩, A20, H⟩ := H
 replace H : ((spilelaw34_example.f).bind fun t256 => ((suspect_Suspects.f t256 2 1 10).bind fun bt259 => ((spilelaw34_example.f).bind fun t263 => ((suspect_Trend.f t263 1).bind fun bt266 => ((spilelaw34_example.f).bind fun t269 => ((suspect_Without.f t269 1 1).bind fun bt272 => (if t253 = 1 then (if t254 = 10 then ((slices_Equal_int_int.f k bt259.1 (([8] : List Int))).bind fun t279 => (if t279 = true then (if bt266.1 = 3 then (if bt266.2.1 = 6 then (if (bt272.1.length : Int) = 2 then (some ((wrap64 ((wrap64 ((wrap64 (t255 + bt259.2)) + bt266.2.2)) + bt272.2)) == 0)) else (none)) else (none)) else (none)) else (none))) else (none)) else (none)))))))) = some r := H
 have A2 := Aside0.mk A20
 clear A20
 replace H := Option.bind_eq_some_iff.mp H
 obtain ⟨t256, A30, H⟩ := H
 replace H : ((suspect_Suspects.f t256 2 1 10).bind fun bt259 => ((spilelaw34_example.f).bind fun t263 => ((suspect_Trend.f t263 1).bind fun bt266 => ((spilelaw34_example.f).bind fun t269 => ((suspect_Without.f t269 1 1).bind fun bt272 => (if t253 = 1 then (if t254 = 10 then ((slices_Equal_int_int.f k bt259.1 (([8] : List Int))).bind fun t279 => (if t279 = true then (if bt266.1 = 3 then (if bt266.2.1 = 6 then (if (bt272.1.length : Int) = 2 then (some ((wrap64 ((wrap64 ((wrap64 (t255 + bt259.2)) + bt266.2.2)) + bt272.2)) == 0)) else (none)) else (none)) else (none)) else (none))) else (none)) else (none))))))) = some r := H
 have A3 := Aside0.mk A30
 clear A30
 replace H := Option.bind_eq_some_iff.mp H
 obtain ⟨⟨t259, t260⟩, A40, H⟩ := H
 replace H : ((spilelaw34_example.f).bind fun t263 => ((suspect_Trend.f t263 1).bind fun bt266 => ((spilelaw34_example.f).bind fun t269 => ((suspect_Without.f t269 1 1).bind fun bt272 => (if t253 = 1 then (if t254 = 10 then ((slices_Equal_int_int.f k t259 (([8] : List Int))).bind fun t279 => (if t279 = true then (if bt266.1 = 3 then (if bt266.2.1 = 6 then (if (bt272.1.length : Int) = 2 then (some ((wrap64 ((wrap64 ((wrap64 (t255 + t260)) + bt266.2.2)) + bt272.2)) == 0)) else (none)) else (none)) else (none)) else (none))) else (none)) else (none)))))) = some r := H
 have A4 := Aside0.mk A40
 clear A40
 replace H := Option.bind_eq_some_iff.mp H
 obtain ⟨t263, A50, H⟩ := H
 replace H : ((suspect_Trend.f t263 1).bind fun bt266 => ((spilelaw34_example.f).bind fun t269 => ((suspect_Without.f t269 1 1).bind fun bt272 => (if t253 = 1 then (if t254 = 10 then ((slices_Equal_int_int.f k t259 (([8] : List Int))).bind fun t279 => (if t279 = true then (if bt266.1 = 3 then (if bt266.2.1 = 6 then (if (bt272.1.length : Int) = 2 then (some ((wrap64 ((wrap64 ((wrap64 (t255 + t260)) + bt266.2.2)) + bt272.2)) == 0)) else (none)) else (none)) else (none)) else (none))) else (none)) else (none))))) = some r := H
 have A5 := Aside0.mk A50
 clear A50
 replace H := Option.bind_eq_some_iff.mp H
 obtain ⟨⟨t266, t267, t268⟩, A60, H⟩ := H
 replace H : ((spilelaw34_example.f).bind fun t269 => ((suspect_Without.f t269 1 1).bind fun bt272 => (if t253 = 1 then (if t254 = 10 then ((slices_Equal_int_int.f k t259 (([8] : List Int))).bind fun t279 => (if t279 = true then (if t266 = 3 then (if t267 = 6 then (if (bt272.1.length : Int) = 2 then (some ((wrap64 ((wrap64 ((wrap64 (t255 + t260)) + t268)) + bt272.2)) == 0)) else (none)) else (none)) else (none)) else (none))) else (none)) else (none)))) = some r := H
 have A6 := Aside0.mk A60
 clear A60
 replace H := Option.bind_eq_some_iff.mp H
 obtain ⟨t269, A70, H⟩ := H
 replace H : ((suspect_Without.f t269 1 1).bind fun bt272 => (if t253 = 1 then (if t254 = 10 then ((slices_Equal_int_int.f k t259 (([8] : List Int))).bind fun t279 => (if t279 = true then (if t266 = 3 then (if t267 = 6 then (if (bt272.1.length : Int) = 2 then (some ((wrap64 ((wrap64 ((wrap64 (t255 + t260)) + t268)) + bt272.2)) == 0)) else (none)) else (none)) else (none)) else (none))) else (none)) else (none))) = some r := H
 have A7 := Aside0.mk A70
 clear A70
 replace H := Option.bind_eq_some_iff.mp H
 obtain ⟨⟨t272, t273⟩, A80, H⟩ := H
 replace H : (if t253 = 1 then (if t254 = 10 then ((slices_Equal_int_int.f k t259 (([8] : List Int))).bind fun t279 => (if t279 = true then (if t266 = 3 then (if t267 = 6 then (if (t272.length : Int) = 2 then (some ((wrap64 ((wrap64 ((wrap64 (t255 + t260)) + t268)) + t273)) == 0)) else (none)) else (none)) else (none)) else (none))) else (none)) else (none)) = some r := H
 have A8 := Aside0.mk A80
 clear A80
 by_cases c9 : t253 = 1
 ·rw [if_pos c9] at H
  have c9b0 : (t253 == 1) = true := beq_iff_eq.mpr c9
  try simp only [beq_self_eq_true, Bool.not_true, Bool.false_or, Bool.true_and] at c9b0
  have c9b1 : (t253 != 1) = false := bne_eq_false_iff_eq.mpr c9
  clear c9
  by_cases c10 : t254 = 10
  ·rw [if_pos c10] at H
   have c10b0 : (t254 == 10) = true := beq_iff_eq.mpr c10
   try simp only [beq_self_eq_true, Bool.not_true, Bool.false_or, Bool.true_and] at c10b0
   have c10b1 : (t254 != 10) = false := bne_eq_false_iff_eq.mpr c10
   clear c10
   obtain ⟨y276, hy276⟩ : ∃ y_ : List Int, y_ = (([8] : List Int)) := ⟨_, rfl⟩
   replace H : ((slices_Equal_int_int.f k t259 y276).bind fun t279 => (if t279 = true then (if t266 = 3 then (if t267 = 6 then (if (t272.length : Int) = 2 then (some ((wrap64 ((wrap64 ((wrap64 (t255 + t260)) + t268)) + t273)) == 0)) else (none)) else (none)) else (none)) else (none))) = some r := by first | (rw [hy276]; with_reducible exact H) | (have H2_ := (Option.bind_some _ _).symm.trans H; rw [hy276]; with_reducible exact H2_) | (have H2_ := (Option.bind_some _ _).symm.trans H; with_reducible exact H2_) | with_reducible exact H | (rw [hy276]; exact H) | exact H
   have Ny276 := Aside0.mk hy276
   clear hy276
   replace H := Option.bind_eq_some_iff.mp H
   obtain ⟨t279, A110, H⟩ := H
   replace H : (if t279 = true then (if t266 = 3 then (if t267 = 6 then (if (t272.length : Int) = 2 then (some ((wrap64 ((wrap64 ((wrap64 (t255 + t260)) + t268)) + t273)) == 0)) else (none)) else (none)) else (none)) else (none)) = some r := H
   have A11 := Aside0.mk A110
   clear A110
   by_cases c12 : t279 = true
   ·subst c12
    have H1 : (if t266 = 3 then (if t267 = 6 then (if (t272.length : Int) = 2 then (some ((wrap64 ((wrap64 ((wrap64 (t255 + t260)) + t268)) + t273)) == 0)) else (none)) else (none)) else (none)) = some r := by rw [if_pos rfl] at H; exact H
    clear H
    have H := H1
    clear H1
    by_cases c13 : t266 = 3
    ·rw [if_pos c13] at H
     have c13b0 : (t266 == 3) = true := beq_iff_eq.mpr c13
     try simp only [beq_self_eq_true, Bool.not_true, Bool.false_or, Bool.true_and] at c13b0
     have c13b1 : (t266 != 3) = false := bne_eq_false_iff_eq.mpr c13
     clear c13
     by_cases c14 : t267 = 6
     ·rw [if_pos c14] at H
      have c14b0 : (t267 == 6) = true := beq_iff_eq.mpr c14
      try simp only [beq_self_eq_true, Bool.not_true, Bool.false_or, Bool.true_and] at c14b0
      have c14b1 : (t267 != 6) = false := bne_eq_false_iff_eq.mpr c14
      clear c14
      by_cases c15 : (t272.length : Int) = 2
      ·rw [if_pos c15] at H
       have c15b0 : ((t272.length : Int) == 2) = true := beq_iff_eq.mpr c15
       try simp only [beq_self_eq_true, Bool.not_true, Bool.false_or, Bool.true_and] at c15b0
       have c15b1 : ((t272.length : Int) != 2) = false := bne_eq_false_iff_eq.mpr c15
       clear c15
       obtain rfl := Option.some.inj H
       go_enter Try.func10, Try.ntmps10
       go_wp2_with (first | ((with_reducible refine gqC (f := 33) rfl ?_); refine GS.gL (some 12) Try.func33 #[] ?_; (with_reducible refine (spilelaw34_example.calls  t250 _ A1.out).mono ?_); rintro e w16 ⟨v251, rfl, ho0, hb⟩; refine ⟨_, rfl, ?_⟩; have n0_ := Aside0.mk (Kd.R_lower ho0 (lqZ (GS.lB HB.out))); have n1_ := Aside0.mk (lqT (GS.lB HB.out) hb); clear HB; have HO252 := n0_; have HB := n1_; clear n0_ n1_; (try clear hb); (try clear hb2); (try clear hk); (try clear hi); (try clear ho0); obtain ⟨Ao17, co17, eo17⟩ := Kd.R_slice HO252.out; subst eo17) | ((with_reducible refine gqC (f := 21) rfl ?_); refine GS.gL (some 13) Try.func21 #[.slice Ao17 t250.length co17, .int .i64 2, .int .i64 8] ?_; (with_reducible refine (suspect_Test.calls _ _ t250 2 8 t253 t254 t255 _ ?side1 ?side2 A2.out).mono ?_); (case side1 => repeat (first | exact (Kd.R_reads' HO252.out).2.2 | (with_reducible refine Kd.C_alloc ?_ _) | (with_reducible refine Kd.C_drewN ?_ _) | (with_reducible refine Kd.C_drew ?_))); (case side2 => exact (Kd.R_reads' HO252.out).2.1); rintro e w18 ⟨rfl, hb⟩; refine ⟨_, rfl, ?_⟩; have n0_ := Aside0.mk (Kd.R_below (GS.rR HO252.out) hb); have n1_ := Aside0.mk (lqT (GS.lB HB.out) hb); clear HO252; clear HB; have HO252 := n0_; have HB := n1_; clear n0_ n1_; (try clear hb); (try clear hb2); (try clear hk); (try clear hi)) | ((with_reducible refine gqC (f := 33) rfl ?_); refine GS.gL (some 18) Try.func33 #[] ?_; (with_reducible refine (spilelaw34_example.calls  t256 _ A3.out).mono ?_); rintro e w19 ⟨v257, rfl, ho0, hb⟩; refine ⟨_, rfl, ?_⟩; have n0_ := Aside0.mk (Kd.R_elder' (GS.rR HO252.out) (Kd.R_base ho0) hb); have n1_ := Aside0.mk (Kd.R_lower (Kd.R_new' ho0 (Kd.R_lt (GS.rR HO252.out))) (lqZ (GS.lB HB.out))); have n2_ := Aside0.mk (lqT (GS.lB HB.out) hb); clear HO252; clear HB; have HO252 := n0_; have HO258 := n1_; have HB := n2_; clear n0_ n1_ n2_; (try clear hb); (try clear hb2); (try clear hk); (try clear hi); (try clear ho0); obtain ⟨Ao20, co20, eo20⟩ := Kd.R_slice HO258.out; subst eo20) | ((with_reducible refine gqC (f := 25) rfl ?_); refine GS.gL (some 19) Try.func25 #[.slice Ao20 t256.length co20, .int .i64 2, .int .i64 1, .int .i64 10] ?_; (with_reducible refine (suspect_Suspects.calls _ _ t256 2 1 10 t259 t260 _ ?side1 ?side2 A4.out).mono ?_); (case side1 => repeat (first | exact (Kd.R_reads' HO258.out).2.2 | (with_reducible refine Kd.C_alloc ?_ _) | (with_reducible refine Kd.C_drewN ?_ _) | (with_reducible refine Kd.C_drew ?_))); (case side2 => exact (Kd.R_reads' HO258.out).2.1); rintro e w21 ⟨v261, rfl, ho0, hb⟩; refine ⟨_, rfl, ?_⟩; have n0_ := Aside0.mk (Kd.R_below (GS.rR HO252.out) hb); have n1_ := Aside0.mk (Kd.R_below (GS.rR HO258.out) hb); have n2_ := Aside0.mk (Kd.R_lower ho0 (lqZ (GS.lB HB.out))); have n3_ := Aside0.mk (lqT (GS.lB HB.out) hb); clear HO252; clear HO258; clear HB; have HO252 := n0_; have HO258 := n1_; have HO262 := n2_; have HB := n3_; clear n0_ n1_ n2_ n3_; (try clear hb); (try clear hb2); (try clear hk); (try clear hi); (try clear ho0)) | ((with_reducible refine gqC (f := 33) rfl ?_); refine GS.gL (some 23) Try.func33 #[] ?_; (with_reducible refine (spilelaw34_example.calls  t263 _ A5.out).mono ?_); rintro e w22 ⟨v264, rfl, ho0, hb⟩; refine ⟨_, rfl, ?_⟩; have n0_ := Aside0.mk (Kd.R_elder' (GS.rR HO252.out) (Kd.R_base ho0) hb); have n1_ := Aside0.mk (Kd.R_elder' (GS.rR HO258.out) (Kd.R_base ho0) hb); have n2_ := Aside0.mk (Kd.R_below (GS.rR HO262.out) hb); have n3_ := Aside0.mk (Kd.R_lower (Kd.R_new' (Kd.R_new' ho0 (Kd.R_lt (GS.rR HO252.out))) (Kd.R_lt (GS.rR HO258.out))) (lqZ (GS.lB HB.out))); have n4_ := Aside0.mk (lqT (GS.lB HB.out) hb); clear HO252; clear HO258; clear HO262; clear HB; have HO252 := n0_; have HO258 := n1_; have HO262 := n2_; have HO265 := n3_; have HB := n4_; clear n0_ n1_ n2_ n3_ n4_; (try clear hb); (try clear hb2); (try clear hk); (try clear hi); (try clear ho0); obtain ⟨Ao23, co23, eo23⟩ := Kd.R_slice HO265.out; subst eo23) | ((with_reducible refine gqC (f := 23) rfl ?_); refine GS.gL (some 24) Try.func23 #[.slice Ao23 t263.length co23, .int .i64 1] ?_; (with_reducible refine (suspect_Trend.calls _ _ t263 1 t266 t267 t268 _ ?side1 ?side2 A6.out).mono ?_); (case side1 => repeat (first | exact (Kd.R_reads' HO265.out).2.2 | (with_reducible refine Kd.C_alloc ?_ _) | (with_reducible refine Kd.C_drewN ?_ _) | (with_reducible refine Kd.C_drew ?_))); (case side2 => exact (Kd.R_reads' HO265.out).2.1); rintro e w24 ⟨rfl, hb⟩; refine ⟨_, rfl, ?_⟩; have n0_ := Aside0.mk (Kd.R_below (GS.rR HO252.out) hb); have n1_ := Aside0.mk (Kd.R_below (GS.rR HO258.out) hb); have n2_ := Aside0.mk (Kd.R_below (GS.rR HO262.out) hb); have n3_ := Aside0.mk (Kd.R_below (GS.rR HO265.out) hb); have n4_ := Aside0.mk (lqT (GS.lB HB.out) hb); clear HO252; clear HO258; clear HO262; clear HO265; clear HB; have HO252 := n0_; have HO258 := n1_; have HO262 := n2_; have HO265 := n3_; have HB := n4_; clear n0_ n1_ n2_ n3_ n4_; (try clear hb); (try clear hb2); (try clear hk); (try clear hi)) | ((with_reducible refine gqC (f := 33) rfl ?_); refine GS.gL (some 29) Try.func33 #[] ?_; (with_reducible refine (spilelaw34_example.calls  t269 _ A7.out).mono ?_); rintro e w25 ⟨v270, rfl, ho0, hb⟩; refine ⟨_, rfl, ?_⟩; have n0_ := Aside0.mk (Kd.R_elder' (GS.rR HO252.out) (Kd.R_base ho0) hb); have n1_ := Aside0.mk (Kd.R_elder' (GS.rR HO258.out) (Kd.R_base ho0) hb); have n2_ := Aside0.mk (Kd.R_below (GS.rR HO262.out) hb); have n3_ := Aside0.mk (Kd.R_elder' (GS.rR HO265.out) (Kd.R_base ho0) hb); have n4_ := Aside0.mk (Kd.R_lower (Kd.R_new' (Kd.R_new' (Kd.R_new' ho0 (Kd.R_lt (GS.rR HO252.out))) (Kd.R_lt (GS.rR HO258.out))) (Kd.R_lt (GS.rR HO265.out))) (lqZ (GS.lB HB.out))); have n5_ := Aside0.mk (lqT (GS.lB HB.out) hb); clear HO252; clear HO258; clear HO262; clear HO265; clear HB; have HO252 := n0_; have HO258 := n1_; have HO262 := n2_; have HO265 := n3_; have HO271 := n4_; have HB := n5_; clear n0_ n1_ n2_ n3_ n4_ n5_; (try clear hb); (try clear hb2); (try clear hk); (try clear hi); (try clear ho0); obtain ⟨Ao26, co26, eo26⟩ := Kd.R_slice HO271.out; subst eo26) | ((with_reducible refine gqC (f := 17) rfl ?_); refine GS.gL (some 30) Try.func17 #[.slice Ao26 t269.length co26, .int .i64 1, .int .i64 1] ?_; (with_reducible refine (suspect_Without.calls _ _ t269 1 1 t272 t273 _ ?side1 ?side2 A8.out).mono ?_); (case side1 => repeat (first | exact (Kd.R_reads' HO271.out).2.2 | (with_reducible refine Kd.C_alloc ?_ _) | (with_reducible refine Kd.C_drewN ?_ _) | (with_reducible refine Kd.C_drew ?_))); (case side2 => exact (Kd.R_reads' HO271.out).2.1); rintro e w27 ⟨v274, rfl, ho0, hb⟩; refine ⟨_, rfl, ?_⟩; have n0_ := Aside0.mk (Kd.R_elder' (GS.rR HO252.out) (Kd.R_base ho0) hb); have n1_ := Aside0.mk (Kd.R_elder' (GS.rR HO258.out) (Kd.R_base ho0) hb); have n2_ := Aside0.mk (Kd.R_below (GS.rR HO262.out) hb); have n3_ := Aside0.mk (Kd.R_elder' (GS.rR HO265.out) (Kd.R_base ho0) hb); have n4_ := Aside0.mk (Kd.R_elder' (GS.rR HO271.out) (Kd.R_base ho0) hb); have n5_ := Aside0.mk (Kd.R_lower (Kd.R_new' (Kd.R_new' (Kd.R_new' (Kd.R_new' ho0 (Kd.R_lt (GS.rR HO252.out))) (Kd.R_lt (GS.rR HO258.out))) (Kd.R_lt (GS.rR HO265.out))) (Kd.R_lt (GS.rR HO271.out))) (lqZ (GS.lB HB.out))); have n6_ := Aside0.mk (lqT (GS.lB HB.out) hb); clear HO252; clear HO258; clear HO262; clear HO265; clear HO271; clear HB; have HO252 := n0_; have HO258 := n1_; have HO262 := n2_; have HO265 := n3_; have HO271 := n4_; have HO275 := n5_; have HB := n6_; clear n0_ n1_ n2_ n3_ n4_ n5_ n6_; (try clear hb); (try clear hb2); (try clear hk); (try clear hi); (try clear ho0)) | ((with_reducible refine gqD (N := 41) rfl ?_); (try (refine gate_guard (by rfl) ?_; dsimp only)); refine Kd.R_lit (Kd.int .i64) _ 3 ?hg (N := 41) ?hd (xs := ([8] : List Int)) (inner := [.int .i64 8]) (ok := fun _ => True) (okp := fun _ => True) ?hr ?hp (fun _ hk => hk) trivial (Below.refl _ _) (Nat.le_refl _) (by simp) ?_; (case hd => rfl); (case hg => rfl); (case hr => first | (go_simp; done) | (go_simp; rfl)); (case hp => exact (Reps.one (show Kd.M (Kd.int .i64) _ _ _ 8 [.int .i64 8] from rfl) (Reps.none _ _))); intro v277 w28 ho29 hb hg_ hnew_; clear hg_ hnew_; (first | rw [← Ny276.out] at ho29 | (simp only [Int.reduceToNat] at ho29; rw [← Ny276.out] at ho29)); have n0_ := Aside0.mk (Kd.R_below (GS.rR HO252.out) hb); have n1_ := Aside0.mk (Kd.R_below (GS.rR HO258.out) hb); have n2_ := Aside0.mk (Kd.R_elder' (GS.rR HO262.out) (Kd.R_base ho29) hb); have n3_ := Aside0.mk (Kd.R_below (GS.rR HO265.out) hb); have n4_ := Aside0.mk (Kd.R_below (GS.rR HO271.out) hb); have n5_ := Aside0.mk (Kd.R_below (GS.rR HO275.out) hb); have n6_ := Aside0.mk (Kd.R_lower (Kd.R_new' ho29 (Kd.R_lt (GS.rR HO262.out))) (lqZ (GS.lB HB.out))); have n7_ := Aside0.mk (lqT (GS.lB HB.out) hb); clear HO252; clear HO258; clear HO262; clear HO265; clear HO271; clear HO275; clear HB; have HO252 := n0_; have HO258 := n1_; have HO262 := n2_; have HO265 := n3_; have HO271 := n4_; have HO275 := n5_; have HO278 := n6_; have HB := n7_; clear n0_ n1_ n2_ n3_ n4_ n5_ n6_ n7_; clear hb ho29; obtain ⟨Ao30, co30, eo30⟩ := Kd.R_slice HO262.out; subst eo30; obtain ⟨Ao31, co31, eo31⟩ := Kd.R_slice HO278.out; subst eo31) | (go_at_call 34; (with_reducible refine (slices_Equal_int_int.calls k _ _ t259 _ _ y276 true _ ?side1 ?side2 ?side3 ?side4 A11.out).mono ?_); (case side1 => repeat (first | exact (Kd.R_reads' HO262.out).2.2 | (with_reducible refine Kd.C_alloc ?_ _) | (with_reducible refine Kd.C_drewN ?_ _) | (with_reducible refine Kd.C_drew ?_))); (case side2 => exact (Kd.R_reads' HO262.out).2.1); (case side3 => repeat (first | exact (Kd.R_reads' HO278.out).2.2 | (with_reducible refine Kd.C_alloc ?_ _) | (with_reducible refine Kd.C_drewN ?_ _) | (with_reducible refine Kd.C_drew ?_))); (case side4 => exact (Kd.R_reads' HO278.out).2.1); rintro e w' ⟨rfl, ⟨nd, rfl⟩⟩; obtain ⟨Ao32, co32, eo32⟩ := Kd.R_slice HO275.out; subst eo32))
       go_ret
       exact ⟨by first | rfl | (simp [errW_none, errW_some] <;> rfl) | (simp [*, errW_none, errW_some] <;> rfl), GS.lB HB.out⟩
      ·rw [if_neg c15] at H
       exact absurd H (by simp)
     ·rw [if_neg c14] at H
      exact absurd H (by simp)
    ·rw [if_neg c13] at H
     exact absurd H (by simp)
   ·replace c12 := Bool.eq_false_iff.mpr c12
    subst c12
    have H1 : (none) = some r := by rw [if_neg (show ¬ (false = true) by decide)] at H; exact H
    clear H
    have H := H1
    clear H1
    exact absurd H (by simp)
  ·rw [if_neg c10] at H
   exact absurd H (by simp)
 ·rw [if_neg c9] at H
  exact absurd H (by simp)

/-! ### spileref34_Few: function 11 -/
def spileref34_Few.f (l0 : List (S30)) : Option (Bool) := if (l0.length : Int) ≤ 14 then (some true) else (some ((l0.length : Int) == 25))
set_option maxHeartbeats 8000000 in
set_option maxRecDepth 100000 in
theorem spileref34_Few.calls (A0 : Option Addr) (c0 : Nat) (l0 : List (S30)) (r : Bool) (w : World) (hr0 : Kd.C k30 w A0 l0.length l0) (hc0 : l0.length ≤ c0) (h : spileref34_Few.f l0 = some r) :
  Calls Try.prog 11 #[.slice A0 l0.length c0] w fun e w' => e = .returned (.bool r) ∧ Drawn0 w w' := by
 have HR0 := Aside0.mk hr0
 have HC0 := Aside0.mk hc0
 clear hr0 hc0
 have H : (if (l0.length : Int) ≤ 14 then (some true) else (some ((l0.length : Int) == 25))) = some r := h
 clear h
 by_cases c2 : (l0.length : Int) ≤ 14
 ·rw [if_pos c2] at H
  have c2b0 : decide ((l0.length : Int) ≤ 14) = true := decide_eq_true c2
  have c2b1 : decide (l0.length ≤ 14) = true := decide_eq_true (by omega)
  clear c2
  obtain rfl := Option.some.inj H
  go_enter Try.func11, Try.ntmps11
  go_wp2
  go_ret
  exact ⟨by first | rfl | (simp; done) | (simp [*]; done), by repeat (first | exact Drawn0.refl _ | apply Drawn0.step)⟩
 ·rw [if_neg c2] at H
  have c2b0 : decide ((l0.length : Int) ≤ 14) = false := decide_eq_false c2
  have c2b1 : decide (l0.length ≤ 14) = false := decide_eq_false (by omega)
  clear c2
  obtain rfl := Option.some.inj H
  go_enter Try.func11, Try.ntmps11
  go_wp2
  go_ret
  exact ⟨by first | rfl | (simp; done) | (simp [*]; done), by repeat (first | exact Drawn0.refl _ | apply Drawn0.step)⟩

/-! ### spileref34_id: function 35 -/
def spileref34_id.f (a0 : Int) : Option (Bool) := if a0 ≥ 1 then (some (decide (a0 ≤ 1073741824))) else (some false)
set_option maxHeartbeats 8000000 in
set_option maxRecDepth 100000 in
theorem spileref34_id.calls (a0 : Int) (r : Bool) (w : World) (h : spileref34_id.f a0 = some r) :
  Calls Try.prog 35 #[.int .i64 a0] w fun e w' => e = .returned (.bool r) ∧ Drawn0 w w' := by
 have H : (if a0 ≥ 1 then (some (decide (a0 ≤ 1073741824))) else (some false)) = some r := h
 clear h
 by_cases c2 : a0 ≥ 1
 ·rw [if_pos c2] at H
  have c2b0 : decide (1 ≤ a0) = true := decide_eq_true c2
  clear c2
  obtain rfl := Option.some.inj H
  go_enter Try.func35, Try.ntmps35
  go_wp2
  go_ret
  exact ⟨by first | rfl | (simp; done) | (simp [*]; done), by repeat (first | exact Drawn0.refl _ | apply Drawn0.step)⟩
 ·rw [if_neg c2] at H
  have c2b0 : decide (1 ≤ a0) = false := decide_eq_false c2
  clear c2
  obtain rfl := Option.some.inj H
  go_enter Try.func35, Try.ntmps35
  go_wp2
  go_ret
  exact ⟨by first | rfl | (simp; done) | (simp [*]; done), by repeat (first | exact Drawn0.refl _ | apply Drawn0.step)⟩

end Go.Proofs.Ytfhmjleimampeaa.K
