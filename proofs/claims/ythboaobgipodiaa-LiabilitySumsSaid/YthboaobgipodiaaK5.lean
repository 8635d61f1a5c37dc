-- PRINTED by print.py (a twelfth state) out of the translation. Not trusted: Lean checks it.
import Derived.Test.YthboaobgipodiaaK0
import Derived.Test.YthboaobgipodiaaGShort
import Derived.Test.YthboaobgipodiaaK3
import Derived.Test.YthboaobgipodiaaK4
namespace Go.Proofs.Ythboaobgipodiaa.K
open Go.RowKit Go.Proofs.YthboaobgipodiaaW.PrintWords Go.Proofs.YthboaobgipodiaaW.PrintLast Go.Proofs.YthboaobgipodiaaW.PrintMore
attribute [local go_sem] max2_int min2_int max_two min_two max_three min_three max_four min_four   -- for this text's walks alone
set_option linter.unusedVariables false
set_option linter.unusedSimpArgs false

/-! ### liability_asks: function 30 -/
def liability_asks.j0 : Nat → Int → Bool → Option (Int)
 | 0, _, _ => none
 | k + 1, x2, x21 => if x21 = true then (some 1) else ((liability_within.f x2 0 100000).bind fun t136 => (if t136 = true then (some 0) else (some 2)))
def liability_asks.f (k : Nat) (a0_0 : Int) (l0_1 : List (S60)) (l1 : List (S35)) (a2 : Int) : Option (Int) := (tariff_Check.f k a0_0 l0_1).bind fun bt132 => ((liability_Check.f k l1).bind fun bt134 => (if bt132.2 = 0 then (liability_asks.j0 k a2 (bt134.2 != 0)) else (liability_asks.j0 k a2 true)))
theorem liability_asks.mono_l : ∀ k, (∀ y0 y1, LeO (liability_asks.j0 k y0 y1) (liability_asks.j0 (k + 1) y0 y1))
 | 0 => fun _ _ r h => by simp [liability_asks.j0] at h
 | k + 1 => by
  have ih0 := liability_asks.mono_l k
  ·intro y0 y1
   unfold liability_asks.j0
   repeat' first
   | (with_reducible exact ih0 _ _)
   | (with_reducible exact liability_Check.mono _ _)
   | (with_reducible exact tariff_Check.mono _ _ _)
   | (with_reducible exact LeO.refl _)
   | (with_reducible exact LeO.none _)
   | (with_reducible refine LeO.ite ?_ ?_)
   | (with_reducible refine LeO.bind ?_ (fun _ => ?_))
   | exact ih0 _ _
   | exact liability_Check.mono _ _
   | exact tariff_Check.mono _ _ _
   | exact LeO.none _
   | refine LeO.ite ?_ ?_
   | refine LeO.bind ?_ (fun _ => ?_)
theorem liability_asks.mono : ∀ a0 a1 a2 a3 k, LeO (liability_asks.f k a0 a1 a2 a3) (liability_asks.f (k + 1) a0 a1 a2 a3) := by
 intro a0 a1 a2 a3 k
 have ih0 := liability_asks.mono_l k
 unfold liability_asks.f
 repeat' first
   | (with_reducible exact ih0 _ _)
   | (with_reducible exact liability_Check.mono _ _)
   | (with_reducible exact tariff_Check.mono _ _ _)
   | (with_reducible exact LeO.refl _)
   | (with_reducible exact LeO.none _)
   | (with_reducible refine LeO.ite ?_ ?_)
   | (with_reducible refine LeO.bind ?_ (fun _ => ?_))
   | exact ih0 _ _
   | exact liability_Check.mono _ _
   | exact tariff_Check.mono _ _ _
   | exact LeO.none _
   | refine LeO.ite ?_ ?_
   | refine LeO.bind ?_ (fun _ => ?_)
set_option maxHeartbeats 8000000 in
set_option maxRecDepth 100000 in
theorem liability_asks.calls (k : Nat) (a0_0 : Int) (A0_1 : Option Addr) (c0_1 : Nat) (l0_1 : List (S60)) (A1 : Option Addr) (c1 : Nat) (l1 : List (S35)) (a2 : Int) (r : Int) (w : World) (hr0_1 : Kd.C k60 w A0_1 l0_1.length l0_1) (hc0_1 : l0_1.length ≤ c0_1) (hr1 : Kd.C k35 w A1 l1.length l1) (hc1 : l1.length ≤ c1) (h : liability_asks.f k a0_0 l0_1 l1 a2 = some r) :
  Calls Try.prog 30 #[.agg #[.int .i64 a0_0, .slice A0_1 l0_1.length c0_1], .slice A1 l1.length c1, .int .i64 a2] w fun e w' => e = .returned (.int .i64 r) ∧ Below w.heap.size w w' := by
 have hu24 := Try.underlying24
 have HR0_1 := Aside0.mk hr0_1
 have HC0_1 := Aside0.mk hc0_1
 clear hr0_1 hc0_1
 have HR1 := Aside0.mk hr1
 have HC1 := Aside0.mk hc1
 clear hr1 hc1
 have HB := Aside0.mk (Below.refl w.heap.size w)
 have H : ((tariff_Check.f k a0_0 l0_1).bind fun bt132 => ((liability_Check.f k l1).bind fun bt134 => (if bt132.2 = 0 then (liability_asks.j0 k a2 (bt134.2 != 0)) else (liability_asks.j0 k a2 true)))) = some r := h
 clear h
 replace H := Option.bind_eq_some_iff.mp H
 obtain ⟨⟨t132, t133⟩, A40, H⟩ := H
 replace H : ((liability_Check.f k l1).bind fun bt134 => (if t133 = 0 then (liability_asks.j0 k a2 (bt134.2 != 0)) else (liability_asks.j0 k a2 true))) = some r := H
 have A4 := Aside0.mk A40
 clear A40
 replace H := Option.bind_eq_some_iff.mp H
 obtain ⟨⟨t134, t135⟩, A50, H⟩ := H
 replace H : (if t133 = 0 then (liability_asks.j0 k a2 (t135 != 0)) else (liability_asks.j0 k a2 true)) = some r := H
 have A5 := Aside0.mk A50
 clear A50
 have HC6 := Aside0.mk H
 clear H
 go_enter Try.func30, Try.ntmps30
 go_upto_region 3 with (first | ((with_reducible refine gqD (N := 3) rfl ?_); refine GS.bx (N := 3) (cs := #[.int .i64 a0_0, .slice A0_1 l0_1.length c0_1]) (t := 24) ?_; intro gb131 hg w7 hbox hb; have n0_ := Aside0.mk (lqT (GS.lB HB.out) hb); have n1_ := Aside0.mk (hbox); have n2_ := Aside0.mk ((by rw [hg]; exact (lqZ (GS.lB HB.out)) : w.heap.size ≤ gb131)); have n3_ := Aside0.mk ((by rw [hg]; exact (lqZ (GS.lB HB.out)) : w.heap.size ≤ gb131)); clear HB; have HB := n0_; have BK131 := n1_; have GW131 := n2_; have GE131 := n3_; clear n0_ n1_ n2_ n3_; clear hb hbox hg; obtain ⟨hcz8_0, hcz8_1, hfz8_0, hfz8_1⟩ := GS.c2 BK131.out) | ((with_reducible refine gqC (f := 44) rfl ?_); refine GS.gL (some 13) Try.func44 #[.agg #[.int .i64 a0_0, .slice A0_1 l0_1.length c0_1]] ?_; (with_reducible refine (tariff_Check.calls k a0_0 _ _ l0_1 t132 t133 _ ?side1 ?side2 A4.out).mono ?_); (case side1 => exact GS.rC (Kd.C_below HR0_1.out HB.out)); (case side2 => exact HC0_1.out); rintro e w9 ⟨rfl, hb⟩; refine ⟨_, rfl, ?_⟩; have n0_ := Aside0.mk (bqB (GS.bqX BK131.out) hb); have n1_ := Aside0.mk (lqT (GS.lB HB.out) hb); clear BK131; clear HB; have BK131 := n0_; have HB := n1_; clear n0_ n1_; (try clear hb); (try clear hb2); (try clear hk); (try clear hi)) | ((with_reducible refine gqC (f := 28) rfl ?_); refine GS.gL (some 18) Try.func28 #[.slice A1 l1.length c1] ?_; (with_reducible refine (liability_Check.calls k _ _ l1 t134 t135 _ ?side1 ?side2 A5.out).mono ?_); (case side1 => exact GS.rC (Kd.C_below HR1.out HB.out)); (case side2 => exact HC1.out); rintro e w10 ⟨rfl, hb⟩; refine ⟨_, rfl, ?_⟩; have n0_ := Aside0.mk (bqB (GS.bqX BK131.out) hb); have n1_ := Aside0.mk (lqT (GS.lB HB.out) hb); clear BK131; clear HB; have BK131 := n0_; have HB := n1_; clear n0_ n1_; (try clear hb); (try clear hb2); (try clear hk); (try clear hi)))
 (try simp only [Act.put, List.setIfInBounds_toArray, List.set_cons_zero, List.set_cons_succ])
 go_cut [21] (fun v21 wc => ∃ (kq : Nat) (x21_5 : Bool), v21 = .bool x21_5 ∧ Aside0 (liability_asks.j0 kq a2 x21_5 = some r) ∧ Aside0 (kq ≤ k) ∧ Aside0 (wc.heap[gb131]? = some (.cells #[.int .i64 a0_0, (.slice A0_1 l0_1.length c0_1)] 24 (0, 0))) ∧ Aside0 (Below w.heap.size w wc))
 case first =>
  have H := HC6.out
  clear HC6
  by_cases c11 : t133 = 0
  ·rw [if_pos c11] at H
   have c11b0 : (t133 == 0) = true := beq_iff_eq.mpr c11
   try simp only [beq_self_eq_true, Bool.not_true, Bool.false_or, Bool.true_and] at c11b0
   have c11b1 : (t133 != 0) = false := bne_eq_false_iff_eq.mpr c11
   clear c11
   (first | rw [c11b0] | (simp only [i64_w, i32_w]; rw [c11b0]) | skip)
   have H' := Aside0.mk H
   clear H
   go_wp2
   go_meet
   case rel => exact ⟨_, ((t135 != 0)), (by first | rfl | (simp; done) | (simp [*]; done)), H', ⟨by first | omega | exact Nat.le_refl _⟩, ⟨GS.bqX BK131.out⟩, ⟨GS.lB HB.out⟩⟩
  ·rw [if_neg c11] at H
   have c11b0 : (t133 == 0) = false := beq_eq_false_iff_ne.mpr c11
   try simp only [beq_self_eq_true, Bool.not_true, Bool.false_or, Bool.true_and] at c11b0
   have c11b1 : (t133 != 0) = true := bne_iff_ne.mpr c11
   (first | rw [c11b0] | (simp only [i64_w, i32_w]; rw [c11b0]) | skip)
   have H' := Aside0.mk H
   clear H
   go_wp2
   go_meet
   case rel => exact ⟨_, (true), (by first | rfl | (simp; done) | (simp [*]; done)), H', ⟨by first | omega | exact Nat.le_refl _⟩, ⟨GS.bqX BK131.out⟩, ⟨GS.lB HB.out⟩⟩
 case rest =>
  clear HC6
  try clear c1
  try clear c2
  try clear p2
  try clear c3
  try clear c4
  try clear c11
  try clear c11b0
  try clear c11b1
  try clear hcz8_0
  try clear hcz8_1
  try clear hfz8_0
  try clear hfz8_1
  obtain ⟨kq, x21_5, rfl, HA, HJ5, BK131, HB⟩ := hcut
  cases kq with
  | zero => exact absurd HA.out (by simp [liability_asks.j0])
  | succ kj5 =>
   have H := HA.out
   clear HA
   simp only [liability_asks.j0] at H
   by_cases c12 : x21_5 = true
   ·subst c12
    have H1 : (some 1) = some r := by rw [if_pos rfl] at H; exact H
    clear H
    have H := H1
    clear H1
    obtain rfl := Option.some.inj H
    go_wp2
    go_ret
    exact ⟨by first | rfl | (simp [errW_none, errW_some] <;> rfl) | (simp [*, errW_none, errW_some] <;> rfl), GS.lB HB.out⟩
   ·replace c12 := Bool.eq_false_iff.mpr c12
    subst c12
    have H1 : ((liability_within.f a2 0 100000).bind fun t136 => (if t136 = true then (some 0) else (some 2))) = some r := by rw [if_neg (show ¬ (false = true) by decide)] at H; exact H
    clear H
    have H := H1
    clear H1
    replace H := Option.bind_eq_some_iff.mp H
    obtain ⟨t136, A130, H⟩ := H
    replace H : (if t136 = true then (some 0) else (some 2)) = some r := H
    have A13 := Aside0.mk A130
    clear A130
    by_cases c14 : t136 = true
    ·subst c14
     have H1 : (some 0) = some r := by rw [if_pos rfl] at H; exact H
     clear H
     have H := H1
     clear H1
     obtain rfl := Option.some.inj H
     go_wp2_with (first | ((with_reducible refine gqC (f := 43) rfl ?_); refine GS.gL (some 30) Try.func43 #[.int .i64 a2, .int .i64 0, .int .i64 100000] ?_; (with_reducible refine (liability_within.calls a2 0 100000 true _ A13.out).mono ?_); rintro e w' ⟨rfl, ⟨nd, rfl⟩⟩; refine ⟨_, rfl, ?_⟩))
     go_ret
     exact ⟨by first | rfl | (simp [errW_none, errW_some] <;> rfl) | (simp [*, errW_none, errW_some] <;> rfl), GS.lB HB.out⟩
    ·replace c14 := Bool.eq_false_iff.mpr c14
     subst c14
     have H1 : (some 2) = some r := by rw [if_neg (show ¬ (false = true) by decide)] at H; exact H
     clear H
     have H := H1
     clear H1
     obtain rfl := Option.some.inj H
     go_wp2_with (first | ((with_reducible refine gqC (f := 43) rfl ?_); refine GS.gL (some 30) Try.func43 #[.int .i64 a2, .int .i64 0, .int .i64 100000] ?_; (with_reducible refine (liability_within.calls a2 0 100000 false _ A13.out).mono ?_); rintro e w' ⟨rfl, ⟨nd, rfl⟩⟩; refine ⟨_, rfl, ?_⟩))
     go_ret
     exact ⟨by first | rfl | (simp [errW_none, errW_some] <;> rfl) | (simp [*, errW_none, errW_some] <;> rfl), GS.lB HB.out⟩

/-! ### tariff_right: function 69 -/
def tariff_right.f (k : Nat) (a0_0 : Int) (l0_1 : List (S60)) : Option (Bool) := (tariff_Check.f k a0_0 l0_1).bind fun bt138 => (some (bt138.2 == 0))
theorem tariff_right.mono : ∀ a0 a1 k, LeO (tariff_right.f k a0 a1) (tariff_right.f (k + 1) a0 a1) := by
 intro a0 a1 k
 unfold tariff_right.f
 repeat' first
   | (with_reducible exact tariff_Check.mono _ _ _)
   | (with_reducible exact LeO.refl _)
   | (with_reducible exact LeO.none _)
   | (with_reducible refine LeO.ite ?_ ?_)
   | (with_reducible refine LeO.bind ?_ (fun _ => ?_))
   | exact tariff_Check.mono _ _ _
   | exact LeO.none _
   | refine LeO.ite ?_ ?_
   | refine LeO.bind ?_ (fun _ => ?_)
set_option maxHeartbeats 8000000 in
set_option maxRecDepth 100000 in
theorem tariff_right.calls (k : Nat) (a0_0 : Int) (A0_1 : Option Addr) (c0_1 : Nat) (l0_1 : List (S60)) (r : Bool) (w : World) (hr0_1 : Kd.C k60 w A0_1 l0_1.length l0_1) (hc0_1 : l0_1.length ≤ c0_1) (h : tariff_right.f k a0_0 l0_1 = some r) :
  Calls Try.prog 69 #[.agg #[.int .i64 a0_0, .slice A0_1 l0_1.length c0_1]] w fun e w' => e = .returned (.bool r) ∧ Below w.heap.size w w' := by
 have hu24 := Try.underlying24
 have HR0_1 := Aside0.mk hr0_1
 have HC0_1 := Aside0.mk hc0_1
 clear hr0_1 hc0_1
 have HB := Aside0.mk (Below.refl w.heap.size w)
 have H : ((tariff_Check.f k a0_0 l0_1).bind fun bt138 => (some (bt138.2 == 0))) = some r := h
 clear h
 replace H := Option.bind_eq_some_iff.mp H
 obtain ⟨⟨t138, t139⟩, A20, H⟩ := H
 replace H : (some (t139 == 0)) = some r := H
 have A2 := Aside0.mk A20
 clear A20
 obtain rfl := Option.some.inj H
 go_enter Try.func69, Try.ntmps69
 go_wp2_with (first | ((with_reducible refine gqD (N := 1) rfl ?_); refine GS.bx (N := 1) (cs := #[.int .i64 a0_0, .slice A0_1 l0_1.length c0_1]) (t := 24) ?_; intro gb137 hg w3 hbox hb; have n0_ := Aside0.mk (lqT (GS.lB HB.out) hb); have n1_ := Aside0.mk (hbox); have n2_ := Aside0.mk ((by rw [hg]; exact (lqZ (GS.lB HB.out)) : w.heap.size ≤ gb137)); have n3_ := Aside0.mk ((by rw [hg]; exact (lqZ (GS.lB HB.out)) : w.heap.size ≤ gb137)); clear HB; have HB := n0_; have BK137 := n1_; have GW137 := n2_; have GE137 := n3_; clear n0_ n1_ n2_ n3_; clear hb hbox hg; obtain ⟨hcz4_0, hcz4_1, hfz4_0, hfz4_1⟩ := GS.c2 BK137.out) | ((with_reducible refine gqC (f := 44) rfl ?_); refine GS.gL (some 7) Try.func44 #[.agg #[.int .i64 a0_0, .slice A0_1 l0_1.length c0_1]] ?_; (with_reducible refine (tariff_Check.calls k a0_0 _ _ l0_1 t138 t139 _ ?side1 ?side2 A2.out).mono ?_); (case side1 => exact GS.rC (Kd.C_below HR0_1.out HB.out)); (case side2 => exact HC0_1.out); rintro e w5 ⟨rfl, hb⟩; refine ⟨_, rfl, ?_⟩; have n0_ := Aside0.mk (bqB (GS.bqX BK137.out) hb); have n1_ := Aside0.mk (lqT (GS.lB HB.out) hb); clear BK137; clear HB; have BK137 := n0_; have HB := n1_; clear n0_ n1_; (try clear hb); (try clear hb2); (try clear hk); (try clear hi)))
 go_ret
 exact ⟨by first | rfl | (simp [errW_none, errW_some] <;> rfl) | (simp [*, errW_none, errW_some] <;> rfl), GS.lB HB.out⟩

/-! ### tariff_span: function 67 -/
def tariff_span.j0 : Nat → Bool → Option (Int)
 | 0, _ => none
 | k + 1, x13 => if x13 = true then (some 2) else (some 0)
def tariff_span.f (k : Nat) (a0_0 : Int) (l0_1 : List (S60)) (a1 : Int) (a2 : Int) (a3 : Int) : Option (Int) := (tariff_right.f k a0_0 l0_1).bind fun t141 => (if t141 = true then ((tariff_within.f a1 1 9).bind fun t142 => (if t142 = true then ((tariff_within.f a2 0 100000).bind fun t143 => (if t143 = true then ((tariff_within.f a3 a2 100000).bind fun t144 => (tariff_span.j0 k (!t144))) else (tariff_span.j0 k true))) else (tariff_span.j0 k true))) else (some 1))
theorem tariff_span.mono_l : ∀ k, (∀ y0, LeO (tariff_span.j0 k y0) (tariff_span.j0 (k + 1) y0))
 | 0 => fun _ r h => by simp [tariff_span.j0] at h
 | k + 1 => by
  have ih0 := tariff_span.mono_l k
  ·intro y0
   unfold tariff_span.j0
   repeat' first
   | (with_reducible exact ih0 _)
   | (with_reducible exact tariff_right.mono _ _ _)
   | (with_reducible exact LeO.refl _)
   | (with_reducible exact LeO.none _)
   | (with_reducible refine LeO.ite ?_ ?_)
   | (with_reducible refine LeO.bind ?_ (fun _ => ?_))
   | exact ih0 _
   | exact tariff_right.mono _ _ _
   | exact LeO.none _
   | refine LeO.ite ?_ ?_
   | refine LeO.bind ?_ (fun _ => ?_)
theorem tariff_span.mono : ∀ a0 a1 a2 a3 a4 k, LeO (tariff_span.f k a0 a1 a2 a3 a4) (tariff_span.f (k + 1) a0 a1 a2 a3 a4) := by
 intro a0 a1 a2 a3 a4 k
 have ih0 := tariff_span.mono_l k
 unfold tariff_span.f
 repeat' first
   | (with_reducible exact ih0 _)
   | (with_reducible exact tariff_right.mono _ _ _)
   | (with_reducible exact LeO.refl _)
   | (with_reducible exact LeO.none _)
   | (with_reducible refine LeO.ite ?_ ?_)
   | (with_reducible refine LeO.bind ?_ (fun _ => ?_))
   | exact ih0 _
   | exact tariff_right.mono _ _ _
   | exact LeO.none _
   | refine LeO.ite ?_ ?_
   | refine LeO.bind ?_ (fun _ => ?_)
set_option maxHeartbeats 8000000 in
set_option maxRecDepth 100000 in
theorem tariff_span.calls (k : Nat) (a0_0 : Int) (A0_1 : Option Addr) (c0_1 : Nat) (l0_1 : List (S60)) (a1 : Int) (a2 : Int) (a3 : Int) (r : Int) (w : World) (hr0_1 : Kd.C k60 w A0_1 l0_1.length l0_1) (hc0_1 : l0_1.length ≤ c0_1) (h : tariff_span.f k a0_0 l0_1 a1 a2 a3 = some r) :
  Calls Try.prog 67 #[.agg #[.int .i64 a0_0, .slice A0_1 l0_1.length c0_1], .int .i64 a1, .int .i64 a2, .int .i64 a3] w fun e w' => e = .returned (.int .i64 r) ∧ Below w.heap.size w w' := by
 have hu24 := Try.underlying24
 have HR0_1 := Aside0.mk hr0_1
 have HC0_1 := Aside0.mk hc0_1
 clear hr0_1 hc0_1
 have HB := Aside0.mk (Below.refl w.heap.size w)
 have H : ((tariff_right.f k a0_0 l0_1).bind fun t141 => (if t141 = true then ((tariff_within.f a1 1 9).bind fun t142 => (if t142 = true then ((tariff_within.f a2 0 100000).bind fun t143 => (if t143 = true then ((tariff_within.f a3 a2 100000).bind fun t144 => (tariff_span.j0 k (!t144))) else (tariff_span.j0 k true))) else (tariff_span.j0 k true))) else (some 1))) = some r := h
 clear h
 replace H := Option.bind_eq_some_iff.mp H
 obtain ⟨t141, A50, H⟩ := H
 replace H : (if t141 = true then ((tariff_within.f a1 1 9).bind fun t142 => (if t142 = true then ((tariff_within.f a2 0 100000).bind fun t143 => (if t143 = true then ((tariff_within.f a3 a2 100000).bind fun t144 => (tariff_span.j0 k (!t144))) else (tariff_span.j0 k true))) else (tariff_span.j0 k true))) else (some 1)) = some r := H
 have A5 := Aside0.mk A50
 clear A50
 by_cases c6 : t141 = true
 ·subst c6
  have H1 : ((tariff_within.f a1 1 9).bind fun t142 => (if t142 = true then ((tariff_within.f a2 0 100000).bind fun t143 => (if t143 = true then ((tariff_within.f a3 a2 100000).bind fun t144 => (tariff_span.j0 k (!t144))) else (tariff_span.j0 k true))) else (tariff_span.j0 k true))) = some r := by rw [if_pos rfl] at H; exact H
  clear H
  have H := H1
  clear H1
  have HC7 := Aside0.mk H
  clear H
  go_enter Try.func67, Try.ntmps67
  go_upto_region 3 with (first | ((with_reducible refine gqD (N := 4) rfl ?_); refine GS.bx (N := 4) (cs := #[.int .i64 a0_0, .slice A0_1 l0_1.length c0_1]) (t := 24) ?_; intro gb140 hg w8 hbox hb; have n0_ := Aside0.mk (lqT (GS.lB HB.out) hb); have n1_ := Aside0.mk (hbox); have n2_ := Aside0.mk ((by rw [hg]; exact (lqZ (GS.lB HB.out)) : w.heap.size ≤ gb140)); have n3_ := Aside0.mk ((by rw [hg]; exact (lqZ (GS.lB HB.out)) : w.heap.size ≤ gb140)); clear HB; have HB := n0_; have BK140 := n1_; have GW140 := n2_; have GE140 := n3_; clear n0_ n1_ n2_ n3_; clear hb hbox hg; obtain ⟨hcz9_0, hcz9_1, hfz9_0, hfz9_1⟩ := GS.c2 BK140.out) | ((with_reducible refine gqC (f := 69) rfl ?_); refine GS.gL (some 11) Try.func69 #[.agg #[.int .i64 a0_0, .slice A0_1 l0_1.length c0_1]] ?_; (with_reducible refine (tariff_right.calls k a0_0 _ _ l0_1 true _ ?side1 ?side2 A5.out).mono ?_); (case side1 => exact GS.rC (Kd.C_below HR0_1.out HB.out)); (case side2 => exact HC0_1.out); rintro e w10 ⟨rfl, hb⟩; refine ⟨_, rfl, ?_⟩; have n0_ := Aside0.mk (bqB (GS.bqX BK140.out) hb); have n1_ := Aside0.mk (lqT (GS.lB HB.out) hb); clear BK140; clear HB; have BK140 := n0_; have HB := n1_; clear n0_ n1_; (try clear hb); (try clear hb2); (try clear hk); (try clear hi)))
  (try simp only [Act.put, List.setIfInBounds_toArray, List.set_cons_zero, List.set_cons_succ])
  go_cut [13] (fun v13 wc => ∃ (kq : Nat) (x13_6 : Bool), v13 = .bool x13_6 ∧ Aside0 (tariff_span.j0 kq x13_6 = some r) ∧ Aside0 (kq ≤ k) ∧ Aside0 (wc.heap[gb140]? = some (.cells #[.int .i64 a0_0, (.slice A0_1 l0_1.length c0_1)] 24 (0, 0))) ∧ Aside0 (Below w.heap.size w wc))
  case first =>
   have H := HC7.out
   clear HC7
   replace H := Option.bind_eq_some_iff.mp H
   obtain ⟨t142, A110, H⟩ := H
   replace H : (if t142 = true then ((tariff_within.f a2 0 100000).bind fun t143 => (if t143 = true then ((tariff_within.f a3 a2 100000).bind fun t144 => (tariff_span.j0 k (!t144))) else (tariff_span.j0 k true))) else (tariff_span.j0 k true)) = some r := H
   have A11 := Aside0.mk A110
   clear A110
   by_cases c12 : t142 = true
   ·subst c12
    have H1 : ((tariff_within.f a2 0 100000).bind fun t143 => (if t143 = true then ((tariff_within.f a3 a2 100000).bind fun t144 => (tariff_span.j0 k (!t144))) else (tariff_span.j0 k true))) = some r := by rw [if_pos rfl] at H; exact H
    clear H
    have H := H1
    clear H1
    replace H := Option.bind_eq_some_iff.mp H
    obtain ⟨t143, A130, H⟩ := H
    replace H : (if t143 = true then ((tariff_within.f a3 a2 100000).bind fun t144 => (tariff_span.j0 k (!t144))) else (tariff_span.j0 k true)) = some r := H
    have A13 := Aside0.mk A130
    clear A130
    by_cases c14 : t143 = true
    ·subst c14
     have H1 : ((tariff_within.f a3 a2 100000).bind fun t144 => (tariff_span.j0 k (!t144))) = some r := by rw [if_pos rfl] at H; exact H
     clear H
     have H := H1
     clear H1
     replace H := Option.bind_eq_some_iff.mp H
     obtain ⟨t144, A150, H⟩ := H
     replace H : (tariff_span.j0 k (!t144)) = some r := H
     have A15 := Aside0.mk A150
     clear A150
     have H' := Aside0.mk H
     clear H
     go_wp2_with (first | ((with_reducible refine gqC (f := 58) rfl ?_); refine GS.gL (some 15) Try.func58 #[.int .i64 a1, .int .i64 1, .int .i64 9] ?_; (with_reducible refine (tariff_within.calls a1 1 9 true _ A11.out).mono ?_); rintro e w' ⟨rfl, ⟨nd, rfl⟩⟩; refine ⟨_, rfl, ?_⟩) | (go_at_call 58; (with_reducible refine (tariff_within.calls a2 0 100000 true _ A13.out).mono ?_); rintro e w' ⟨rfl, ⟨nd, rfl⟩⟩) | (go_at_call 58; (with_reducible refine (tariff_within.calls a3 a2 100000 t144 _ A15.out).mono ?_); rintro e w' ⟨rfl, ⟨nd, rfl⟩⟩))
     go_meet
     case rel => exact ⟨_, (!t144), (by first | rfl | (simp; done) | (simp [*]; done)), H', ⟨by first | omega | exact Nat.le_refl _⟩, ⟨GS.bqX BK140.out⟩, ⟨GS.lB HB.out⟩⟩
    ·replace c14 := Bool.eq_false_iff.mpr c14
     subst c14
     have H1 : (tariff_span.j0 k true) = some r := by rw [if_neg (show ¬ (false = true) by decide)] at H; exact H
     clear H
     have H := H1
     clear H1
     have H' := Aside0.mk H
     clear H
     go_wp2_with (first | ((with_reducible refine gqC (f := 58) rfl ?_); refine GS.gL (some 15) Try.func58 #[.int .i64 a1, .int .i64 1, .int .i64 9] ?_; (with_reducible refine (tariff_within.calls a1 1 9 true _ A11.out).mono ?_); rintro e w' ⟨rfl, ⟨nd, rfl⟩⟩; refine ⟨_, rfl, ?_⟩) | (go_at_call 58; (with_reducible refine (tariff_within.calls a2 0 100000 false _ A13.out).mono ?_); rintro e w' ⟨rfl, ⟨nd, rfl⟩⟩))
     go_meet
     case rel => exact ⟨_, (true), (by first | rfl | (simp; done) | (simp [*]; done)), H', ⟨by first | omega | exact Nat.le_refl _⟩, ⟨GS.bqX BK140.out⟩, ⟨GS.lB HB.out⟩⟩
   ·replace c12 := Bool.eq_false_iff.mpr c12
    subst c12
    have H1 : (tariff_span.j0 k true) = some r := by rw [if_neg (show ¬ (false = true) by decide)] at H; exact H
    clear H
    have H := H1
    clear H1
    have H' := Aside0.mk H
    clear H
    go_wp2_with (first | ((with_reducible refine gqC (f := 58) rfl ?_); refine GS.gL (some 15) Try.func58 #[.int .i64 a1, .int .i64 1, .int .i64 9] ?_; (with_reducible refine (tariff_within.calls a1 1 9 false _ A11.out).mono ?_); rintro e w' ⟨rfl, ⟨nd, rfl⟩⟩; refine ⟨_, rfl, ?_⟩))
    go_meet
    case rel => exact ⟨_, (true), (by first | rfl | (simp; done) | (simp [*]; done)), H', ⟨by first | omega | exact Nat.le_refl _⟩, ⟨GS.bqX BK140.out⟩, ⟨GS.lB HB.out⟩⟩
  case rest =>
   clear HC7
   try clear c1
   try clear p2
   try clear c5
   try clear c6
   try clear c12
   try clear c14
   try clear hcz9_0
   try clear hcz9_1
   try clear hfz9_0
   try clear hfz9_1
   obtain ⟨kq, x13_6, rfl, HA, HJ6, BK140, HB⟩ := hcut
   cases kq with
   | zero => exact absurd HA.out (by simp [tariff_span.j0])
   | succ kj6 =>
    have H := HA.out
    clear HA
    simp only [tariff_span.j0] at H
    by_cases c16 : x13_6 = true
    ·subst c16
     have H1 : (some 2) = some r := by rw [if_pos rfl] at H; exact H
     clear H
     have H := H1
     clear H1
     obtain rfl := Option.some.inj H
     go_wp2
     go_ret
     exact ⟨by first | rfl | (simp [errW_none, errW_some] <;> rfl) | (simp [*, errW_none, errW_some] <;> rfl), GS.lB HB.out⟩
    ·replace c16 := Bool.eq_false_iff.mpr c16
     subst c16
     have H1 : (some 0) = some r := by rw [if_neg (show ¬ (false = true) by decide)] at H; exact H
     clear H
     have H := H1
     clear H1
     obtain rfl := Option.some.inj H
     go_wp2
     go_ret
     exact ⟨by first | rfl | (simp [errW_none, errW_some] <;> rfl) | (simp [*, errW_none, errW_some] <;> rfl), GS.lB HB.out⟩
 ·replace c6 := Bool.eq_false_iff.mpr c6
  subst c6
  have H1 : (some 1) = some r := by rw [if_neg (show ¬ (false = true) by decide)] at H; exact H
  clear H
  have H := H1
  clear H1
  obtain rfl := Option.some.inj H
  go_enter Try.func67, Try.ntmps67
  go_wp2_with (first | ((with_reducible refine gqD (N := 4) rfl ?_); refine GS.bx (N := 4) (cs := #[.int .i64 a0_0, .slice A0_1 l0_1.length c0_1]) (t := 24) ?_; intro gb140 hg w17 hbox hb; have n0_ := Aside0.mk (lqT (GS.lB HB.out) hb); have n1_ := Aside0.mk (hbox); have n2_ := Aside0.mk ((by rw [hg]; exact (lqZ (GS.lB HB.out)) : w.heap.size ≤ gb140)); have n3_ := Aside0.mk ((by rw [hg]; exact (lqZ (GS.lB HB.out)) : w.heap.size ≤ gb140)); clear HB; have HB := n0_; have BK140 := n1_; have GW140 := n2_; have GE140 := n3_; clear n0_ n1_ n2_ n3_; clear hb hbox hg; obtain ⟨hcz18_0, hcz18_1, hfz18_0, hfz18_1⟩ := GS.c2 BK140.out) | ((with_reducible refine gqC (f := 69) rfl ?_); refine GS.gL (some 11) Try.func69 #[.agg #[.int .i64 a0_0, .slice A0_1 l0_1.length c0_1]] ?_; (with_reducible refine (tariff_right.calls k a0_0 _ _ l0_1 false _ ?side1 ?side2 A5.out).mono ?_); (case side1 => exact GS.rC (Kd.C_below HR0_1.out HB.out)); (case side2 => exact HC0_1.out); rintro e w19 ⟨rfl, hb⟩; refine ⟨_, rfl, ?_⟩; have n0_ := Aside0.mk (bqB (GS.bqX BK140.out) hb); have n1_ := Aside0.mk (lqT (GS.lB HB.out) hb); clear BK140; clear HB; have BK140 := n0_; have HB := n1_; clear n0_ n1_; (try clear hb); (try clear hb2); (try clear hk); (try clear hi)))
  go_ret
  exact ⟨by first | rfl | (simp [errW_none, errW_some] <;> rfl) | (simp [*, errW_none, errW_some] <;> rfl), GS.lB HB.out⟩

/-! ### tariff_force: function 68 -/
def tariff_force.l0 : Nat → Int → Int → Bool → List (S60) → Int → Int → Int → Int → Int → Option (Int × Int × Int × Bool)
 | 0, _, _, _, _, _, _, _, _, _ => none
 | k + 1, x1, x2, x9, x13, x14, x15, x148000, x148001, x148002 => if x15 < x14 then (if 0 ≤ x15 then (if x15 < (x13.length : Int) then (if ((rd_T60 x13 x15).f0) = x1 then (if ((rd_T60 x13 x15).f1) ≤ x2 then (tariff_force.l0 k x1 x2 true x13 x14 (wrap64 (x15 + 1)) ((rd_T60 x13 x15).f0) ((rd_T60 x13 x15).f1) ((rd_T60 x13 x15).f2)) else (tariff_force.l0 k x1 x2 x9 x13 x14 (wrap64 (x15 + 1)) x148000 x148001 x148002)) else (tariff_force.l0 k x1 x2 x9 x13 x14 (wrap64 (x15 + 1)) x148000 x148001 x148002)) else (none)) else (none)) else (some (x148000, x148001, x148002, x9))
def tariff_force.f (k : Nat) (a0_0 : Int) (l0_1 : List (S60)) (a1 : Int) (a2 : Int) : Option (Int × Int × Int × Bool) := tariff_force.l0 k a1 a2 false l0_1 (l0_1.length : Int) 0 0 0 0
theorem tariff_force.mono_l : ∀ k, (∀ y0 y1 y2 y3 y4 y5 y6 y7 y8, LeO (tariff_force.l0 k y0 y1 y2 y3 y4 y5 y6 y7 y8) (tariff_force.l0 (k + 1) y0 y1 y2 y3 y4 y5 y6 y7 y8))
 | 0 => fun _ _ _ _ _ _ _ _ _ r h => by simp [tariff_force.l0] at h
 | k + 1 => by
  have ih0 := tariff_force.mono_l k
  ·intro y0 y1 y2 y3 y4 y5 y6 y7 y8
   unfold tariff_force.l0
   repeat' first
   | (with_reducible exact ih0 _ _ _ _ _ _ _ _ _)
   | (with_reducible exact LeO.refl _)
   | (with_reducible exact LeO.none _)
   | (with_reducible refine LeO.ite ?_ ?_)
   | (with_reducible refine LeO.bind ?_ (fun _ => ?_))
   | exact ih0 _ _ _ _ _ _ _ _ _
   | exact LeO.none _
   | refine LeO.ite ?_ ?_
   | refine LeO.bind ?_ (fun _ => ?_)
theorem tariff_force.mono : ∀ a0 a1 a2 a3 k, LeO (tariff_force.f k a0 a1 a2 a3) (tariff_force.f (k + 1) a0 a1 a2 a3) := by
 intro a0 a1 a2 a3 k
 have ih0 := tariff_force.mono_l k
 unfold tariff_force.f
 repeat' first
   | (with_reducible exact ih0 _ _ _ _ _ _ _ _ _)
   | (with_reducible exact LeO.refl _)
   | (with_reducible exact LeO.none _)
   | (with_reducible refine LeO.ite ?_ ?_)
   | (with_reducible refine LeO.bind ?_ (fun _ => ?_))
   | exact ih0 _ _ _ _ _ _ _ _ _
   | exact LeO.none _
   | refine LeO.ite ?_ ?_
   | refine LeO.bind ?_ (fun _ => ?_)
set_option maxHeartbeats 8000000 in
set_option maxRecDepth 100000 in
theorem tariff_force.calls (k : Nat) (a0_0 : Int) (A0_1 : Option Addr) (c0_1 : Nat) (l0_1 : List (S60)) (a1 : Int) (a2 : Int) (r1 : Int) (r2 : Int) (r3 : Int) (r4 : Bool) (w : World) (hr0_1 : Kd.C k60 w A0_1 l0_1.length l0_1) (hc0_1 : l0_1.length ≤ c0_1) (h : tariff_force.f k a0_0 l0_1 a1 a2 = some (r1, r2, r3, r4)) :
  Calls Try.prog 68 #[.agg #[.int .i64 a0_0, .slice A0_1 l0_1.length c0_1], .int .i64 a1, .int .i64 a2] w fun e w' => e = .returned (.tuple #[.agg #[.int .i64 r1, .int .i64 r2, .int .i64 r3], .bool r4]) ∧ Below w.heap.size w w' := by
 have hu24 := Try.underlying24
 have hu60 := Try.underlying60
 have HR0_1 := Aside0.mk hr0_1
 have HC0_1 := Aside0.mk hc0_1
 clear hr0_1 hc0_1
 have HB := Aside0.mk (Below.refl w.heap.size w)
 have H : (tariff_force.l0 k a1 a2 false l0_1 (l0_1.length : Int) 0 0 0 0) = some (r1, r2, r3, r4) := h
 clear h
 have H' := Aside0.mk H
 clear H
 go_enter Try.func68, Try.ntmps68
 go_wp2_with (first | ((with_reducible refine gqD (N := 3) rfl ?_); refine GS.bx (N := 3) (cs := #[.int .i64 a0_0, .slice A0_1 l0_1.length c0_1]) (t := 24) ?_; intro gb145 hg w4 hbox hb; have n0_ := Aside0.mk (lqT (GS.lB HB.out) hb); have n1_ := Aside0.mk (hbox); have n2_ := Aside0.mk ((by rw [hg]; exact (lqZ (GS.lB HB.out)) : w.heap.size ≤ gb145)); have n3_ := Aside0.mk ((by rw [hg]; exact (lqZ (GS.lB HB.out)) : w.heap.size ≤ gb145)); clear HB; have HB := n0_; have BK145 := n1_; have GW145 := n2_; have GE145 := n3_; clear n0_ n1_ n2_ n3_; clear hb hbox hg) | ((with_reducible refine gqD (N := 6) rfl ?_); refine GS.bx (N := 6) (cs := #[.int .i64 0, .int .i64 0, .int .i64 0]) (t := 60) ?_; intro gb146 hg w5 hbox hb; have n0_ := Aside0.mk (bqB (GS.bqX BK145.out) hb); have n1_ := Aside0.mk (lqT (GS.lB HB.out) hb); have n2_ := Aside0.mk (hbox); have n3_ := Aside0.mk ((by rw [hg]; exact (lqZ (GS.lB HB.out)) : w.heap.size ≤ gb146)); have n4_ := Aside0.mk ((by rw [hg]; exact (lqZ (GS.lB HB.out)) : w.heap.size ≤ gb146)); have n5_ := Aside0.mk ((by rw [hg]; exact Nat.ne_of_lt (blk_lt (GS.bqX BK145.out)) : gb145 ≠ gb146)); have n6_ := Aside0.mk ((by rw [hg]; exact Nat.ne_of_gt (blk_lt (GS.bqX BK145.out)) : gb146 ≠ gb145)); clear BK145; clear HB; have BK145 := n0_; have HB := n1_; have BK146 := n2_; have GW146 := n3_; have GE146 := n4_; have NB145_146 := n5_; have NB146_145 := n6_; clear n0_ n1_ n2_ n3_ n4_ n5_ n6_; clear hb hbox hg) | ((with_reducible refine gqD (N := 8) rfl ?_); refine GS.bx (N := 8) (cs := #[.int .i64 0, .int .i64 0, .int .i64 0]) (t := 60) ?_; intro gb147 hg w6 hbox hb; have n0_ := Aside0.mk (bqB (GS.bqX BK145.out) hb); have n1_ := Aside0.mk (bqB (GS.bqX BK146.out) hb); have n2_ := Aside0.mk (lqT (GS.lB HB.out) hb); have n3_ := Aside0.mk (hbox); have n4_ := Aside0.mk ((by rw [hg]; exact (lqZ (GS.lB HB.out)) : w.heap.size ≤ gb147)); have n5_ := Aside0.mk ((by rw [hg]; exact (lqZ (GS.lB HB.out)) : w.heap.size ≤ gb147)); have n6_ := Aside0.mk ((by rw [hg]; exact Nat.ne_of_lt (blk_lt (GS.bqX BK145.out)) : gb145 ≠ gb147)); have n7_ := Aside0.mk ((by rw [hg]; exact Nat.ne_of_gt (blk_lt (GS.bqX BK145.out)) : gb147 ≠ gb145)); have n8_ := Aside0.mk ((by rw [hg]; exact Nat.ne_of_lt (blk_lt (GS.bqX BK146.out)) : gb146 ≠ gb147)); have n9_ := Aside0.mk ((by rw [hg]; exact Nat.ne_of_gt (blk_lt (GS.bqX BK146.out)) : gb147 ≠ gb146)); clear BK145; clear BK146; clear HB; have BK145 := n0_; have BK146 := n1_; have HB := n2_; have BK147 := n3_; have GW147 := n4_; have GE147 := n5_; have NB145_147 := n6_; have NB147_145 := n7_; have NB146_147 := n8_; have NB147_146 := n9_; clear n0_ n1_ n2_ n3_ n4_ n5_ n6_ n7_ n8_ n9_; clear hb hbox hg; have hnb7 := NB145_146.out; have hnc7 := NB146_145.out; have hnb8 := NB145_147.out; have hnc8 := NB147_145.out; obtain ⟨hcz9_0, hcz9_1, hfz9_0, hfz9_1⟩ := GS.c2 BK145.out))
 go_loopg [9, 15] k (fun kq v9 v15 w' => ∃ (x9_1 : Bool) (x15_1 : Int) (x148000_1 : Int) (x148001_1 : Int) (x148002_1 : Int), v9 = .bool x9_1 ∧ v15 = .int .i64 x15_1 ∧ Aside0 (tariff_force.l0 kq a1 a2 x9_1 l0_1 (l0_1.length : Int) x15_1 x148000_1 x148001_1 x148002_1 = some (r1, r2, r3, r4)) ∧ Aside0 (kq ≤ k) ∧ Aside0 (w'.heap[gb145]? = some (.cells #[.int .i64 a0_0, (.slice A0_1 l0_1.length c0_1)] 24 (0, 0))) ∧ Aside0 (w'.heap[gb146]? = some (.cells #[.int .i64 0, .int .i64 0, .int .i64 0] 60 (0, 0))) ∧ Aside0 (w'.heap[gb147]? = some (.cells #[.int .i64 x148000_1, .int .i64 x148001_1, .int .i64 x148002_1] 60 (0, 0))) ∧ Aside0 (Below w.heap.size w w'))
 case atStart => exact ⟨(false), (0), (0), (0), (0), (by first | rfl | (simp; done) | (simp [*]; done)), (by first | rfl | (simp; done) | (simp [*]; done)), H', ⟨Nat.le_refl _⟩, ⟨GS.bqX BK145.out⟩, ⟨GS.bqX BK146.out⟩, ⟨GS.bqX BK147.out⟩, ⟨GS.lB HB.out⟩⟩
 case round =>
  clear H'
  try clear p2
  try clear c6
  try clear c7
  try clear c8
  try clear hcz9_0
  try clear hcz9_1
  try clear hfz9_0
  try clear hfz9_1
  obtain ⟨x9_1, x15_1, x148000_1, x148001_1, x148002_1, rfl, rfl, HA, HK1, BK145, BK146, BK147, HB⟩ := hrel
  cases gk with
  | zero => exact absurd HA.out (by simp [tariff_force.l0])
  | succ k1 =>
   have H := HA.out
   clear HA
   simp only [tariff_force.l0] at H
   by_cases c10 : x15_1 < (l0_1.length : Int)
   ·rw [if_pos c10] at H
    have c10b0 : decide (x15_1 < (l0_1.length : Int)) = true := decide_eq_true c10
    clear c10
    by_cases c11 : 0 ≤ x15_1
    ·rw [if_pos c11] at H
     have c11b0 : decide (0 ≤ x15_1) = true := decide_eq_true c11
     clear c11
     by_cases c12 : x15_1 < (l0_1.length : Int)
     ·rw [if_pos c12] at H
      have c12b0 : decide (x15_1 < (l0_1.length : Int)) = true := decide_eq_true c12
      clear c12
      by_cases c13 : ((rd_T60 l0_1 x15_1).f0) = a1
      ·rw [if_pos c13] at H
       have c13b0 : (((rd_T60 l0_1 x15_1).f0) == a1) = true := beq_iff_eq.mpr c13
       try simp only [beq_self_eq_true, Bool.not_true, Bool.false_or, Bool.true_and] at c13b0
       have c13b1 : (((rd_T60 l0_1 x15_1).f0) != a1) = false := bne_eq_false_iff_eq.mpr c13
       clear c13
       by_cases c14 : ((rd_T60 l0_1 x15_1).f1) ≤ a2
       ·rw [if_pos c14] at H
        have c14b0 : decide (((rd_T60 l0_1 x15_1).f1) ≤ a2) = true := decide_eq_true c14
        clear c14
        have H' := Aside0.mk H
        clear H
        have p148 : 0 ≤ (x15_1 : Int) := of_decide_eq_true (by first | (with_reducible assumption) | assumption)
        have q148 : x15_1 < (l0_1.length : Int) := of_decide_eq_true (by first | (with_reducible assumption) | assumption)
        obtain ⟨ad148, e148, hx148_0, hx148_1, hx148_2⟩ := at_T60 HR0_1.out x15_1 p148 q148
        cases e148
        replace hx148_0 := (HB.out.cell (World.block_lt_of_cell? w _ hx148_0)).trans hx148_0
        replace hx148_1 := (HB.out.cell (World.block_lt_of_cell? w _ hx148_1)).trans hx148_1
        replace hx148_2 := (HB.out.cell (World.block_lt_of_cell? w _ hx148_2)).trans hx148_2
        replace p148 := eq_true p148
        replace q148 := eq_true q148
        go_wp2_with (first | ((with_reducible refine gqD (N := 11) rfl ?_); refine GS.bx (N := 11) (cs := #[.int .i64 0, .int .i64 0, .int .i64 0]) (t := 60) ?_; intro gb149 hg w15 hbox hb; have n0_ := Aside0.mk (bqB (GS.bqX BK145.out) hb); have n1_ := Aside0.mk (bqB (GS.bqX BK146.out) hb); have n2_ := Aside0.mk (bqB (GS.bqX BK147.out) hb); have n3_ := Aside0.mk (lqT (GS.lB HB.out) hb); have n4_ := Aside0.mk (hbox); have n5_ := Aside0.mk ((by rw [hg]; exact (lqZ (GS.lB HB.out)) : w.heap.size ≤ gb149)); have n6_ := Aside0.mk ((by rw [hg]; exact (lqZ (GS.lB HB.out)) : w.heap.size ≤ gb149)); have n7_ := Aside0.mk ((by rw [hg]; exact Nat.ne_of_lt (blk_lt (GS.bqX BK145.out)) : gb145 ≠ gb149)); have n8_ := Aside0.mk ((by rw [hg]; exact Nat.ne_of_gt (blk_lt (GS.bqX BK145.out)) : gb149 ≠ gb145)); have n9_ := Aside0.mk ((by rw [hg]; exact Nat.ne_of_lt (blk_lt (GS.bqX BK146.out)) : gb146 ≠ gb149)); have n10_ := Aside0.mk ((by rw [hg]; exact Nat.ne_of_gt (blk_lt (GS.bqX BK146.out)) : gb149 ≠ gb146)); have n11_ := Aside0.mk ((by rw [hg]; exact Nat.ne_of_lt (blk_lt (GS.bqX BK147.out)) : gb147 ≠ gb149)); have n12_ := Aside0.mk ((by rw [hg]; exact Nat.ne_of_gt (blk_lt (GS.bqX BK147.out)) : gb149 ≠ gb147)); clear BK145; clear BK146; clear BK147; clear HB; have BK145 := n0_; have BK146 := n1_; have BK147 := n2_; have HB := n3_; have BK149 := n4_; have GW149 := n5_; have GE149 := n6_; have NB145_149 := n7_; have NB149_145 := n8_; have NB146_149 := n9_; have NB149_146 := n10_; have NB147_149 := n11_; have NB149_147 := n12_; clear n0_ n1_ n2_ n3_ n4_ n5_ n6_ n7_ n8_ n9_ n10_ n11_ n12_; clear hb hbox hg; have hnb16 := NB149_145.out; have hnc16 := NB145_149.out; have hnb17 := NB149_146.out; have hnc17 := NB146_149.out; have hnb18 := NB149_147.out; have hnc18 := NB147_149.out; obtain ⟨hcz19_0, hcz19_1, hcz19_2, hfz19_0, hfz19_1, hfz19_2⟩ := GS.c3 BK149.out; have hnb20 := NB147_145.out; have hnc20 := NB145_147.out; have hnb21 := NB147_146.out; have hnc21 := NB146_147.out; obtain ⟨hcz22_0, hcz22_1, hcz22_2, hfz22_0, hfz22_1, hfz22_2⟩ := GS.c3 BK147.out))
        go_roundg k1
        case measure => have := HK1.out; omega
        case rel => exact ⟨(true), (wrap64 (x15_1 + 1)), ((rd_T60 l0_1 x15_1).f0), ((rd_T60 l0_1 x15_1).f1), ((rd_T60 l0_1 x15_1).f2), (by first | rfl | (simp; done) | (simp [*]; done)), (by first | rfl | (simp; done) | (simp [*]; done)), H', ⟨by have := HK1.out; omega⟩, ⟨GS.bqX BK145.out⟩, ⟨GS.bqX BK146.out⟩, ⟨GS.bqZ BK147.out⟩, ⟨GS.lB HB.out⟩⟩
       ·rw [if_neg c14] at H
        have c14b0 : decide (((rd_T60 l0_1 x15_1).f1) ≤ a2) = false := decide_eq_false c14
        clear c14
        have H' := Aside0.mk H
        clear H
        have p148 : 0 ≤ (x15_1 : Int) := of_decide_eq_true (by first | (with_reducible assumption) | assumption)
        have q148 : x15_1 < (l0_1.length : Int) := of_decide_eq_true (by first | (with_reducible assumption) | assumption)
        obtain ⟨ad148, e148, hx148_0, hx148_1, hx148_2⟩ := at_T60 HR0_1.out x15_1 p148 q148
        cases e148
        replace hx148_0 := (HB.out.cell (World.block_lt_of_cell? w _ hx148_0)).trans hx148_0
        replace hx148_1 := (HB.out.cell (World.block_lt_of_cell? w _ hx148_1)).trans hx148_1
        replace hx148_2 := (HB.out.cell (World.block_lt_of_cell? w _ hx148_2)).trans hx148_2
        replace p148 := eq_true p148
        replace q148 := eq_true q148
        go_wp2_with (first | ((with_reducible refine gqD (N := 11) rfl ?_); refine GS.bx (N := 11) (cs := #[.int .i64 0, .int .i64 0, .int .i64 0]) (t := 60) ?_; intro gb149 hg w23 hbox hb; have n0_ := Aside0.mk (bqB (GS.bqX BK145.out) hb); have n1_ := Aside0.mk (bqB (GS.bqX BK146.out) hb); have n2_ := Aside0.mk (bqB (GS.bqX BK147.out) hb); have n3_ := Aside0.mk (lqT (GS.lB HB.out) hb); have n4_ := Aside0.mk (hbox); have n5_ := Aside0.mk ((by rw [hg]; exact (lqZ (GS.lB HB.out)) : w.heap.size ≤ gb149)); have n6_ := Aside0.mk ((by rw [hg]; exact (lqZ (GS.lB HB.out)) : w.heap.size ≤ gb149)); have n7_ := Aside0.mk ((by rw [hg]; exact Nat.ne_of_lt (blk_lt (GS.bqX BK145.out)) : gb145 ≠ gb149)); have n8_ := Aside0.mk ((by rw [hg]; exact Nat.ne_of_gt (blk_lt (GS.bqX BK145.out)) : gb149 ≠ gb145)); have n9_ := Aside0.mk ((by rw [hg]; exact Nat.ne_of_lt (blk_lt (GS.bqX BK146.out)) : gb146 ≠ gb149)); have n10_ := Aside0.mk ((by rw [hg]; exact Nat.ne_of_gt (blk_lt (GS.bqX BK146.out)) : gb149 ≠ gb146)); have n11_ := Aside0.mk ((by rw [hg]; exact Nat.ne_of_lt (blk_lt (GS.bqX BK147.out)) : gb147 ≠ gb149)); have n12_ := Aside0.mk ((by rw [hg]; exact Nat.ne_of_gt (blk_lt (GS.bqX BK147.out)) : gb149 ≠ gb147)); clear BK145; clear BK146; clear BK147; clear HB; have BK145 := n0_; have BK146 := n1_; have BK147 := n2_; have HB := n3_; have BK149 := n4_; have GW149 := n5_; have GE149 := n6_; have NB145_149 := n7_; have NB149_145 := n8_; have NB146_149 := n9_; have NB149_146 := n10_; have NB147_149 := n11_; have NB149_147 := n12_; clear n0_ n1_ n2_ n3_ n4_ n5_ n6_ n7_ n8_ n9_ n10_ n11_ n12_; clear hb hbox hg; have hnb24 := NB149_145.out; have hnc24 := NB145_149.out; have hnb25 := NB149_146.out; have hnc25 := NB146_149.out; have hnb26 := NB149_147.out; have hnc26 := NB147_149.out; obtain ⟨hcz27_0, hcz27_1, hcz27_2, hfz27_0, hfz27_1, hfz27_2⟩ := GS.c3 BK149.out))
        go_roundg k1
        case measure => have := HK1.out; omega
        case rel => exact ⟨(x9_1), (wrap64 (x15_1 + 1)), (x148000_1), (x148001_1), (x148002_1), (by first | rfl | (simp; done) | (simp [*]; done)), (by first | rfl | (simp; done) | (simp [*]; done)), H', ⟨by have := HK1.out; omega⟩, ⟨GS.bqX BK145.out⟩, ⟨GS.bqX BK146.out⟩, ⟨GS.bqX BK147.out⟩, ⟨GS.lB HB.out⟩⟩
      ·rw [if_neg c13] at H
       have c13b0 : (((rd_T60 l0_1 x15_1).f0) == a1) = false := beq_eq_false_iff_ne.mpr c13
       try simp only [beq_self_eq_true, Bool.not_true, Bool.false_or, Bool.true_and] at c13b0
       have c13b1 : (((rd_T60 l0_1 x15_1).f0) != a1) = true := bne_iff_ne.mpr c13
       have H' := Aside0.mk H
       clear H
       have p148 : 0 ≤ (x15_1 : Int) := of_decide_eq_true (by first | (with_reducible assumption) | assumption)
       have q148 : x15_1 < (l0_1.length : Int) := of_decide_eq_true (by first | (with_reducible assumption) | assumption)
       obtain ⟨ad148, e148, hx148_0, hx148_1, hx148_2⟩ := at_T60 HR0_1.out x15_1 p148 q148
       cases e148
       replace hx148_0 := (HB.out.cell (World.block_lt_of_cell? w _ hx148_0)).trans hx148_0
       replace hx148_1 := (HB.out.cell (World.block_lt_of_cell? w _ hx148_1)).trans hx148_1
       replace hx148_2 := (HB.out.cell (World.block_lt_of_cell? w _ hx148_2)).trans hx148_2
       replace p148 := eq_true p148
       replace q148 := eq_true q148
       go_wp2_with (first | ((with_reducible refine gqD (N := 11) rfl ?_); refine GS.bx (N := 11) (cs := #[.int .i64 0, .int .i64 0, .int .i64 0]) (t := 60) ?_; intro gb149 hg w28 hbox hb; have n0_ := Aside0.mk (bqB (GS.bqX BK145.out) hb); have n1_ := Aside0.mk (bqB (GS.bqX BK146.out) hb); have n2_ := Aside0.mk (bqB (GS.bqX BK147.out) hb); have n3_ := Aside0.mk (lqT (GS.lB HB.out) hb); have n4_ := Aside0.mk (hbox); have n5_ := Aside0.mk ((by rw [hg]; exact (lqZ (GS.lB HB.out)) : w.heap.size ≤ gb149)); have n6_ := Aside0.mk ((by rw [hg]; exact (lqZ (GS.lB HB.out)) : w.heap.size ≤ gb149)); have n7_ := Aside0.mk ((by rw [hg]; exact Nat.ne_of_lt (blk_lt (GS.bqX BK145.out)) : gb145 ≠ gb149)); have n8_ := Aside0.mk ((by rw [hg]; exact Nat.ne_of_gt (blk_lt (GS.bqX BK145.out)) : gb149 ≠ gb145)); have n9_ := Aside0.mk ((by rw [hg]; exact Nat.ne_of_lt (blk_lt (GS.bqX BK146.out)) : gb146 ≠ gb149)); have n10_ := Aside0.mk ((by rw [hg]; exact Nat.ne_of_gt (blk_lt (GS.bqX BK146.out)) : gb149 ≠ gb146)); have n11_ := Aside0.mk ((by rw [hg]; exact Nat.ne_of_lt (blk_lt (GS.bqX BK147.out)) : gb147 ≠ gb149)); have n12_ := Aside0.mk ((by rw [hg]; exact Nat.ne_of_gt (blk_lt (GS.bqX BK147.out)) : gb149 ≠ gb147)); clear BK145; clear BK146; clear BK147; clear HB; have BK145 := n0_; have BK146 := n1_; have BK147 := n2_; have HB := n3_; have BK149 := n4_; have GW149 := n5_; have GE149 := n6_; have NB145_149 := n7_; have NB149_145 := n8_; have NB146_149 := n9_; have NB149_146 := n10_; have NB147_149 := n11_; have NB149_147 := n12_; clear n0_ n1_ n2_ n3_ n4_ n5_ n6_ n7_ n8_ n9_ n10_ n11_ n12_; clear hb hbox hg; have hnb29 := NB149_145.out; have hnc29 := NB145_149.out; have hnb30 := NB149_146.out; have hnc30 := NB146_149.out; have hnb31 := NB149_147.out; have hnc31 := NB147_149.out; obtain ⟨hcz32_0, hcz32_1, hcz32_2, hfz32_0, hfz32_1, hfz32_2⟩ := GS.c3 BK149.out))
       go_roundg k1
       case measure => have := HK1.out; omega
       case rel => exact ⟨(x9_1), (wrap64 (x15_1 + 1)), (x148000_1), (x148001_1), (x148002_1), (by first | rfl | (simp; done) | (simp [*]; done)), (by first | rfl | (simp; done) | (simp [*]; done)), H', ⟨by have := HK1.out; omega⟩, ⟨GS.bqX BK145.out⟩, ⟨GS.bqX BK146.out⟩, ⟨GS.bqX BK147.out⟩, ⟨GS.lB HB.out⟩⟩
     ·rw [if_neg c12] at H
      exact absurd H (by simp)
    ·rw [if_neg c11] at H
     exact absurd H (by simp)
   ·rw [if_neg c10] at H
    have c10b0 : decide (x15_1 < (l0_1.length : Int)) = false := decide_eq_false c10
    clear c10
    simp only [Option.some.injEq, Prod.mk.injEq] at H
    obtain ⟨rfl, rfl, rfl, rfl⟩ := H
    have hnb33 := NB147_145.out
    have hnc33 := NB145_147.out
    have hnb34 := NB147_146.out
    have hnc34 := NB146_147.out
    obtain ⟨hcz35_0, hcz35_1, hcz35_2, hfz35_0, hfz35_1, hfz35_2⟩ := GS.c3 BK147.out
    have hnb36 := NB146_145.out
    have hnc36 := NB145_146.out
    obtain ⟨hcz37_0, hcz37_1, hcz37_2, hfz37_0, hfz37_1, hfz37_2⟩ := GS.c3 BK146.out
    go_wp2
    refine bodyPost_ret (results_ct rfl _ _ gb146 60 #[.int .i64 x148000_1, .int .i64 x148001_1, .int .i64 x148002_1] (0, 0) _ rfl (GS.bqZ BK146.out) Try.underlying60 rfl (by kernel_rfl)) rfl ?_
    exact ⟨by first | rfl | (simp [errW_none, errW_some] <;> rfl) | (simp [*, errW_none, errW_some] <;> rfl), GS.lB HB.out⟩

end Go.Proofs.Ythboaobgipodiaa.K
