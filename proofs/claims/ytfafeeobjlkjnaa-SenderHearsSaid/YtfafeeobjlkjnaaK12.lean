-- PRINTED by print.py (a twelfth state) out of the translation. Not trusted: Lean checks it.
import Derived.Test.YtfafeeobjlkjnaaK0
import Derived.Test.YtfafeeobjlkjnaaGShort
import Derived.Test.YtfafeeobjlkjnaaK9
import Derived.Test.YtfafeeobjlkjnaaK11
namespace Go.Proofs.Ytfafeeobjlkjnaa.K
open Go.RowKit Go.Proofs.YtfafeeobjlkjnaaW.PrintWords Go.Proofs.YtfafeeobjlkjnaaW.PrintLast Go.Proofs.YtfafeeobjlkjnaaW.PrintMore
attribute [local go_sem] max2_int min2_int max_two min_two max_three min_three max_four min_four   -- for this text's walks alone
set_option linter.unusedVariables false
set_option linter.unusedSimpArgs false

/-! ### spileref42_Check: function 18 -/
mutual
def spileref42_Check.j0 : Nat → Bool → Int → Int → List (S33) → Option (Int)
 | 0, _, _, _, _ => none
 | k + 1, x19, x241000, x241001, x241002 => if x19 = true then (some 2) else (if (x241002.length : Int) > 64 then (some 8) else (spileref42_Check.l0 k 0 x241000 x241001 x241002))
def spileref42_Check.l0 : Nat → Int → Int → Int → List (S33) → Option (Int)
 | 0, _, _, _, _ => none
 | k + 1, x3, x241000, x241001, x241002 => if x3 < (x241002.length : Int) then (if 0 ≤ x3 then ((spileref41_Form.f k ((rd_T33 x241002 x3).f0) ((rd_T33 x241002 x3).f1) ((rd_T33 x241002 x3).f2) ((rd_T33 x241002 x3).f3.f0) ((rd_T33 x241002 x3).f3.f1) ((rd_T33 x241002 x3).f3.f2) ((rd_T33 x241002 x3).f3.f3) ((rd_T33 x241002 x3).f3.f4) ((rd_T33 x241002 x3).f3.f5) ((rd_T33 x241002 x3).f3.f6)).bind fun t244 => (if t244 = 0 then (if ((rd_T33 x241002 x3).f0) = x241000 then (if x3 > 0 then (if 0 ≤ (wrap64 (x3 - 1)) then (if (wrap64 (x3 - 1)) < (x241002.length : Int) then (if ((rd_T33 x241002 (wrap64 (x3 - 1))).f2) ≥ ((rd_T33 x241002 x3).f2) then (spileref42_Check.j2 k x3 true x241000 x241001 x241002) else (spileref42_Check.j2 k x3 (decide (((rd_T33 x241002 x3).f2) ≥ x241001)) x241000 x241001 x241002)) else (none)) else (none)) else (spileref42_Check.j2 k x3 (decide (((rd_T33 x241002 x3).f2) ≥ x241001)) x241000 x241001 x241002)) else (some 10)) else (some t244))) else (none)) else (some 0)
def spileref42_Check.j2 : Nat → Int → Bool → Int → Int → List (S33) → Option (Int)
 | 0, _, _, _, _, _ => none
 | k + 1, x3, x66, x241000, x241001, x241002 => if x66 = true then (some 5) else (spileref42_Check.l0 k (wrap64 (x3 + 1)) x241000 x241001 x241002)
end
def spileref42_Check.f (k : Nat) (a0_0 : Int) (a0_1 : Int) (l0_2 : List (S33)) : Option (Int) := (spileref40_Node.f a0_0).bind fun t241 => (if t241 = true then (if a0_1 < 1 then (spileref42_Check.j0 k true a0_0 a0_1 l0_2) else (spileref42_Check.j0 k (decide (a0_1 > 1073741825)) a0_0 a0_1 l0_2)) else (spileref42_Check.j0 k true a0_0 a0_1 l0_2))
theorem spileref42_Check.mono_l : ∀ k, (∀ y0 y1 y2 y3, LeO (spileref42_Check.j0 k y0 y1 y2 y3) (spileref42_Check.j0 (k + 1) y0 y1 y2 y3)) ∧ (∀ y0 y1 y2 y3, LeO (spileref42_Check.l0 k y0 y1 y2 y3) (spileref42_Check.l0 (k + 1) y0 y1 y2 y3)) ∧ (∀ y0 y1 y2 y3 y4, LeO (spileref42_Check.j2 k y0 y1 y2 y3 y4) (spileref42_Check.j2 (k + 1) y0 y1 y2 y3 y4))
 | 0 => ⟨fun _ _ _ _ r h => by simp [spileref42_Check.j0] at h, fun _ _ _ _ r h => by simp [spileref42_Check.l0] at h, fun _ _ _ _ _ r h => by simp [spileref42_Check.j2] at h⟩
 | k + 1 => by
  obtain ⟨ih0, ih1, ih2⟩ := spileref42_Check.mono_l k
  refine ⟨?_, ?_, ?_⟩
  ·intro y0 y1 y2 y3
   unfold spileref42_Check.j0
   repeat' first
   | (with_reducible exact ih0 _ _ _ _)
   | (with_reducible exact ih1 _ _ _ _)
   | (with_reducible exact ih2 _ _ _ _ _)
   | (with_reducible exact spileref41_Form.mono _ _ _ _ _ _ _ _ _ _ _)
   | (with_reducible exact LeO.refl _)
   | (with_reducible exact LeO.none _)
   | (with_reducible refine LeO.ite ?_ ?_)
   | (with_reducible refine LeO.bind ?_ (fun _ => ?_))
   | exact ih0 _ _ _ _
   | exact ih1 _ _ _ _
   | exact ih2 _ _ _ _ _
   | exact spileref41_Form.mono _ _ _ _ _ _ _ _ _ _ _
   | exact LeO.none _
   | refine LeO.ite ?_ ?_
   | refine LeO.bind ?_ (fun _ => ?_)
  ·intro y0 y1 y2 y3
   unfold spileref42_Check.l0
   repeat' first
   | (with_reducible exact ih0 _ _ _ _)
   | (with_reducible exact ih1 _ _ _ _)
   | (with_reducible exact ih2 _ _ _ _ _)
   | (with_reducible exact spileref41_Form.mono _ _ _ _ _ _ _ _ _ _ _)
   | (with_reducible exact LeO.refl _)
   | (with_reducible exact LeO.none _)
   | (with_reducible refine LeO.ite ?_ ?_)
   | (with_reducible refine LeO.bind ?_ (fun _ => ?_))
   | exact ih0 _ _ _ _
   | exact ih1 _ _ _ _
   | exact ih2 _ _ _ _ _
   | exact spileref41_Form.mono _ _ _ _ _ _ _ _ _ _ _
   | exact LeO.none _
   | refine LeO.ite ?_ ?_
   | refine LeO.bind ?_ (fun _ => ?_)
  ·intro y0 y1 y2 y3 y4
   unfold spileref42_Check.j2
   repeat' first
   | (with_reducible exact ih0 _ _ _ _)
   | (with_reducible exact ih1 _ _ _ _)
   | (with_reducible exact ih2 _ _ _ _ _)
   | (with_reducible exact spileref41_Form.mono _ _ _ _ _ _ _ _ _ _ _)
   | (with_reducible exact LeO.refl _)
   | (with_reducible exact LeO.none _)
   | (with_reducible refine LeO.ite ?_ ?_)
   | (with_reducible refine LeO.bind ?_ (fun _ => ?_))
   | exact ih0 _ _ _ _
   | exact ih1 _ _ _ _
   | exact ih2 _ _ _ _ _
   | exact spileref41_Form.mono _ _ _ _ _ _ _ _ _ _ _
   | exact LeO.none _
   | refine LeO.ite ?_ ?_
   | refine LeO.bind ?_ (fun _ => ?_)
theorem spileref42_Check.mono : ∀ a0 a1 a2 k, LeO (spileref42_Check.f k a0 a1 a2) (spileref42_Check.f (k + 1) a0 a1 a2) := by
 intro a0 a1 a2 k
 obtain ⟨ih0, ih1, ih2⟩ := spileref42_Check.mono_l k
 unfold spileref42_Check.f
 repeat' first
   | (with_reducible exact ih0 _ _ _ _)
   | (with_reducible exact ih1 _ _ _ _)
   | (with_reducible exact ih2 _ _ _ _ _)
   | (with_reducible exact spileref41_Form.mono _ _ _ _ _ _ _ _ _ _ _)
   | (with_reducible exact LeO.refl _)
   | (with_reducible exact LeO.none _)
   | (with_reducible refine LeO.ite ?_ ?_)
   | (with_reducible refine LeO.bind ?_ (fun _ => ?_))
   | exact ih0 _ _ _ _
   | exact ih1 _ _ _ _
   | exact ih2 _ _ _ _ _
   | exact spileref41_Form.mono _ _ _ _ _ _ _ _ _ _ _
   | exact LeO.none _
   | refine LeO.ite ?_ ?_
   | refine LeO.bind ?_ (fun _ => ?_)
set_option maxHeartbeats 8000000 in
set_option maxRecDepth 100000 in
theorem spileref42_Check.calls (k : Nat) (a0_0 : Int) (a0_1 : Int) (A0_2 : Option Addr) (c0_2 : Nat) (l0_2 : List (S33)) (r : Int) (w : World) (hr0_2 : Kd.C k33 w A0_2 l0_2.length l0_2) (hc0_2 : l0_2.length ≤ c0_2) (h : spileref42_Check.f k a0_0 a0_1 l0_2 = some r) :
  Calls Try.prog 18 #[.agg #[.int .i64 a0_0, .int .i64 a0_1, .slice A0_2 l0_2.length c0_2]] w fun e w' => e = .returned (.int .i64 r) ∧ Below w.heap.size w w' := by
 have hu24 := Try.underlying24
 have hu33 := Try.underlying33
 have HR0_2 := Aside0.mk hr0_2
 have HC0_2 := Aside0.mk hc0_2
 clear hr0_2 hc0_2
 have HB := Aside0.mk (Below.refl w.heap.size w)
 have H : ((spileref40_Node.f a0_0).bind fun t241 => (if t241 = true then (if a0_1 < 1 then (spileref42_Check.j0 k true a0_0 a0_1 l0_2) else (spileref42_Check.j0 k (decide (a0_1 > 1073741825)) a0_0 a0_1 l0_2)) else (spileref42_Check.j0 k true a0_0 a0_1 l0_2))) = some r := h
 clear h
 have HC2 := Aside0.mk H
 clear H
 go_enter Try.func18, Try.ntmps18
 go_upto_region 1 with (first | ((with_reducible refine gqD (N := 1) rfl ?_); refine GS.bx (N := 1) (cs := #[.int .i64 a0_0, .int .i64 a0_1, .slice A0_2 l0_2.length c0_2]) (t := 24) ?_; intro gb240 hg w3 hbox hb; have n0_ := Aside0.mk (lqT (GS.lB HB.out) hb); have n1_ := Aside0.mk (hbox); have n2_ := Aside0.mk ((by rw [hg]; exact (lqZ (GS.lB HB.out)) : w.heap.size ≤ gb240)); have n3_ := Aside0.mk ((by rw [hg]; exact (lqZ (GS.lB HB.out)) : w.heap.size ≤ gb240)); clear HB; have HB := n0_; have BK240 := n1_; have GW240 := n2_; have GE240 := n3_; clear n0_ n1_ n2_ n3_; clear hb hbox hg))
 repeat (go_quiet (first | ((with_reducible refine gqD (N := 1) rfl ?_); refine GS.bx (N := 1) (cs := #[.int .i64 a0_0, .int .i64 a0_1, .slice A0_2 l0_2.length c0_2]) (t := 24) ?_; intro gb240 hg w3 hbox hb; have n0_ := Aside0.mk (lqT (GS.lB HB.out) hb); have n1_ := Aside0.mk (hbox); have n2_ := Aside0.mk ((by rw [hg]; exact (lqZ (GS.lB HB.out)) : w.heap.size ≤ gb240)); have n3_ := Aside0.mk ((by rw [hg]; exact (lqZ (GS.lB HB.out)) : w.heap.size ≤ gb240)); clear HB; have HB := n0_; have BK240 := n1_; have GW240 := n2_; have GE240 := n3_; clear n0_ n1_ n2_ n3_; clear hb hbox hg)); go_upto_region 1 with (first | ((with_reducible refine gqD (N := 1) rfl ?_); refine GS.bx (N := 1) (cs := #[.int .i64 a0_0, .int .i64 a0_1, .slice A0_2 l0_2.length c0_2]) (t := 24) ?_; intro gb240 hg w3 hbox hb; have n0_ := Aside0.mk (lqT (GS.lB HB.out) hb); have n1_ := Aside0.mk (hbox); have n2_ := Aside0.mk ((by rw [hg]; exact (lqZ (GS.lB HB.out)) : w.heap.size ≤ gb240)); have n3_ := Aside0.mk ((by rw [hg]; exact (lqZ (GS.lB HB.out)) : w.heap.size ≤ gb240)); clear HB; have HB := n0_; have BK240 := n1_; have GW240 := n2_; have GE240 := n3_; clear n0_ n1_ n2_ n3_; clear hb hbox hg)))
 (try simp only [Act.put, List.setIfInBounds_toArray, List.set_cons_zero, List.set_cons_succ])
 go_cut [19] (fun v19 wc => ∃ (kq : Nat) (x19_1 : Bool), v19 = .bool x19_1 ∧ Aside0 (spileref42_Check.j0 kq x19_1 a0_0 a0_1 l0_2 = some r) ∧ Aside0 (kq ≤ k) ∧ Aside0 (wc.heap[gb240]? = some (.cells #[.int .i64 a0_0, .int .i64 a0_1, (.slice A0_2 l0_2.length c0_2)] 24 (0, 0))) ∧ Aside0 (Below w.heap.size w wc))
 case first =>
  have H := HC2.out
  clear HC2
  replace H := Option.bind_eq_some_iff.mp H
  obtain ⟨t241, A40, H⟩ := H
  replace H : (if t241 = true then (if a0_1 < 1 then (spileref42_Check.j0 k true a0_0 a0_1 l0_2) else (spileref42_Check.j0 k (decide (a0_1 > 1073741825)) a0_0 a0_1 l0_2)) else (spileref42_Check.j0 k true a0_0 a0_1 l0_2)) = some r := H
  have A4 := Aside0.mk A40
  clear A40
  by_cases c5 : t241 = true
  ·subst c5
   have H1 : (if a0_1 < 1 then (spileref42_Check.j0 k true a0_0 a0_1 l0_2) else (spileref42_Check.j0 k (decide (a0_1 > 1073741825)) a0_0 a0_1 l0_2)) = some r := by rw [if_pos rfl] at H; exact H
   clear H
   have H := H1
   clear H1
   by_cases c6 : a0_1 < 1
   ·rw [if_pos c6] at H
    have c6b0 : decide (a0_1 < 1) = true := decide_eq_true c6
    clear c6
    (first | rw [c6b0] | (simp only [i64_w, i32_w]; rw [c6b0]) | skip)
    have H' := Aside0.mk H
    clear H
    obtain ⟨hcz7_0, hcz7_1, hcz7_2, hfz7_0, hfz7_1, hfz7_2⟩ := GS.c3 BK240.out
    go_wp2_with (first | (go_at_call 41; (with_reducible refine (spileref40_Node.calls a0_0 true _ A4.out).mono ?_); rintro e w' ⟨rfl, ⟨nd, rfl⟩⟩; (try first | exact ⟨rfl, _, World.drewN_drewN _ _ _⟩ | exact ⟨rfl, _, Eq.trans (World.drewN_drewN _ _ _) (congrArg (World.drewN _) (Nat.add_assoc _ _ _))⟩)))
    repeat (go_quiet (first | (go_at_call 41; (with_reducible refine (spileref40_Node.calls a0_0 true _ A4.out).mono ?_); rintro e w' ⟨rfl, ⟨nd, rfl⟩⟩; (try first | exact ⟨rfl, _, World.drewN_drewN _ _ _⟩ | exact ⟨rfl, _, Eq.trans (World.drewN_drewN _ _ _) (congrArg (World.drewN _) (Nat.add_assoc _ _ _))⟩))); try go_wp2_with (first | (go_at_call 41; (with_reducible refine (spileref40_Node.calls a0_0 true _ A4.out).mono ?_); rintro e w' ⟨rfl, ⟨nd, rfl⟩⟩; (try first | exact ⟨rfl, _, World.drewN_drewN _ _ _⟩ | exact ⟨rfl, _, Eq.trans (World.drewN_drewN _ _ _) (congrArg (World.drewN _) (Nat.add_assoc _ _ _))⟩))))
    go_meet
    case rel => exact ⟨_, (true), (by first | rfl | (simp; done) | (simp [*]; done)), H', ⟨by first | omega | exact Nat.le_refl _⟩, ⟨GS.bqX BK240.out⟩, ⟨GS.lB HB.out⟩⟩
   ·rw [if_neg c6] at H
    have c6b0 : decide (a0_1 < 1) = false := decide_eq_false c6
    clear c6
    (first | rw [c6b0] | (simp only [i64_w, i32_w]; rw [c6b0]) | skip)
    have H' := Aside0.mk H
    clear H
    obtain ⟨hcz8_0, hcz8_1, hcz8_2, hfz8_0, hfz8_1, hfz8_2⟩ := GS.c3 BK240.out
    go_wp2_with (first | (go_at_call 41; (with_reducible refine (spileref40_Node.calls a0_0 true _ A4.out).mono ?_); rintro e w' ⟨rfl, ⟨nd, rfl⟩⟩; (try first | exact ⟨rfl, _, World.drewN_drewN _ _ _⟩ | exact ⟨rfl, _, Eq.trans (World.drewN_drewN _ _ _) (congrArg (World.drewN _) (Nat.add_assoc _ _ _))⟩)))
    repeat (go_quiet (first | (go_at_call 41; (with_reducible refine (spileref40_Node.calls a0_0 true _ A4.out).mono ?_); rintro e w' ⟨rfl, ⟨nd, rfl⟩⟩; (try first | exact ⟨rfl, _, World.drewN_drewN _ _ _⟩ | exact ⟨rfl, _, Eq.trans (World.drewN_drewN _ _ _) (congrArg (World.drewN _) (Nat.add_assoc _ _ _))⟩))); try go_wp2_with (first | (go_at_call 41; (with_reducible refine (spileref40_Node.calls a0_0 true _ A4.out).mono ?_); rintro e w' ⟨rfl, ⟨nd, rfl⟩⟩; (try first | exact ⟨rfl, _, World.drewN_drewN _ _ _⟩ | exact ⟨rfl, _, Eq.trans (World.drewN_drewN _ _ _) (congrArg (World.drewN _) (Nat.add_assoc _ _ _))⟩))))
    go_meet
    case rel => exact ⟨_, (decide (a0_1 > 1073741825)), (by first | rfl | (simp; done) | (simp [*]; done)), H', ⟨by first | omega | exact Nat.le_refl _⟩, ⟨GS.bqX BK240.out⟩, ⟨GS.lB HB.out⟩⟩
  ·replace c5 := Bool.eq_false_iff.mpr c5
   subst c5
   have H1 : (spileref42_Check.j0 k true a0_0 a0_1 l0_2) = some r := by rw [if_neg (show ¬ (false = true) by decide)] at H; exact H
   clear H
   have H := H1
   clear H1
   have H' := Aside0.mk H
   clear H
   obtain ⟨hcz9_0, hcz9_1, hcz9_2, hfz9_0, hfz9_1, hfz9_2⟩ := GS.c3 BK240.out
   go_wp2_with (first | (go_at_call 41; (with_reducible refine (spileref40_Node.calls a0_0 false _ A4.out).mono ?_); rintro e w' ⟨rfl, ⟨nd, rfl⟩⟩; (try first | exact ⟨rfl, _, World.drewN_drewN _ _ _⟩ | exact ⟨rfl, _, Eq.trans (World.drewN_drewN _ _ _) (congrArg (World.drewN _) (Nat.add_assoc _ _ _))⟩)))
   repeat (go_quiet (first | (go_at_call 41; (with_reducible refine (spileref40_Node.calls a0_0 false _ A4.out).mono ?_); rintro e w' ⟨rfl, ⟨nd, rfl⟩⟩; (try first | exact ⟨rfl, _, World.drewN_drewN _ _ _⟩ | exact ⟨rfl, _, Eq.trans (World.drewN_drewN _ _ _) (congrArg (World.drewN _) (Nat.add_assoc _ _ _))⟩))); try go_wp2_with (first | (go_at_call 41; (with_reducible refine (spileref40_Node.calls a0_0 false _ A4.out).mono ?_); rintro e w' ⟨rfl, ⟨nd, rfl⟩⟩; (try first | exact ⟨rfl, _, World.drewN_drewN _ _ _⟩ | exact ⟨rfl, _, Eq.trans (World.drewN_drewN _ _ _) (congrArg (World.drewN _) (Nat.add_assoc _ _ _))⟩))))
   go_meet
   case rel => exact ⟨_, (true), (by first | rfl | (simp; done) | (simp [*]; done)), H', ⟨by first | omega | exact Nat.le_refl _⟩, ⟨GS.bqX BK240.out⟩, ⟨GS.lB HB.out⟩⟩
 case rest =>
  clear HC2
  try clear c1
  try clear p2
  try clear c5
  try clear c6
  try clear c6b0
  try clear hcz7_0
  try clear hcz7_1
  try clear hcz7_2
  try clear hcz8_0
  try clear hcz8_1
  try clear hcz8_2
  try clear hcz9_0
  try clear hcz9_1
  try clear hcz9_2
  try clear hfz7_0
  try clear hfz7_1
  try clear hfz7_2
  try clear hfz8_0
  try clear hfz8_1
  try clear hfz8_2
  try clear hfz9_0
  try clear hfz9_1
  try clear hfz9_2
  obtain ⟨kq, x19_1, rfl, HA, HJ1, BK240, HB⟩ := hcut
  cases kq with
  | zero => exact absurd HA.out (by simp [spileref42_Check.j0])
  | succ kj1 =>
   have H := HA.out
   clear HA
   simp only [spileref42_Check.j0] at H
   by_cases c10 : x19_1 = true
   ·subst c10
    have H1 : (some 2) = some r := by rw [if_pos rfl] at H; exact H
    clear H
    have H := H1
    clear H1
    obtain rfl := Option.some.inj H
    go_wp2
    repeat (go_quiet (fail); try go_wp2)
    go_ret
    exact ⟨by first | rfl | (simp [errW_none, errW_some] <;> rfl) | (simp [*, errW_none, errW_some] <;> rfl), GS.lB HB.out⟩
   ·replace c10 := Bool.eq_false_iff.mpr c10
    subst c10
    have H1 : (if (l0_2.length : Int) > 64 then (some 8) else (spileref42_Check.l0 kj1 0 a0_0 a0_1 l0_2)) = some r := by rw [if_neg (show ¬ (false = true) by decide)] at H; exact H
    clear H
    have H := H1
    clear H1
    by_cases c11 : (l0_2.length : Int) > 64
    ·rw [if_pos c11] at H
     have c11b0 : decide (64 < (l0_2.length : Int)) = true := decide_eq_true c11
     have c11b1 : decide (64 < l0_2.length) = true := decide_eq_true (by omega)
     clear c11
     obtain rfl := Option.some.inj H
     obtain ⟨hcz12_0, hcz12_1, hcz12_2, hfz12_0, hfz12_1, hfz12_2⟩ := GS.c3 BK240.out
     go_wp2
     repeat (go_quiet (fail); try go_wp2)
     go_ret
     exact ⟨by first | rfl | (simp [errW_none, errW_some] <;> rfl) | (simp [*, errW_none, errW_some] <;> rfl), GS.lB HB.out⟩
    ·rw [if_neg c11] at H
     have c11b0 : decide (64 < (l0_2.length : Int)) = false := decide_eq_false c11
     have c11b1 : decide (64 < l0_2.length) = false := decide_eq_false (by omega)
     clear c11
     have H' := Aside0.mk H
     clear H
     obtain ⟨hcz13_0, hcz13_1, hcz13_2, hfz13_0, hfz13_1, hfz13_2⟩ := GS.c3 BK240.out
     go_wp2
     repeat (go_quiet (fail); try go_wp2)
     go_loopg [3] kj1 (fun kq v3 w' => ∃ (x3_2 : Int), v3 = .int .i64 x3_2 ∧ Aside0 (spileref42_Check.l0 kq x3_2 a0_0 a0_1 l0_2 = some r) ∧ Aside0 (kq ≤ kj1) ∧ Aside0 (w'.heap[gb240]? = some (.cells #[.int .i64 a0_0, .int .i64 a0_1, (.slice A0_2 l0_2.length c0_2)] 24 (0, 0))) ∧ Aside0 (Below w.heap.size w w'))
     case atStart => exact ⟨(0), (by first | rfl | (simp; done) | (simp [*]; done)), H', ⟨Nat.le_refl _⟩, ⟨GS.bqX BK240.out⟩, ⟨GS.lB HB.out⟩⟩
     case round =>
      clear H'
      try clear c1
      try clear p2
      try clear c5
      try clear c6
      try clear c6b0
      try clear c10
      try clear c11
      try clear c11b0
      try clear c11b1
      try clear hcz12_0
      try clear hcz12_1
      try clear hcz12_2
      try clear hcz13_0
      try clear hcz13_1
      try clear hcz13_2
      try clear hcz7_0
      try clear hcz7_1
      try clear hcz7_2
      try clear hcz8_0
      try clear hcz8_1
      try clear hcz8_2
      try clear hcz9_0
      try clear hcz9_1
      try clear hcz9_2
      try clear hfz12_0
      try clear hfz12_1
      try clear hfz12_2
      try clear hfz13_0
      try clear hfz13_1
      try clear hfz13_2
      try clear hfz7_0
      try clear hfz7_1
      try clear hfz7_2
      try clear hfz8_0
      try clear hfz8_1
      try clear hfz8_2
      try clear hfz9_0
      try clear hfz9_1
      try clear hfz9_2
      try clear p2
      obtain ⟨x3_2, rfl, HA, HK2, BK240, HB⟩ := hrel
      cases gk with
      | zero => exact absurd HA.out (by simp [spileref42_Check.l0])
      | succ k2 =>
       have H := HA.out
       clear HA
       simp only [spileref42_Check.l0] at H
       by_cases c14 : x3_2 < (l0_2.length : Int)
       ·rw [if_pos c14] at H
        have c14b0 : decide (x3_2 < (l0_2.length : Int)) = true := decide_eq_true c14
        clear c14
        by_cases c15 : 0 ≤ x3_2
        ·rw [if_pos c15] at H
         have c15b0 : decide (0 ≤ x3_2) = true := decide_eq_true c15
         clear c15
         replace H := Option.bind_eq_some_iff.mp H
         obtain ⟨t244, A160, H⟩ := H
         replace H : (if t244 = 0 then (if ((rd_T33 l0_2 x3_2).f0) = a0_0 then (if x3_2 > 0 then (if 0 ≤ (wrap64 (x3_2 - 1)) then (if (wrap64 (x3_2 - 1)) < (l0_2.length : Int) then (if ((rd_T33 l0_2 (wrap64 (x3_2 - 1))).f2) ≥ ((rd_T33 l0_2 x3_2).f2) then (spileref42_Check.j2 k2 x3_2 true a0_0 a0_1 l0_2) else (spileref42_Check.j2 k2 x3_2 (decide (((rd_T33 l0_2 x3_2).f2) ≥ a0_1)) a0_0 a0_1 l0_2)) else (none)) else (none)) else (spileref42_Check.j2 k2 x3_2 (decide (((rd_T33 l0_2 x3_2).f2) ≥ a0_1)) a0_0 a0_1 l0_2)) else (some 10)) else (some t244)) = some r := H
         have A16 := Aside0.mk A160
         clear A160
         by_cases c17 : t244 = 0
         ·rw [if_pos c17] at H
          have c17b0 : (t244 == 0) = true := beq_iff_eq.mpr c17
          try simp only [beq_self_eq_true, Bool.not_true, Bool.false_or, Bool.true_and] at c17b0
          have c17b1 : (t244 != 0) = false := bne_eq_false_iff_eq.mpr c17
          clear c17
          by_cases c18 : ((rd_T33 l0_2 x3_2).f0) = a0_0
          ·rw [if_pos c18] at H
           have c18b0 : (((rd_T33 l0_2 x3_2).f0) == a0_0) = true := beq_iff_eq.mpr c18
           try simp only [beq_self_eq_true, Bool.not_true, Bool.false_or, Bool.true_and] at c18b0
           have c18b1 : (((rd_T33 l0_2 x3_2).f0) != a0_0) = false := bne_eq_false_iff_eq.mpr c18
           clear c18
           have HC19 := Aside0.mk H
           clear H
           obtain ⟨hcz20_0, hcz20_1, hcz20_2, hfz20_0, hfz20_1, hfz20_2⟩ := GS.c3 BK240.out
           have p242 : 0 ≤ (x3_2 : Int) := of_decide_eq_true (by first | (with_reducible assumption) | assumption)
           have q242 : x3_2 < (l0_2.length : Int) := of_decide_eq_true (by first | (with_reducible assumption) | assumption)
           obtain ⟨ad242, e242, hx242_0, hx242_1, hx242_2, hx242_3, hx242_4, hx242_5, hx242_6, hx242_7, hx242_8, hx242_9⟩ := at_T33 HR0_2.out x3_2 p242 q242
           cases e242
           replace hx242_0 := (HB.out.cell (World.block_lt_of_cell? w _ hx242_0)).trans hx242_0
           replace hx242_1 := (HB.out.cell (World.block_lt_of_cell? w _ hx242_1)).trans hx242_1
           replace hx242_2 := (HB.out.cell (World.block_lt_of_cell? w _ hx242_2)).trans hx242_2
           replace hx242_3 := (HB.out.cell (World.block_lt_of_cell? w _ hx242_3)).trans hx242_3
           replace hx242_4 := (HB.out.cell (World.block_lt_of_cell? w _ hx242_4)).trans hx242_4
           replace hx242_5 := (HB.out.cell (World.block_lt_of_cell? w _ hx242_5)).trans hx242_5
           replace hx242_6 := (HB.out.cell (World.block_lt_of_cell? w _ hx242_6)).trans hx242_6
           replace hx242_7 := (HB.out.cell (World.block_lt_of_cell? w _ hx242_7)).trans hx242_7
           replace hx242_8 := (HB.out.cell (World.block_lt_of_cell? w _ hx242_8)).trans hx242_8
           replace hx242_9 := (HB.out.cell (World.block_lt_of_cell? w _ hx242_9)).trans hx242_9
           replace p242 := eq_true p242
           replace q242 := eq_true q242
           go_upto_region 14 with (first | ((with_reducible refine gqD (N := 4) rfl ?_); refine GS.bx (N := 4) (cs := #[.int .i64 0, .int .i64 0, .int .i64 0, .int .i64 0, .int .i64 0, .int .i64 0, .int .i64 0, .int .i64 0, .int .i64 0, .int .i64 0]) (t := 33) ?_; intro gb243 hg w21 hbox hb; have n0_ := Aside0.mk (bqB (GS.bqX BK240.out) hb); have n1_ := Aside0.mk (lqT (GS.lB HB.out) hb); have n2_ := Aside0.mk (hbox); have n3_ := Aside0.mk ((by rw [hg]; exact (lqZ (GS.lB HB.out)) : w.heap.size ≤ gb243)); have n4_ := Aside0.mk ((by rw [hg]; exact (lqZ (GS.lB HB.out)) : w.heap.size ≤ gb243)); have n5_ := Aside0.mk ((by rw [hg]; exact Nat.ne_of_lt (blk_lt (GS.bqX BK240.out)) : gb240 ≠ gb243)); have n6_ := Aside0.mk ((by rw [hg]; exact Nat.ne_of_gt (blk_lt (GS.bqX BK240.out)) : gb243 ≠ gb240)); clear BK240; clear HB; have BK240 := n0_; have HB := n1_; have BK243 := n2_; have GW243 := n3_; have GE243 := n4_; have NB240_243 := n5_; have NB243_240 := n6_; clear n0_ n1_ n2_ n3_ n4_ n5_ n6_; clear hb hbox hg; have hnb22 := NB243_240.out; have hnc22 := NB240_243.out; obtain ⟨hcz23_0, hcz23_1, hcz23_2, hcz23_3, hcz23_4, hcz23_5, hcz23_6, hcz23_7, hcz23_8, hcz23_9, hfz23_0, hfz23_1, hfz23_2, hfz23_3, hfz23_4, hfz23_5, hfz23_6, hfz23_7, hfz23_8, hfz23_9⟩ := GS.c10 BK243.out) | (go_at_call 46; (with_reducible refine (spileref41_Form.calls k2 ((rd_T33 l0_2 x3_2).f0) ((rd_T33 l0_2 x3_2).f1) ((rd_T33 l0_2 x3_2).f2) ((rd_T33 l0_2 x3_2).f3.f0) ((rd_T33 l0_2 x3_2).f3.f1) ((rd_T33 l0_2 x3_2).f3.f2) ((rd_T33 l0_2 x3_2).f3.f3) ((rd_T33 l0_2 x3_2).f3.f4) ((rd_T33 l0_2 x3_2).f3.f5) ((rd_T33 l0_2 x3_2).f3.f6) t244 _ A16.out).mono ?_); rintro e w24 ⟨rfl, hb⟩; have n0_ := Aside0.mk (bqB (GS.bqX BK240.out) hb); have n1_ := Aside0.mk (bqB (g := gb243) (o := .cells #[.int .i64 ((rd_T33 l0_2 x3_2).f0), .int .i64 ((rd_T33 l0_2 x3_2).f1), .int .i64 ((rd_T33 l0_2 x3_2).f2), .int .i64 ((rd_T33 l0_2 x3_2).f3.f0), .int .i64 ((rd_T33 l0_2 x3_2).f3.f1), .int .i64 ((rd_T33 l0_2 x3_2).f3.f2), .int .i64 ((rd_T33 l0_2 x3_2).f3.f3), .int .i64 ((rd_T33 l0_2 x3_2).f3.f4), .int .i64 ((rd_T33 l0_2 x3_2).f3.f5), .int .i64 ((rd_T33 l0_2 x3_2).f3.f6)] 33 (0, 0)) (GS.bqZ BK243.out) hb); have n2_ := Aside0.mk (lqT (GS.lB HB.out) hb); clear BK240; clear BK243; clear HB; have BK240 := n0_; have BK243 := n1_; have HB := n2_; clear n0_ n1_ n2_; (try clear hb); (try clear hb2); (try clear hk); (try clear hi); obtain ⟨hcz25_0, hcz25_1, hcz25_2, hcz25_3, hcz25_4, hcz25_5, hcz25_6, hcz25_7, hcz25_8, hcz25_9, hfz25_0, hfz25_1, hfz25_2, hfz25_3, hfz25_4, hfz25_5, hfz25_6, hfz25_7, hfz25_8, hfz25_9⟩ := GS.c10 BK243.out; obtain ⟨hcz26_0, hcz26_1, hcz26_2, hfz26_0, hfz26_1, hfz26_2⟩ := GS.c3 BK240.out))
           repeat (go_quiet (first | ((with_reducible refine gqD (N := 4) rfl ?_); refine GS.bx (N := 4) (cs := #[.int .i64 0, .int .i64 0, .int .i64 0, .int .i64 0, .int .i64 0, .int .i64 0, .int .i64 0, .int .i64 0, .int .i64 0, .int .i64 0]) (t := 33) ?_; intro gb243 hg w21 hbox hb; have n0_ := Aside0.mk (bqB (GS.bqX BK240.out) hb); have n1_ := Aside0.mk (lqT (GS.lB HB.out) hb); have n2_ := Aside0.mk (hbox); have n3_ := Aside0.mk ((by rw [hg]; exact (lqZ (GS.lB HB.out)) : w.heap.size ≤ gb243)); have n4_ := Aside0.mk ((by rw [hg]; exact (lqZ (GS.lB HB.out)) : w.heap.size ≤ gb243)); have n5_ := Aside0.mk ((by rw [hg]; exact Nat.ne_of_lt (blk_lt (GS.bqX BK240.out)) : gb240 ≠ gb243)); have n6_ := Aside0.mk ((by rw [hg]; exact Nat.ne_of_gt (blk_lt (GS.bqX BK240.out)) : gb243 ≠ gb240)); clear BK240; clear HB; have BK240 := n0_; have HB := n1_; have BK243 := n2_; have GW243 := n3_; have GE243 := n4_; have NB240_243 := n5_; have NB243_240 := n6_; clear n0_ n1_ n2_ n3_ n4_ n5_ n6_; clear hb hbox hg; have hnb22 := NB243_240.out; have hnc22 := NB240_243.out; obtain ⟨hcz23_0, hcz23_1, hcz23_2, hcz23_3, hcz23_4, hcz23_5, hcz23_6, hcz23_7, hcz23_8, hcz23_9, hfz23_0, hfz23_1, hfz23_2, hfz23_3, hfz23_4, hfz23_5, hfz23_6, hfz23_7, hfz23_8, hfz23_9⟩ := GS.c10 BK243.out) | (go_at_call 46; (with_reducible refine (spileref41_Form.calls k2 ((rd_T33 l0_2 x3_2).f0) ((rd_T33 l0_2 x3_2).f1) ((rd_T33 l0_2 x3_2).f2) ((rd_T33 l0_2 x3_2).f3.f0) ((rd_T33 l0_2 x3_2).f3.f1) ((rd_T33 l0_2 x3_2).f3.f2) ((rd_T33 l0_2 x3_2).f3.f3) ((rd_T33 l0_2 x3_2).f3.f4) ((rd_T33 l0_2 x3_2).f3.f5) ((rd_T33 l0_2 x3_2).f3.f6) t244 _ A16.out).mono ?_); rintro e w24 ⟨rfl, hb⟩; have n0_ := Aside0.mk (bqB (GS.bqX BK240.out) hb); have n1_ := Aside0.mk (bqB (g := gb243) (o := .cells #[.int .i64 ((rd_T33 l0_2 x3_2).f0), .int .i64 ((rd_T33 l0_2 x3_2).f1), .int .i64 ((rd_T33 l0_2 x3_2).f2), .int .i64 ((rd_T33 l0_2 x3_2).f3.f0), .int .i64 ((rd_T33 l0_2 x3_2).f3.f1), .int .i64 ((rd_T33 l0_2 x3_2).f3.f2), .int .i64 ((rd_T33 l0_2 x3_2).f3.f3), .int .i64 ((rd_T33 l0_2 x3_2).f3.f4), .int .i64 ((rd_T33 l0_2 x3_2).f3.f5), .int .i64 ((rd_T33 l0_2 x3_2).f3.f6)] 33 (0, 0)) (GS.bqZ BK243.out) hb); have n2_ := Aside0.mk (lqT (GS.lB HB.out) hb); clear BK240; clear BK243; clear HB; have BK240 := n0_; have BK243 := n1_; have HB := n2_; clear n0_ n1_ n2_; (try clear hb); (try clear hb2); (try clear hk); (try clear hi); obtain ⟨hcz25_0, hcz25_1, hcz25_2, hcz25_3, hcz25_4, hcz25_5, hcz25_6, hcz25_7, hcz25_8, hcz25_9, hfz25_0, hfz25_1, hfz25_2, hfz25_3, hfz25_4, hfz25_5, hfz25_6, hfz25_7, hfz25_8, hfz25_9⟩ := GS.c10 BK243.out; obtain ⟨hcz26_0, hcz26_1, hcz26_2, hfz26_0, hfz26_1, hfz26_2⟩ := GS.c3 BK240.out)); go_upto_region 14 with (first | ((with_reducible refine gqD (N := 4) rfl ?_); refine GS.bx (N := 4) (cs := #[.int .i64 0, .int .i64 0, .int .i64 0, .int .i64 0, .int .i64 0, .int .i64 0, .int .i64 0, .int .i64 0, .int .i64 0, .int .i64 0]) (t := 33) ?_; intro gb243 hg w21 hbox hb; have n0_ := Aside0.mk (bqB (GS.bqX BK240.out) hb); have n1_ := Aside0.mk (lqT (GS.lB HB.out) hb); have n2_ := Aside0.mk (hbox); have n3_ := Aside0.mk ((by rw [hg]; exact (lqZ (GS.lB HB.out)) : w.heap.size ≤ gb243)); have n4_ := Aside0.mk ((by rw [hg]; exact (lqZ (GS.lB HB.out)) : w.heap.size ≤ gb243)); have n5_ := Aside0.mk ((by rw [hg]; exact Nat.ne_of_lt (blk_lt (GS.bqX BK240.out)) : gb240 ≠ gb243)); have n6_ := Aside0.mk ((by rw [hg]; exact Nat.ne_of_gt (blk_lt (GS.bqX BK240.out)) : gb243 ≠ gb240)); clear BK240; clear HB; have BK240 := n0_; have HB := n1_; have BK243 := n2_; have GW243 := n3_; have GE243 := n4_; have NB240_243 := n5_; have NB243_240 := n6_; clear n0_ n1_ n2_ n3_ n4_ n5_ n6_; clear hb hbox hg; have hnb22 := NB243_240.out; have hnc22 := NB240_243.out; obtain ⟨hcz23_0, hcz23_1, hcz23_2, hcz23_3, hcz23_4, hcz23_5, hcz23_6, hcz23_7, hcz23_8, hcz23_9, hfz23_0, hfz23_1, hfz23_2, hfz23_3, hfz23_4, hfz23_5, hfz23_6, hfz23_7, hfz23_8, hfz23_9⟩ := GS.c10 BK243.out) | (go_at_call 46; (with_reducible refine (spileref41_Form.calls k2 ((rd_T33 l0_2 x3_2).f0) ((rd_T33 l0_2 x3_2).f1) ((rd_T33 l0_2 x3_2).f2) ((rd_T33 l0_2 x3_2).f3.f0) ((rd_T33 l0_2 x3_2).f3.f1) ((rd_T33 l0_2 x3_2).f3.f2) ((rd_T33 l0_2 x3_2).f3.f3) ((rd_T33 l0_2 x3_2).f3.f4) ((rd_T33 l0_2 x3_2).f3.f5) ((rd_T33 l0_2 x3_2).f3.f6) t244 _ A16.out).mono ?_); rintro e w24 ⟨rfl, hb⟩; have n0_ := Aside0.mk (bqB (GS.bqX BK240.out) hb); have n1_ := Aside0.mk (bqB (g := gb243) (o := .cells #[.int .i64 ((rd_T33 l0_2 x3_2).f0), .int .i64 ((rd_T33 l0_2 x3_2).f1), .int .i64 ((rd_T33 l0_2 x3_2).f2), .int .i64 ((rd_T33 l0_2 x3_2).f3.f0), .int .i64 ((rd_T33 l0_2 x3_2).f3.f1), .int .i64 ((rd_T33 l0_2 x3_2).f3.f2), .int .i64 ((rd_T33 l0_2 x3_2).f3.f3), .int .i64 ((rd_T33 l0_2 x3_2).f3.f4), .int .i64 ((rd_T33 l0_2 x3_2).f3.f5), .int .i64 ((rd_T33 l0_2 x3_2).f3.f6)] 33 (0, 0)) (GS.bqZ BK243.out) hb); have n2_ := Aside0.mk (lqT (GS.lB HB.out) hb); clear BK240; clear BK243; clear HB; have BK240 := n0_; have BK243 := n1_; have HB := n2_; clear n0_ n1_ n2_; (try clear hb); (try clear hb2); (try clear hk); (try clear hi); obtain ⟨hcz25_0, hcz25_1, hcz25_2, hcz25_3, hcz25_4, hcz25_5, hcz25_6, hcz25_7, hcz25_8, hcz25_9, hfz25_0, hfz25_1, hfz25_2, hfz25_3, hfz25_4, hfz25_5, hfz25_6, hfz25_7, hfz25_8, hfz25_9⟩ := GS.c10 BK243.out; obtain ⟨hcz26_0, hcz26_1, hcz26_2, hfz26_0, hfz26_1, hfz26_2⟩ := GS.c3 BK240.out)))
           (try simp only [Act.put, List.setIfInBounds_toArray, List.set_cons_zero, List.set_cons_succ])
           go_cut [66] (fun v66 wc => ∃ (kq : Nat) (x66_18 : Bool), v66 = .bool x66_18 ∧ Aside0 (spileref42_Check.j2 kq x3_2 x66_18 a0_0 a0_1 l0_2 = some r) ∧ Aside0 (kq ≤ k2) ∧ Aside0 (wc.heap[gb240]? = some (.cells #[.int .i64 a0_0, .int .i64 a0_1, (.slice (some ad242) l0_2.length c0_2)] 24 (0, 0))) ∧ Aside0 (wc.heap[gb243]? = some (.cells #[.int .i64 ((rd_T33 l0_2 x3_2).f0), .int .i64 ((rd_T33 l0_2 x3_2).f1), .int .i64 ((rd_T33 l0_2 x3_2).f2), .int .i64 ((rd_T33 l0_2 x3_2).f3.f0), .int .i64 ((rd_T33 l0_2 x3_2).f3.f1), .int .i64 ((rd_T33 l0_2 x3_2).f3.f2), .int .i64 ((rd_T33 l0_2 x3_2).f3.f3), .int .i64 ((rd_T33 l0_2 x3_2).f3.f4), .int .i64 ((rd_T33 l0_2 x3_2).f3.f5), .int .i64 ((rd_T33 l0_2 x3_2).f3.f6)] 33 (0, 0))) ∧ Aside0 (Below w.heap.size w wc))
           case first =>
            have H := HC19.out
            clear HC19
            by_cases c27 : x3_2 > 0
            ·rw [if_pos c27] at H
             have c27b0 : decide (0 < x3_2) = true := decide_eq_true c27
             clear c27
             (first | rw [c27b0] | (simp only [i64_w, i32_w]; rw [c27b0]) | skip)
             obtain ⟨ji28, hji28⟩ : ∃ j_ : Int, (wrap64 (x3_2 - 1)) = j_ := ⟨_, rfl⟩
             replace H : (if 0 ≤ (ji28) then (if (ji28) < (l0_2.length : Int) then (if ((rd_T33 l0_2 (ji28)).f2) ≥ ((rd_T33 l0_2 x3_2).f2) then (spileref42_Check.j2 k2 x3_2 true a0_0 a0_1 l0_2) else (spileref42_Check.j2 k2 x3_2 (decide (((rd_T33 l0_2 x3_2).f2) ≥ a0_1)) a0_0 a0_1 l0_2)) else (none)) else (none)) = some r := by first | (rw [hji28] at H; exact H) | (simp only [hji28] at H ⊢; exact H)
             have hji28w : (IntKind.i64.wrap (x3_2 - 1)) = ji28 := (i64_w _).trans hji28
             by_cases c29 : 0 ≤ (ji28)
             ·rw [if_pos c29] at H
              have c29b0 : decide (0 ≤ (ji28)) = true := decide_eq_true c29
              clear c29
              by_cases c30 : (ji28) < (l0_2.length : Int)
              ·rw [if_pos c30] at H
               have c30b0 : decide ((ji28) < (l0_2.length : Int)) = true := decide_eq_true c30
               clear c30
               by_cases c31 : ((rd_T33 l0_2 (ji28)).f2) ≥ ((rd_T33 l0_2 x3_2).f2)
               ·rw [if_pos c31] at H
                have c31b0 : decide (((rd_T33 l0_2 x3_2).f2) ≤ ((rd_T33 l0_2 (ji28)).f2)) = true := decide_eq_true c31
                clear c31
                have H' := Aside0.mk H
                clear H
                have hnb32 := NB240_243.out
                have hnc32 := NB243_240.out
                obtain ⟨hcz33_0, hcz33_1, hcz33_2, hfz33_0, hfz33_1, hfz33_2⟩ := GS.c3 BK240.out
                have p245 : 0 ≤ ((ji28) : Int) := of_decide_eq_true (by first | (with_reducible assumption) | assumption)
                have q245 : (ji28) < (l0_2.length : Int) := of_decide_eq_true (by first | (with_reducible assumption) | assumption)
                obtain ⟨ad245, e245, hx245_0, hx245_1, hx245_2, hx245_3, hx245_4, hx245_5, hx245_6, hx245_7, hx245_8, hx245_9⟩ := at_T33 HR0_2.out (ji28) p245 q245
                obtain rfl : ad242 = ad245 := (by injection e245)
                replace hx245_0 := (HB.out.cell (World.block_lt_of_cell? w _ hx245_0)).trans hx245_0
                replace hx245_1 := (HB.out.cell (World.block_lt_of_cell? w _ hx245_1)).trans hx245_1
                replace hx245_2 := (HB.out.cell (World.block_lt_of_cell? w _ hx245_2)).trans hx245_2
                replace hx245_3 := (HB.out.cell (World.block_lt_of_cell? w _ hx245_3)).trans hx245_3
                replace hx245_4 := (HB.out.cell (World.block_lt_of_cell? w _ hx245_4)).trans hx245_4
                replace hx245_5 := (HB.out.cell (World.block_lt_of_cell? w _ hx245_5)).trans hx245_5
                replace hx245_6 := (HB.out.cell (World.block_lt_of_cell? w _ hx245_6)).trans hx245_6
                replace hx245_7 := (HB.out.cell (World.block_lt_of_cell? w _ hx245_7)).trans hx245_7
                replace hx245_8 := (HB.out.cell (World.block_lt_of_cell? w _ hx245_8)).trans hx245_8
                replace hx245_9 := (HB.out.cell (World.block_lt_of_cell? w _ hx245_9)).trans hx245_9
                replace p245 := eq_true p245
                replace q245 := eq_true q245
                obtain ⟨hcz34_0, hcz34_1, hcz34_2, hcz34_3, hcz34_4, hcz34_5, hcz34_6, hcz34_7, hcz34_8, hcz34_9, hfz34_0, hfz34_1, hfz34_2, hfz34_3, hfz34_4, hfz34_5, hfz34_6, hfz34_7, hfz34_8, hfz34_9⟩ := GS.c10 BK243.out
                go_wp2
                repeat (go_quiet (fail); try go_wp2)
                go_meet
                case rel => exact ⟨_, (true), (by first | rfl | (simp; done) | (simp [*]; done)), H', ⟨by have := HJ1.out; have := HK2.out; first | omega | exact Nat.le_refl _⟩, ⟨GS.bqX BK240.out⟩, ⟨GS.bqX BK243.out⟩, ⟨GS.lB HB.out⟩⟩
               ·rw [if_neg c31] at H
                have c31b0 : decide (((rd_T33 l0_2 x3_2).f2) ≤ ((rd_T33 l0_2 (ji28)).f2)) = false := decide_eq_false c31
                clear c31
                have H' := Aside0.mk H
                clear H
                have hnb35 := NB240_243.out
                have hnc35 := NB243_240.out
                obtain ⟨hcz36_0, hcz36_1, hcz36_2, hfz36_0, hfz36_1, hfz36_2⟩ := GS.c3 BK240.out
                have p245 : 0 ≤ ((ji28) : Int) := of_decide_eq_true (by first | (with_reducible assumption) | assumption)
                have q245 : (ji28) < (l0_2.length : Int) := of_decide_eq_true (by first | (with_reducible assumption) | assumption)
                obtain ⟨ad245, e245, hx245_0, hx245_1, hx245_2, hx245_3, hx245_4, hx245_5, hx245_6, hx245_7, hx245_8, hx245_9⟩ := at_T33 HR0_2.out (ji28) p245 q245
                obtain rfl : ad242 = ad245 := (by injection e245)
                replace hx245_0 := (HB.out.cell (World.block_lt_of_cell? w _ hx245_0)).trans hx245_0
                replace hx245_1 := (HB.out.cell (World.block_lt_of_cell? w _ hx245_1)).trans hx245_1
                replace hx245_2 := (HB.out.cell (World.block_lt_of_cell? w _ hx245_2)).trans hx245_2
                replace hx245_3 := (HB.out.cell (World.block_lt_of_cell? w _ hx245_3)).trans hx245_3
                replace hx245_4 := (HB.out.cell (World.block_lt_of_cell? w _ hx245_4)).trans hx245_4
                replace hx245_5 := (HB.out.cell (World.block_lt_of_cell? w _ hx245_5)).trans hx245_5
                replace hx245_6 := (HB.out.cell (World.block_lt_of_cell? w _ hx245_6)).trans hx245_6
                replace hx245_7 := (HB.out.cell (World.block_lt_of_cell? w _ hx245_7)).trans hx245_7
                replace hx245_8 := (HB.out.cell (World.block_lt_of_cell? w _ hx245_8)).trans hx245_8
                replace hx245_9 := (HB.out.cell (World.block_lt_of_cell? w _ hx245_9)).trans hx245_9
                replace p245 := eq_true p245
                replace q245 := eq_true q245
                obtain ⟨hcz37_0, hcz37_1, hcz37_2, hcz37_3, hcz37_4, hcz37_5, hcz37_6, hcz37_7, hcz37_8, hcz37_9, hfz37_0, hfz37_1, hfz37_2, hfz37_3, hfz37_4, hfz37_5, hfz37_6, hfz37_7, hfz37_8, hfz37_9⟩ := GS.c10 BK243.out
                go_wp2
                repeat (go_quiet (fail); try go_wp2)
                go_meet
                case rel => exact ⟨_, (decide (((rd_T33 l0_2 x3_2).f2) ≥ a0_1)), (by first | rfl | (simp; done) | (simp [*]; done)), H', ⟨by have := HJ1.out; have := HK2.out; first | omega | exact Nat.le_refl _⟩, ⟨GS.bqX BK240.out⟩, ⟨GS.bqX BK243.out⟩, ⟨GS.lB HB.out⟩⟩
              ·rw [if_neg c30] at H
               exact absurd H (by simp)
             ·rw [if_neg c29] at H
              exact absurd H (by simp)
            ·rw [if_neg c27] at H
             have c27b0 : decide (0 < x3_2) = false := decide_eq_false c27
             clear c27
             (first | rw [c27b0] | (simp only [i64_w, i32_w]; rw [c27b0]) | skip)
             have H' := Aside0.mk H
             clear H
             have hnb38 := NB243_240.out
             have hnc38 := NB240_243.out
             obtain ⟨hcz39_0, hcz39_1, hcz39_2, hcz39_3, hcz39_4, hcz39_5, hcz39_6, hcz39_7, hcz39_8, hcz39_9, hfz39_0, hfz39_1, hfz39_2, hfz39_3, hfz39_4, hfz39_5, hfz39_6, hfz39_7, hfz39_8, hfz39_9⟩ := GS.c10 BK243.out
             obtain ⟨hcz40_0, hcz40_1, hcz40_2, hfz40_0, hfz40_1, hfz40_2⟩ := GS.c3 BK240.out
             go_wp2
             repeat (go_quiet (fail); try go_wp2)
             go_meet
             case rel => exact ⟨_, (decide (((rd_T33 l0_2 x3_2).f2) ≥ a0_1)), (by first | rfl | (simp; done) | (simp [*]; done)), H', ⟨by have := HJ1.out; have := HK2.out; first | omega | exact Nat.le_refl _⟩, ⟨GS.bqX BK240.out⟩, ⟨GS.bqX BK243.out⟩, ⟨GS.lB HB.out⟩⟩
           case rest =>
            clear HC19
            try clear c1
            try clear c2
            try clear p2
            try clear q2
            try clear hx2
            try clear c3
            try clear c5
            try clear c6
            try clear c6b0
            try clear p6
            try clear c10
            try clear c11
            try clear c11b0
            try clear c11b1
            try clear c14
            try clear c14b0
            try clear c15
            try clear c15b0
            try clear c17
            try clear c17b0
            try clear c17b1
            try clear c18
            try clear c18b0
            try clear c18b1
            try clear c22
            try clear p24
            try clear q24
            try clear hx24
            try clear c27
            try clear c27b0
            try clear c29
            try clear c29b0
            try clear c30
            try clear c30b0
            try clear c31
            try clear c31b0
            try clear c32
            try clear c35
            try clear c38
            try clear hcz12_0
            try clear hcz12_1
            try clear hcz12_2
            try clear hcz13_0
            try clear hcz13_1
            try clear hcz13_2
            try clear hcz20_0
            try clear hcz20_1
            try clear hcz20_2
            try clear hcz23_0
            try clear hcz23_1
            try clear hcz23_2
            try clear hcz23_3
            try clear hcz23_4
            try clear hcz23_5
            try clear hcz23_6
            try clear hcz23_7
            try clear hcz23_8
            try clear hcz23_9
            try clear hcz25_0
            try clear hcz25_1
            try clear hcz25_2
            try clear hcz25_3
            try clear hcz25_4
            try clear hcz25_5
            try clear hcz25_6
            try clear hcz25_7
            try clear hcz25_8
            try clear hcz25_9
            try clear hcz26_0
            try clear hcz26_1
            try clear hcz26_2
            try clear hcz33_0
            try clear hcz33_1
            try clear hcz33_2
            try clear hcz34_0
            try clear hcz34_1
            try clear hcz34_2
            try clear hcz34_3
            try clear hcz34_4
            try clear hcz34_5
            try clear hcz34_6
            try clear hcz34_7
            try clear hcz34_8
            try clear hcz34_9
            try clear hcz36_0
            try clear hcz36_1
            try clear hcz36_2
            try clear hcz37_0
            try clear hcz37_1
            try clear hcz37_2
            try clear hcz37_3
            try clear hcz37_4
            try clear hcz37_5
            try clear hcz37_6
            try clear hcz37_7
            try clear hcz37_8
            try clear hcz37_9
            try clear hcz39_0
            try clear hcz39_1
            try clear hcz39_2
            try clear hcz39_3
            try clear hcz39_4
            try clear hcz39_5
            try clear hcz39_6
            try clear hcz39_7
            try clear hcz39_8
            try clear hcz39_9
            try clear hcz40_0
            try clear hcz40_1
            try clear hcz40_2
            try clear hcz7_0
            try clear hcz7_1
            try clear hcz7_2
            try clear hcz8_0
            try clear hcz8_1
            try clear hcz8_2
            try clear hcz9_0
            try clear hcz9_1
            try clear hcz9_2
            try clear hfz12_0
            try clear hfz12_1
            try clear hfz12_2
            try clear hfz13_0
            try clear hfz13_1
            try clear hfz13_2
            try clear hfz20_0
            try clear hfz20_1
            try clear hfz20_2
            try clear hfz23_0
            try clear hfz23_1
            try clear hfz23_2
            try clear hfz23_3
            try clear hfz23_4
            try clear hfz23_5
            try clear hfz23_6
            try clear hfz23_7
            try clear hfz23_8
            try clear hfz23_9
            try clear hfz25_0
            try clear hfz25_1
            try clear hfz25_2
            try clear hfz25_3
            try clear hfz25_4
            try clear hfz25_5
            try clear hfz25_6
            try clear hfz25_7
            try clear hfz25_8
            try clear hfz25_9
            try clear hfz26_0
            try clear hfz26_1
            try clear hfz26_2
            try clear hfz33_0
            try clear hfz33_1
            try clear hfz33_2
            try clear hfz34_0
            try clear hfz34_1
            try clear hfz34_2
            try clear hfz34_3
            try clear hfz34_4
            try clear hfz34_5
            try clear hfz34_6
            try clear hfz34_7
            try clear hfz34_8
            try clear hfz34_9
            try clear hfz36_0
            try clear hfz36_1
            try clear hfz36_2
            try clear hfz37_0
            try clear hfz37_1
            try clear hfz37_2
            try clear hfz37_3
            try clear hfz37_4
            try clear hfz37_5
            try clear hfz37_6
            try clear hfz37_7
            try clear hfz37_8
            try clear hfz37_9
            try clear hfz39_0
            try clear hfz39_1
            try clear hfz39_2
            try clear hfz39_3
            try clear hfz39_4
            try clear hfz39_5
            try clear hfz39_6
            try clear hfz39_7
            try clear hfz39_8
            try clear hfz39_9
            try clear hfz40_0
            try clear hfz40_1
            try clear hfz40_2
            try clear hfz7_0
            try clear hfz7_1
            try clear hfz7_2
            try clear hfz8_0
            try clear hfz8_1
            try clear hfz8_2
            try clear hfz9_0
            try clear hfz9_1
            try clear hfz9_2
            try clear hx242_0
            try clear hx242_1
            try clear hx242_2
            try clear hx242_3
            try clear hx242_4
            try clear hx242_5
            try clear hx242_6
            try clear hx242_7
            try clear hx242_8
            try clear hx242_9
            try clear hx245_0
            try clear hx245_1
            try clear hx245_2
            try clear hx245_3
            try clear hx245_4
            try clear hx245_5
            try clear hx245_6
            try clear hx245_7
            try clear hx245_8
            try clear hx245_9
            try clear p2
            try clear p242
            try clear p245
            try clear q242
            try clear q245
            obtain ⟨kq, x66_18, rfl, HA, HJ18, BK240, BK243, HB⟩ := hcut
            cases kq with
            | zero => exact absurd HA.out (by simp [spileref42_Check.j2])
            | succ kj18 =>
             have H := HA.out
             clear HA
             simp only [spileref42_Check.j2] at H
             by_cases c41 : x66_18 = true
             ·subst c41
              have H1 : (some 5) = some r := by rw [if_pos rfl] at H; exact H
              clear H
              have H := H1
              clear H1
              obtain rfl := Option.some.inj H
              go_wp2
              repeat (go_quiet (fail); try go_wp2)
              go_ret
              exact ⟨by first | rfl | (simp [errW_none, errW_some] <;> rfl) | (simp [*, errW_none, errW_some] <;> rfl), GS.lB HB.out⟩
             ·replace c41 := Bool.eq_false_iff.mpr c41
              subst c41
              have H1 : (spileref42_Check.l0 kj18 (wrap64 (x3_2 + 1)) a0_0 a0_1 l0_2) = some r := by rw [if_neg (show ¬ (false = true) by decide)] at H; exact H
              clear H
              have H := H1
              clear H1
              have H' := Aside0.mk H
              clear H
              go_wp2
              repeat (go_quiet (fail); try go_wp2)
              go_roundg kj18
              case measure => have := HJ1.out; have := HK2.out; have := HJ18.out; omega
              case rel => exact ⟨(wrap64 (x3_2 + 1)), (by first | rfl | (simp; done) | (simp [*]; done)), H', ⟨by have := HJ1.out; have := HK2.out; have := HJ18.out; omega⟩, ⟨GS.bqX BK240.out⟩, ⟨GS.lB HB.out⟩⟩
          ·rw [if_neg c18] at H
           have c18b0 : (((rd_T33 l0_2 x3_2).f0) == a0_0) = false := beq_eq_false_iff_ne.mpr c18
           try simp only [beq_self_eq_true, Bool.not_true, Bool.false_or, Bool.true_and] at c18b0
           have c18b1 : (((rd_T33 l0_2 x3_2).f0) != a0_0) = true := bne_iff_ne.mpr c18
           obtain rfl := Option.some.inj H
           obtain ⟨hcz42_0, hcz42_1, hcz42_2, hfz42_0, hfz42_1, hfz42_2⟩ := GS.c3 BK240.out
           have p242 : 0 ≤ (x3_2 : Int) := of_decide_eq_true (by first | (with_reducible assumption) | assumption)
           have q242 : x3_2 < (l0_2.length : Int) := of_decide_eq_true (by first | (with_reducible assumption) | assumption)
           obtain ⟨ad242, e242, hx242_0, hx242_1, hx242_2, hx242_3, hx242_4, hx242_5, hx242_6, hx242_7, hx242_8, hx242_9⟩ := at_T33 HR0_2.out x3_2 p242 q242
           cases e242
           replace hx242_0 := (HB.out.cell (World.block_lt_of_cell? w _ hx242_0)).trans hx242_0
           replace hx242_1 := (HB.out.cell (World.block_lt_of_cell? w _ hx242_1)).trans hx242_1
           replace hx242_2 := (HB.out.cell (World.block_lt_of_cell? w _ hx242_2)).trans hx242_2
           replace hx242_3 := (HB.out.cell (World.block_lt_of_cell? w _ hx242_3)).trans hx242_3
           replace hx242_4 := (HB.out.cell (World.block_lt_of_cell? w _ hx242_4)).trans hx242_4
           replace hx242_5 := (HB.out.cell (World.block_lt_of_cell? w _ hx242_5)).trans hx242_5
           replace hx242_6 := (HB.out.cell (World.block_lt_of_cell? w _ hx242_6)).trans hx242_6
           replace hx242_7 := (HB.out.cell (World.block_lt_of_cell? w _ hx242_7)).trans hx242_7
           replace hx242_8 := (HB.out.cell (World.block_lt_of_cell? w _ hx242_8)).trans hx242_8
           replace hx242_9 := (HB.out.cell (World.block_lt_of_cell? w _ hx242_9)).trans hx242_9
           replace p242 := eq_true p242
           replace q242 := eq_true q242
           go_wp2_with (first | ((with_reducible refine gqD (N := 4) rfl ?_); refine GS.bx (N := 4) (cs := #[.int .i64 0, .int .i64 0, .int .i64 0, .int .i64 0, .int .i64 0, .int .i64 0, .int .i64 0, .int .i64 0, .int .i64 0, .int .i64 0]) (t := 33) ?_; intro gb243 hg w43 hbox hb; have n0_ := Aside0.mk (bqB (GS.bqX BK240.out) hb); have n1_ := Aside0.mk (lqT (GS.lB HB.out) hb); have n2_ := Aside0.mk (hbox); have n3_ := Aside0.mk ((by rw [hg]; exact (lqZ (GS.lB HB.out)) : w.heap.size ≤ gb243)); have n4_ := Aside0.mk ((by rw [hg]; exact (lqZ (GS.lB HB.out)) : w.heap.size ≤ gb243)); have n5_ := Aside0.mk ((by rw [hg]; exact Nat.ne_of_lt (blk_lt (GS.bqX BK240.out)) : gb240 ≠ gb243)); have n6_ := Aside0.mk ((by rw [hg]; exact Nat.ne_of_gt (blk_lt (GS.bqX BK240.out)) : gb243 ≠ gb240)); clear BK240; clear HB; have BK240 := n0_; have HB := n1_; have BK243 := n2_; have GW243 := n3_; have GE243 := n4_; have NB240_243 := n5_; have NB243_240 := n6_; clear n0_ n1_ n2_ n3_ n4_ n5_ n6_; clear hb hbox hg; have hnb44 := NB243_240.out; have hnc44 := NB240_243.out; obtain ⟨hcz45_0, hcz45_1, hcz45_2, hcz45_3, hcz45_4, hcz45_5, hcz45_6, hcz45_7, hcz45_8, hcz45_9, hfz45_0, hfz45_1, hfz45_2, hfz45_3, hfz45_4, hfz45_5, hfz45_6, hfz45_7, hfz45_8, hfz45_9⟩ := GS.c10 BK243.out) | (go_at_call 46; (with_reducible refine (spileref41_Form.calls k2 ((rd_T33 l0_2 x3_2).f0) ((rd_T33 l0_2 x3_2).f1) ((rd_T33 l0_2 x3_2).f2) ((rd_T33 l0_2 x3_2).f3.f0) ((rd_T33 l0_2 x3_2).f3.f1) ((rd_T33 l0_2 x3_2).f3.f2) ((rd_T33 l0_2 x3_2).f3.f3) ((rd_T33 l0_2 x3_2).f3.f4) ((rd_T33 l0_2 x3_2).f3.f5) ((rd_T33 l0_2 x3_2).f3.f6) t244 _ A16.out).mono ?_); rintro e w46 ⟨rfl, hb⟩; have n0_ := Aside0.mk (bqB (GS.bqX BK240.out) hb); have n1_ := Aside0.mk (bqB (g := gb243) (o := .cells #[.int .i64 ((rd_T33 l0_2 x3_2).f0), .int .i64 ((rd_T33 l0_2 x3_2).f1), .int .i64 ((rd_T33 l0_2 x3_2).f2), .int .i64 ((rd_T33 l0_2 x3_2).f3.f0), .int .i64 ((rd_T33 l0_2 x3_2).f3.f1), .int .i64 ((rd_T33 l0_2 x3_2).f3.f2), .int .i64 ((rd_T33 l0_2 x3_2).f3.f3), .int .i64 ((rd_T33 l0_2 x3_2).f3.f4), .int .i64 ((rd_T33 l0_2 x3_2).f3.f5), .int .i64 ((rd_T33 l0_2 x3_2).f3.f6)] 33 (0, 0)) (GS.bqZ BK243.out) hb); have n2_ := Aside0.mk (lqT (GS.lB HB.out) hb); clear BK240; clear BK243; clear HB; have BK240 := n0_; have BK243 := n1_; have HB := n2_; clear n0_ n1_ n2_; (try clear hb); (try clear hb2); (try clear hk); (try clear hi); obtain ⟨hcz47_0, hcz47_1, hcz47_2, hcz47_3, hcz47_4, hcz47_5, hcz47_6, hcz47_7, hcz47_8, hcz47_9, hfz47_0, hfz47_1, hfz47_2, hfz47_3, hfz47_4, hfz47_5, hfz47_6, hfz47_7, hfz47_8, hfz47_9⟩ := GS.c10 BK243.out; obtain ⟨hcz48_0, hcz48_1, hcz48_2, hfz48_0, hfz48_1, hfz48_2⟩ := GS.c3 BK240.out))
           repeat (go_quiet (first | ((with_reducible refine gqD (N := 4) rfl ?_); refine GS.bx (N := 4) (cs := #[.int .i64 0, .int .i64 0, .int .i64 0, .int .i64 0, .int .i64 0, .int .i64 0, .int .i64 0, .int .i64 0, .int .i64 0, .int .i64 0]) (t := 33) ?_; intro gb243 hg w43 hbox hb; have n0_ := Aside0.mk (bqB (GS.bqX BK240.out) hb); have n1_ := Aside0.mk (lqT (GS.lB HB.out) hb); have n2_ := Aside0.mk (hbox); have n3_ := Aside0.mk ((by rw [hg]; exact (lqZ (GS.lB HB.out)) : w.heap.size ≤ gb243)); have n4_ := Aside0.mk ((by rw [hg]; exact (lqZ (GS.lB HB.out)) : w.heap.size ≤ gb243)); have n5_ := Aside0.mk ((by rw [hg]; exact Nat.ne_of_lt (blk_lt (GS.bqX BK240.out)) : gb240 ≠ gb243)); have n6_ := Aside0.mk ((by rw [hg]; exact Nat.ne_of_gt (blk_lt (GS.bqX BK240.out)) : gb243 ≠ gb240)); clear BK240; clear HB; have BK240 := n0_; have HB := n1_; have BK243 := n2_; have GW243 := n3_; have GE243 := n4_; have NB240_243 := n5_; have NB243_240 := n6_; clear n0_ n1_ n2_ n3_ n4_ n5_ n6_; clear hb hbox hg; have hnb44 := NB243_240.out; have hnc44 := NB240_243.out; obtain ⟨hcz45_0, hcz45_1, hcz45_2, hcz45_3, hcz45_4, hcz45_5, hcz45_6, hcz45_7, hcz45_8, hcz45_9, hfz45_0, hfz45_1, hfz45_2, hfz45_3, hfz45_4, hfz45_5, hfz45_6, hfz45_7, hfz45_8, hfz45_9⟩ := GS.c10 BK243.out) | (go_at_call 46; (with_reducible refine (spileref41_Form.calls k2 ((rd_T33 l0_2 x3_2).f0) ((rd_T33 l0_2 x3_2).f1) ((rd_T33 l0_2 x3_2).f2) ((rd_T33 l0_2 x3_2).f3.f0) ((rd_T33 l0_2 x3_2).f3.f1) ((rd_T33 l0_2 x3_2).f3.f2) ((rd_T33 l0_2 x3_2).f3.f3) ((rd_T33 l0_2 x3_2).f3.f4) ((rd_T33 l0_2 x3_2).f3.f5) ((rd_T33 l0_2 x3_2).f3.f6) t244 _ A16.out).mono ?_); rintro e w46 ⟨rfl, hb⟩; have n0_ := Aside0.mk (bqB (GS.bqX BK240.out) hb); have n1_ := Aside0.mk (bqB (g := gb243) (o := .cells #[.int .i64 ((rd_T33 l0_2 x3_2).f0), .int .i64 ((rd_T33 l0_2 x3_2).f1), .int .i64 ((rd_T33 l0_2 x3_2).f2), .int .i64 ((rd_T33 l0_2 x3_2).f3.f0), .int .i64 ((rd_T33 l0_2 x3_2).f3.f1), .int .i64 ((rd_T33 l0_2 x3_2).f3.f2), .int .i64 ((rd_T33 l0_2 x3_2).f3.f3), .int .i64 ((rd_T33 l0_2 x3_2).f3.f4), .int .i64 ((rd_T33 l0_2 x3_2).f3.f5), .int .i64 ((rd_T33 l0_2 x3_2).f3.f6)] 33 (0, 0)) (GS.bqZ BK243.out) hb); have n2_ := Aside0.mk (lqT (GS.lB HB.out) hb); clear BK240; clear BK243; clear HB; have BK240 := n0_; have BK243 := n1_; have HB := n2_; clear n0_ n1_ n2_; (try clear hb); (try clear hb2); (try clear hk); (try clear hi); obtain ⟨hcz47_0, hcz47_1, hcz47_2, hcz47_3, hcz47_4, hcz47_5, hcz47_6, hcz47_7, hcz47_8, hcz47_9, hfz47_0, hfz47_1, hfz47_2, hfz47_3, hfz47_4, hfz47_5, hfz47_6, hfz47_7, hfz47_8, hfz47_9⟩ := GS.c10 BK243.out; obtain ⟨hcz48_0, hcz48_1, hcz48_2, hfz48_0, hfz48_1, hfz48_2⟩ := GS.c3 BK240.out)); try go_wp2_with (first | ((with_reducible refine gqD (N := 4) rfl ?_); refine GS.bx (N := 4) (cs := #[.int .i64 0, .int .i64 0, .int .i64 0, .int .i64 0, .int .i64 0, .int .i64 0, .int .i64 0, .int .i64 0, .int .i64 0, .int .i64 0]) (t := 33) ?_; intro gb243 hg w43 hbox hb; have n0_ := Aside0.mk (bqB (GS.bqX BK240.out) hb); have n1_ := Aside0.mk (lqT (GS.lB HB.out) hb); have n2_ := Aside0.mk (hbox); have n3_ := Aside0.mk ((by rw [hg]; exact (lqZ (GS.lB HB.out)) : w.heap.size ≤ gb243)); have n4_ := Aside0.mk ((by rw [hg]; exact (lqZ (GS.lB HB.out)) : w.heap.size ≤ gb243)); have n5_ := Aside0.mk ((by rw [hg]; exact Nat.ne_of_lt (blk_lt (GS.bqX BK240.out)) : gb240 ≠ gb243)); have n6_ := Aside0.mk ((by rw [hg]; exact Nat.ne_of_gt (blk_lt (GS.bqX BK240.out)) : gb243 ≠ gb240)); clear BK240; clear HB; have BK240 := n0_; have HB := n1_; have BK243 := n2_; have GW243 := n3_; have GE243 := n4_; have NB240_243 := n5_; have NB243_240 := n6_; clear n0_ n1_ n2_ n3_ n4_ n5_ n6_; clear hb hbox hg; have hnb44 := NB243_240.out; have hnc44 := NB240_243.out; obtain ⟨hcz45_0, hcz45_1, hcz45_2, hcz45_3, hcz45_4, hcz45_5, hcz45_6, hcz45_7, hcz45_8, hcz45_9, hfz45_0, hfz45_1, hfz45_2, hfz45_3, hfz45_4, hfz45_5, hfz45_6, hfz45_7, hfz45_8, hfz45_9⟩ := GS.c10 BK243.out) | (go_at_call 46; (with_reducible refine (spileref41_Form.calls k2 ((rd_T33 l0_2 x3_2).f0) ((rd_T33 l0_2 x3_2).f1) ((rd_T33 l0_2 x3_2).f2) ((rd_T33 l0_2 x3_2).f3.f0) ((rd_T33 l0_2 x3_2).f3.f1) ((rd_T33 l0_2 x3_2).f3.f2) ((rd_T33 l0_2 x3_2).f3.f3) ((rd_T33 l0_2 x3_2).f3.f4) ((rd_T33 l0_2 x3_2).f3.f5) ((rd_T33 l0_2 x3_2).f3.f6) t244 _ A16.out).mono ?_); rintro e w46 ⟨rfl, hb⟩; have n0_ := Aside0.mk (bqB (GS.bqX BK240.out) hb); have n1_ := Aside0.mk (bqB (g := gb243) (o := .cells #[.int .i64 ((rd_T33 l0_2 x3_2).f0), .int .i64 ((rd_T33 l0_2 x3_2).f1), .int .i64 ((rd_T33 l0_2 x3_2).f2), .int .i64 ((rd_T33 l0_2 x3_2).f3.f0), .int .i64 ((rd_T33 l0_2 x3_2).f3.f1), .int .i64 ((rd_T33 l0_2 x3_2).f3.f2), .int .i64 ((rd_T33 l0_2 x3_2).f3.f3), .int .i64 ((rd_T33 l0_2 x3_2).f3.f4), .int .i64 ((rd_T33 l0_2 x3_2).f3.f5), .int .i64 ((rd_T33 l0_2 x3_2).f3.f6)] 33 (0, 0)) (GS.bqZ BK243.out) hb); have n2_ := Aside0.mk (lqT (GS.lB HB.out) hb); clear BK240; clear BK243; clear HB; have BK240 := n0_; have BK243 := n1_; have HB := n2_; clear n0_ n1_ n2_; (try clear hb); (try clear hb2); (try clear hk); (try clear hi); obtain ⟨hcz47_0, hcz47_1, hcz47_2, hcz47_3, hcz47_4, hcz47_5, hcz47_6, hcz47_7, hcz47_8, hcz47_9, hfz47_0, hfz47_1, hfz47_2, hfz47_3, hfz47_4, hfz47_5, hfz47_6, hfz47_7, hfz47_8, hfz47_9⟩ := GS.c10 BK243.out; obtain ⟨hcz48_0, hcz48_1, hcz48_2, hfz48_0, hfz48_1, hfz48_2⟩ := GS.c3 BK240.out)))
           go_ret
           exact ⟨by first | rfl | (simp [errW_none, errW_some] <;> rfl) | (simp [*, errW_none, errW_some] <;> rfl), GS.lB HB.out⟩
         ·rw [if_neg c17] at H
          have c17b0 : (t244 == 0) = false := beq_eq_false_iff_ne.mpr c17
          try simp only [beq_self_eq_true, Bool.not_true, Bool.false_or, Bool.true_and] at c17b0
          have c17b1 : (t244 != 0) = true := bne_iff_ne.mpr c17
          obtain rfl := Option.some.inj H
          obtain ⟨hcz49_0, hcz49_1, hcz49_2, hfz49_0, hfz49_1, hfz49_2⟩ := GS.c3 BK240.out
          have p242 : 0 ≤ (x3_2 : Int) := of_decide_eq_true (by first | (with_reducible assumption) | assumption)
          have q242 : x3_2 < (l0_2.length : Int) := of_decide_eq_true (by first | (with_reducible assumption) | assumption)
          obtain ⟨ad242, e242, hx242_0, hx242_1, hx242_2, hx242_3, hx242_4, hx242_5, hx242_6, hx242_7, hx242_8, hx242_9⟩ := at_T33 HR0_2.out x3_2 p242 q242
          cases e242
          replace hx242_0 := (HB.out.cell (World.block_lt_of_cell? w _ hx242_0)).trans hx242_0
          replace hx242_1 := (HB.out.cell (World.block_lt_of_cell? w _ hx242_1)).trans hx242_1
          replace hx242_2 := (HB.out.cell (World.block_lt_of_cell? w _ hx242_2)).trans hx242_2
          replace hx242_3 := (HB.out.cell (World.block_lt_of_cell? w _ hx242_3)).trans hx242_3
          replace hx242_4 := (HB.out.cell (World.block_lt_of_cell? w _ hx242_4)).trans hx242_4
          replace hx242_5 := (HB.out.cell (World.block_lt_of_cell? w _ hx242_5)).trans hx242_5
          replace hx242_6 := (HB.out.cell (World.block_lt_of_cell? w _ hx242_6)).trans hx242_6
          replace hx242_7 := (HB.out.cell (World.block_lt_of_cell? w _ hx242_7)).trans hx242_7
          replace hx242_8 := (HB.out.cell (World.block_lt_of_cell? w _ hx242_8)).trans hx242_8
          replace hx242_9 := (HB.out.cell (World.block_lt_of_cell? w _ hx242_9)).trans hx242_9
          replace p242 := eq_true p242
          replace q242 := eq_true q242
          go_wp2_with (first | ((with_reducible refine gqD (N := 4) rfl ?_); refine GS.bx (N := 4) (cs := #[.int .i64 0, .int .i64 0, .int .i64 0, .int .i64 0, .int .i64 0, .int .i64 0, .int .i64 0, .int .i64 0, .int .i64 0, .int .i64 0]) (t := 33) ?_; intro gb243 hg w50 hbox hb; have n0_ := Aside0.mk (bqB (GS.bqX BK240.out) hb); have n1_ := Aside0.mk (lqT (GS.lB HB.out) hb); have n2_ := Aside0.mk (hbox); have n3_ := Aside0.mk ((by rw [hg]; exact (lqZ (GS.lB HB.out)) : w.heap.size ≤ gb243)); have n4_ := Aside0.mk ((by rw [hg]; exact (lqZ (GS.lB HB.out)) : w.heap.size ≤ gb243)); have n5_ := Aside0.mk ((by rw [hg]; exact Nat.ne_of_lt (blk_lt (GS.bqX BK240.out)) : gb240 ≠ gb243)); have n6_ := Aside0.mk ((by rw [hg]; exact Nat.ne_of_gt (blk_lt (GS.bqX BK240.out)) : gb243 ≠ gb240)); clear BK240; clear HB; have BK240 := n0_; have HB := n1_; have BK243 := n2_; have GW243 := n3_; have GE243 := n4_; have NB240_243 := n5_; have NB243_240 := n6_; clear n0_ n1_ n2_ n3_ n4_ n5_ n6_; clear hb hbox hg; have hnb51 := NB243_240.out; have hnc51 := NB240_243.out; obtain ⟨hcz52_0, hcz52_1, hcz52_2, hcz52_3, hcz52_4, hcz52_5, hcz52_6, hcz52_7, hcz52_8, hcz52_9, hfz52_0, hfz52_1, hfz52_2, hfz52_3, hfz52_4, hfz52_5, hfz52_6, hfz52_7, hfz52_8, hfz52_9⟩ := GS.c10 BK243.out) | (go_at_call 46; (with_reducible refine (spileref41_Form.calls k2 ((rd_T33 l0_2 x3_2).f0) ((rd_T33 l0_2 x3_2).f1) ((rd_T33 l0_2 x3_2).f2) ((rd_T33 l0_2 x3_2).f3.f0) ((rd_T33 l0_2 x3_2).f3.f1) ((rd_T33 l0_2 x3_2).f3.f2) ((rd_T33 l0_2 x3_2).f3.f3) ((rd_T33 l0_2 x3_2).f3.f4) ((rd_T33 l0_2 x3_2).f3.f5) ((rd_T33 l0_2 x3_2).f3.f6) t244 _ A16.out).mono ?_); rintro e w53 ⟨rfl, hb⟩; have n0_ := Aside0.mk (bqB (GS.bqX BK240.out) hb); have n1_ := Aside0.mk (bqB (g := gb243) (o := .cells #[.int .i64 ((rd_T33 l0_2 x3_2).f0), .int .i64 ((rd_T33 l0_2 x3_2).f1), .int .i64 ((rd_T33 l0_2 x3_2).f2), .int .i64 ((rd_T33 l0_2 x3_2).f3.f0), .int .i64 ((rd_T33 l0_2 x3_2).f3.f1), .int .i64 ((rd_T33 l0_2 x3_2).f3.f2), .int .i64 ((rd_T33 l0_2 x3_2).f3.f3), .int .i64 ((rd_T33 l0_2 x3_2).f3.f4), .int .i64 ((rd_T33 l0_2 x3_2).f3.f5), .int .i64 ((rd_T33 l0_2 x3_2).f3.f6)] 33 (0, 0)) (GS.bqZ BK243.out) hb); have n2_ := Aside0.mk (lqT (GS.lB HB.out) hb); clear BK240; clear BK243; clear HB; have BK240 := n0_; have BK243 := n1_; have HB := n2_; clear n0_ n1_ n2_; (try clear hb); (try clear hb2); (try clear hk); (try clear hi)))
          repeat (go_quiet (first | ((with_reducible refine gqD (N := 4) rfl ?_); refine GS.bx (N := 4) (cs := #[.int .i64 0, .int .i64 0, .int .i64 0, .int .i64 0, .int .i64 0, .int .i64 0, .int .i64 0, .int .i64 0, .int .i64 0, .int .i64 0]) (t := 33) ?_; intro gb243 hg w50 hbox hb; have n0_ := Aside0.mk (bqB (GS.bqX BK240.out) hb); have n1_ := Aside0.mk (lqT (GS.lB HB.out) hb); have n2_ := Aside0.mk (hbox); have n3_ := Aside0.mk ((by rw [hg]; exact (lqZ (GS.lB HB.out)) : w.heap.size ≤ gb243)); have n4_ := Aside0.mk ((by rw [hg]; exact (lqZ (GS.lB HB.out)) : w.heap.size ≤ gb243)); have n5_ := Aside0.mk ((by rw [hg]; exact Nat.ne_of_lt (blk_lt (GS.bqX BK240.out)) : gb240 ≠ gb243)); have n6_ := Aside0.mk ((by rw [hg]; exact Nat.ne_of_gt (blk_lt (GS.bqX BK240.out)) : gb243 ≠ gb240)); clear BK240; clear HB; have BK240 := n0_; have HB := n1_; have BK243 := n2_; have GW243 := n3_; have GE243 := n4_; have NB240_243 := n5_; have NB243_240 := n6_; clear n0_ n1_ n2_ n3_ n4_ n5_ n6_; clear hb hbox hg; have hnb51 := NB243_240.out; have hnc51 := NB240_243.out; obtain ⟨hcz52_0, hcz52_1, hcz52_2, hcz52_3, hcz52_4, hcz52_5, hcz52_6, hcz52_7, hcz52_8, hcz52_9, hfz52_0, hfz52_1, hfz52_2, hfz52_3, hfz52_4, hfz52_5, hfz52_6, hfz52_7, hfz52_8, hfz52_9⟩ := GS.c10 BK243.out) | (go_at_call 46; (with_reducible refine (spileref41_Form.calls k2 ((rd_T33 l0_2 x3_2).f0) ((rd_T33 l0_2 x3_2).f1) ((rd_T33 l0_2 x3_2).f2) ((rd_T33 l0_2 x3_2).f3.f0) ((rd_T33 l0_2 x3_2).f3.f1) ((rd_T33 l0_2 x3_2).f3.f2) ((rd_T33 l0_2 x3_2).f3.f3) ((rd_T33 l0_2 x3_2).f3.f4) ((rd_T33 l0_2 x3_2).f3.f5) ((rd_T33 l0_2 x3_2).f3.f6) t244 _ A16.out).mono ?_); rintro e w53 ⟨rfl, hb⟩; have n0_ := Aside0.mk (bqB (GS.bqX BK240.out) hb); have n1_ := Aside0.mk (bqB (g := gb243) (o := .cells #[.int .i64 ((rd_T33 l0_2 x3_2).f0), .int .i64 ((rd_T33 l0_2 x3_2).f1), .int .i64 ((rd_T33 l0_2 x3_2).f2), .int .i64 ((rd_T33 l0_2 x3_2).f3.f0), .int .i64 ((rd_T33 l0_2 x3_2).f3.f1), .int .i64 ((rd_T33 l0_2 x3_2).f3.f2), .int .i64 ((rd_T33 l0_2 x3_2).f3.f3), .int .i64 ((rd_T33 l0_2 x3_2).f3.f4), .int .i64 ((rd_T33 l0_2 x3_2).f3.f5), .int .i64 ((rd_T33 l0_2 x3_2).f3.f6)] 33 (0, 0)) (GS.bqZ BK243.out) hb); have n2_ := Aside0.mk (lqT (GS.lB HB.out) hb); clear BK240; clear BK243; clear HB; have BK240 := n0_; have BK243 := n1_; have HB := n2_; clear n0_ n1_ n2_; (try clear hb); (try clear hb2); (try clear hk); (try clear hi))); try go_wp2_with (first | ((with_reducible refine gqD (N := 4) rfl ?_); refine GS.bx (N := 4) (cs := #[.int .i64 0, .int .i64 0, .int .i64 0, .int .i64 0, .int .i64 0, .int .i64 0, .int .i64 0, .int .i64 0, .int .i64 0, .int .i64 0]) (t := 33) ?_; intro gb243 hg w50 hbox hb; have n0_ := Aside0.mk (bqB (GS.bqX BK240.out) hb); have n1_ := Aside0.mk (lqT (GS.lB HB.out) hb); have n2_ := Aside0.mk (hbox); have n3_ := Aside0.mk ((by rw [hg]; exact (lqZ (GS.lB HB.out)) : w.heap.size ≤ gb243)); have n4_ := Aside0.mk ((by rw [hg]; exact (lqZ (GS.lB HB.out)) : w.heap.size ≤ gb243)); have n5_ := Aside0.mk ((by rw [hg]; exact Nat.ne_of_lt (blk_lt (GS.bqX BK240.out)) : gb240 ≠ gb243)); have n6_ := Aside0.mk ((by rw [hg]; exact Nat.ne_of_gt (blk_lt (GS.bqX BK240.out)) : gb243 ≠ gb240)); clear BK240; clear HB; have BK240 := n0_; have HB := n1_; have BK243 := n2_; have GW243 := n3_; have GE243 := n4_; have NB240_243 := n5_; have NB243_240 := n6_; clear n0_ n1_ n2_ n3_ n4_ n5_ n6_; clear hb hbox hg; have hnb51 := NB243_240.out; have hnc51 := NB240_243.out; obtain ⟨hcz52_0, hcz52_1, hcz52_2, hcz52_3, hcz52_4, hcz52_5, hcz52_6, hcz52_7, hcz52_8, hcz52_9, hfz52_0, hfz52_1, hfz52_2, hfz52_3, hfz52_4, hfz52_5, hfz52_6, hfz52_7, hfz52_8, hfz52_9⟩ := GS.c10 BK243.out) | (go_at_call 46; (with_reducible refine (spileref41_Form.calls k2 ((rd_T33 l0_2 x3_2).f0) ((rd_T33 l0_2 x3_2).f1) ((rd_T33 l0_2 x3_2).f2) ((rd_T33 l0_2 x3_2).f3.f0) ((rd_T33 l0_2 x3_2).f3.f1) ((rd_T33 l0_2 x3_2).f3.f2) ((rd_T33 l0_2 x3_2).f3.f3) ((rd_T33 l0_2 x3_2).f3.f4) ((rd_T33 l0_2 x3_2).f3.f5) ((rd_T33 l0_2 x3_2).f3.f6) t244 _ A16.out).mono ?_); rintro e w53 ⟨rfl, hb⟩; have n0_ := Aside0.mk (bqB (GS.bqX BK240.out) hb); have n1_ := Aside0.mk (bqB (g := gb243) (o := .cells #[.int .i64 ((rd_T33 l0_2 x3_2).f0), .int .i64 ((rd_T33 l0_2 x3_2).f1), .int .i64 ((rd_T33 l0_2 x3_2).f2), .int .i64 ((rd_T33 l0_2 x3_2).f3.f0), .int .i64 ((rd_T33 l0_2 x3_2).f3.f1), .int .i64 ((rd_T33 l0_2 x3_2).f3.f2), .int .i64 ((rd_T33 l0_2 x3_2).f3.f3), .int .i64 ((rd_T33 l0_2 x3_2).f3.f4), .int .i64 ((rd_T33 l0_2 x3_2).f3.f5), .int .i64 ((rd_T33 l0_2 x3_2).f3.f6)] 33 (0, 0)) (GS.bqZ BK243.out) hb); have n2_ := Aside0.mk (lqT (GS.lB HB.out) hb); clear BK240; clear BK243; clear HB; have BK240 := n0_; have BK243 := n1_; have HB := n2_; clear n0_ n1_ n2_; (try clear hb); (try clear hb2); (try clear hk); (try clear hi))))
          go_ret
          exact ⟨by first | rfl | (simp [errW_none, errW_some] <;> rfl) | (simp [*, errW_none, errW_some] <;> rfl), GS.lB HB.out⟩
        ·rw [if_neg c15] at H
         exact absurd H (by simp)
       ·rw [if_neg c14] at H
        have c14b0 : decide (x3_2 < (l0_2.length : Int)) = false := decide_eq_false c14
        clear c14
        obtain rfl := Option.some.inj H
        obtain ⟨hcz54_0, hcz54_1, hcz54_2, hfz54_0, hfz54_1, hfz54_2⟩ := GS.c3 BK240.out
        go_wp2
        repeat (go_quiet (fail); try go_wp2)
        go_ret
        exact ⟨by first | rfl | (simp [errW_none, errW_some] <;> rfl) | (simp [*, errW_none, errW_some] <;> rfl), GS.lB HB.out⟩

-- NOT PRINTED: function 16 (spileref42_Send)

end Go.Proofs.Ytfafeeobjlkjnaa.K
