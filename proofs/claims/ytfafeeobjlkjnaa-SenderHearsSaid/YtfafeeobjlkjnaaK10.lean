-- PRINTED by print.py (a twelfth state) out of the translation. Not trusted: Lean checks it.
import Derived.Test.YtfafeeobjlkjnaaK0
import Derived.Test.YtfafeeobjlkjnaaGShort
import Derived.Test.YtfafeeobjlkjnaaK9
namespace Go.Proofs.Ytfafeeobjlkjnaa.K
open Go.RowKit Go.Proofs.YtfafeeobjlkjnaaW.PrintWords Go.Proofs.YtfafeeobjlkjnaaW.PrintLast Go.Proofs.YtfafeeobjlkjnaaW.PrintMore
attribute [local go_sem] max2_int min2_int max_two min_two max_three min_three max_four min_four   -- for this text's walks alone
set_option linter.unusedVariables false
set_option linter.unusedSimpArgs false

/-! ### spileref40_Check: function 44 -/
mutual
def spileref40_Check.j0 : Nat → Bool → Int → Int → Int → Int → Int → Int → Int → Option (Int)
 | 0, _, _, _, _, _, _, _, _ => none
 | k + 1, x31, x233000, x233001, x233002, x233003, x233004, x233005, x233006 => if x31 = true then (some 2) else (if x233002 = 0 then (if x233004 = 0 then (spileref40_Check.j1 k (x233005 == 0) x233000 x233001 x233002 x233003 x233004 x233005 x233006) else (spileref40_Check.j1 k false x233000 x233001 x233002 x233003 x233004 x233005 x233006)) else (spileref40_Check.j1 k false x233000 x233001 x233002 x233003 x233004 x233005 x233006))
def spileref40_Check.j1 : Nat → Bool → Int → Int → Int → Int → Int → Int → Int → Option (Int)
 | 0, _, _, _, _, _, _, _, _ => none
 | k + 1, x3, x233000, x233001, x233002, x233003, x233004, x233005, x233006 => if x233001 = 1 then (if x233002 = 0 then ((spileref40_Node.f x233004).bind fun t233 => (if t233 = true then ((spileref40_Node.f x233005).bind fun t234 => (if t234 = true then (if x233004 = x233005 then (spileref40_Check.j2 k false) else (if x233006 ≥ 1 then (spileref40_Check.j2 k (decide (x233006 ≤ 10737418240000))) else (spileref40_Check.j2 k false))) else (spileref40_Check.j2 k false))) else (spileref40_Check.j2 k false))) else (spileref40_Check.j2 k false)) else (if x233001 = 2 then (if x233002 ≥ 1 then (if x233002 ≤ 64 then (if x233004 = 0 then ((spileref40_Node.f x233005).bind fun t235 => (if t235 = true then (spileref40_Check.j2 k (x233006 == 0)) else (spileref40_Check.j2 k false))) else (spileref40_Check.j2 k false)) else (spileref40_Check.j2 k false)) else (spileref40_Check.j2 k false)) else (if x233001 = 3 then (if x3 = true then (if x233006 ≥ 0 then (spileref40_Check.j2 k (decide (x233006 ≤ 10737418240000))) else (spileref40_Check.j2 k false)) else (spileref40_Check.j2 k false)) else (if x3 = true then (spileref40_Check.j2 k (x233006 == 0)) else (spileref40_Check.j2 k false))))
def spileref40_Check.j2 : Nat → Bool → Option (Int)
 | 0, _ => none
 | k + 1, x3 => if x3 = true then (some 0) else (some 1)
end
def spileref40_Check.f (k : Nat) (a0_0 : Int) (a0_1 : Int) (a0_2 : Int) (a0_3 : Int) (a0_4 : Int) (a0_5 : Int) (a0_6 : Int) : Option (Int) := if a0_0 < 1 then (spileref40_Check.j0 k true a0_0 a0_1 a0_2 a0_3 a0_4 a0_5 a0_6) else (if a0_0 > 1073741824 then (spileref40_Check.j0 k true a0_0 a0_1 a0_2 a0_3 a0_4 a0_5 a0_6) else (if a0_1 < 1 then (spileref40_Check.j0 k true a0_0 a0_1 a0_2 a0_3 a0_4 a0_5 a0_6) else (if a0_1 > 5 then (spileref40_Check.j0 k true a0_0 a0_1 a0_2 a0_3 a0_4 a0_5 a0_6) else (if a0_3 < 0 then (spileref40_Check.j0 k true a0_0 a0_1 a0_2 a0_3 a0_4 a0_5 a0_6) else (spileref40_Check.j0 k (decide (a0_3 > 100000)) a0_0 a0_1 a0_2 a0_3 a0_4 a0_5 a0_6)))))
theorem spileref40_Check.mono_l : ∀ k, (∀ y0 y1 y2 y3 y4 y5 y6 y7, LeO (spileref40_Check.j0 k y0 y1 y2 y3 y4 y5 y6 y7) (spileref40_Check.j0 (k + 1) y0 y1 y2 y3 y4 y5 y6 y7)) ∧ (∀ y0 y1 y2 y3 y4 y5 y6 y7, LeO (spileref40_Check.j1 k y0 y1 y2 y3 y4 y5 y6 y7) (spileref40_Check.j1 (k + 1) y0 y1 y2 y3 y4 y5 y6 y7)) ∧ (∀ y0, LeO (spileref40_Check.j2 k y0) (spileref40_Check.j2 (k + 1) y0))
 | 0 => ⟨fun _ _ _ _ _ _ _ _ r h => by simp [spileref40_Check.j0] at h, fun _ _ _ _ _ _ _ _ r h => by simp [spileref40_Check.j1] at h, fun _ r h => by simp [spileref40_Check.j2] at h⟩
 | k + 1 => by
  obtain ⟨ih0, ih1, ih2⟩ := spileref40_Check.mono_l k
  refine ⟨?_, ?_, ?_⟩
  ·intro y0 y1 y2 y3 y4 y5 y6 y7
   unfold spileref40_Check.j0
   repeat' first
   | (with_reducible exact ih0 _ _ _ _ _ _ _ _)
   | (with_reducible exact ih1 _ _ _ _ _ _ _ _)
   | (with_reducible exact ih2 _)
   | (with_reducible exact LeO.refl _)
   | (with_reducible exact LeO.none _)
   | (with_reducible refine LeO.ite ?_ ?_)
   | (with_reducible refine LeO.bind ?_ (fun _ => ?_))
   | exact ih0 _ _ _ _ _ _ _ _
   | exact ih1 _ _ _ _ _ _ _ _
   | exact ih2 _
   | exact LeO.none _
   | refine LeO.ite ?_ ?_
   | refine LeO.bind ?_ (fun _ => ?_)
  ·intro y0 y1 y2 y3 y4 y5 y6 y7
   unfold spileref40_Check.j1
   repeat' first
   | (with_reducible exact ih0 _ _ _ _ _ _ _ _)
   | (with_reducible exact ih1 _ _ _ _ _ _ _ _)
   | (with_reducible exact ih2 _)
   | (with_reducible exact LeO.refl _)
   | (with_reducible exact LeO.none _)
   | (with_reducible refine LeO.ite ?_ ?_)
   | (with_reducible refine LeO.bind ?_ (fun _ => ?_))
   | exact ih0 _ _ _ _ _ _ _ _
   | exact ih1 _ _ _ _ _ _ _ _
   | exact ih2 _
   | exact LeO.none _
   | refine LeO.ite ?_ ?_
   | refine LeO.bind ?_ (fun _ => ?_)
  ·intro y0
   unfold spileref40_Check.j2
   repeat' first
   | (with_reducible exact ih0 _ _ _ _ _ _ _ _)
   | (with_reducible exact ih1 _ _ _ _ _ _ _ _)
   | (with_reducible exact ih2 _)
   | (with_reducible exact LeO.refl _)
   | (with_reducible exact LeO.none _)
   | (with_reducible refine LeO.ite ?_ ?_)
   | (with_reducible refine LeO.bind ?_ (fun _ => ?_))
   | exact ih0 _ _ _ _ _ _ _ _
   | exact ih1 _ _ _ _ _ _ _ _
   | exact ih2 _
   | exact LeO.none _
   | refine LeO.ite ?_ ?_
   | refine LeO.bind ?_ (fun _ => ?_)
theorem spileref40_Check.mono : ∀ a0 a1 a2 a3 a4 a5 a6 k, LeO (spileref40_Check.f k a0 a1 a2 a3 a4 a5 a6) (spileref40_Check.f (k + 1) a0 a1 a2 a3 a4 a5 a6) := by
 intro a0 a1 a2 a3 a4 a5 a6 k
 obtain ⟨ih0, ih1, ih2⟩ := spileref40_Check.mono_l k
 unfold spileref40_Check.f
 repeat' first
   | (with_reducible exact ih0 _ _ _ _ _ _ _ _)
   | (with_reducible exact ih1 _ _ _ _ _ _ _ _)
   | (with_reducible exact ih2 _)
   | (with_reducible exact LeO.refl _)
   | (with_reducible exact LeO.none _)
   | (with_reducible refine LeO.ite ?_ ?_)
   | (with_reducible refine LeO.bind ?_ (fun _ => ?_))
   | exact ih0 _ _ _ _ _ _ _ _
   | exact ih1 _ _ _ _ _ _ _ _
   | exact ih2 _
   | exact LeO.none _
   | refine LeO.ite ?_ ?_
   | refine LeO.bind ?_ (fun _ => ?_)
set_option maxHeartbeats 8000000 in
set_option maxRecDepth 100000 in
theorem spileref40_Check.calls (k : Nat) (a0_0 : Int) (a0_1 : Int) (a0_2 : Int) (a0_3 : Int) (a0_4 : Int) (a0_5 : Int) (a0_6 : Int) (r : Int) (w : World) (h : spileref40_Check.f k a0_0 a0_1 a0_2 a0_3 a0_4 a0_5 a0_6 = some r) :
  Calls Try.prog 44 #[.agg #[.int .i64 a0_0, .int .i64 a0_1, .int .i64 a0_2, .int .i64 a0_3, .int .i64 a0_4, .int .i64 a0_5, .int .i64 a0_6]] w fun e w' => e = .returned (.int .i64 r) ∧ Below w.heap.size w w' := by
 have hu26 := Try.underlying26
 have HB := Aside0.mk (Below.refl w.heap.size w)
 have H : (if a0_0 < 1 then (spileref40_Check.j0 k true a0_0 a0_1 a0_2 a0_3 a0_4 a0_5 a0_6) else (if a0_0 > 1073741824 then (spileref40_Check.j0 k true a0_0 a0_1 a0_2 a0_3 a0_4 a0_5 a0_6) else (if a0_1 < 1 then (spileref40_Check.j0 k true a0_0 a0_1 a0_2 a0_3 a0_4 a0_5 a0_6) else (if a0_1 > 5 then (spileref40_Check.j0 k true a0_0 a0_1 a0_2 a0_3 a0_4 a0_5 a0_6) else (if a0_3 < 0 then (spileref40_Check.j0 k true a0_0 a0_1 a0_2 a0_3 a0_4 a0_5 a0_6) else (spileref40_Check.j0 k (decide (a0_3 > 100000)) a0_0 a0_1 a0_2 a0_3 a0_4 a0_5 a0_6)))))) = some r := h
 clear h
 have HC2 := Aside0.mk H
 clear H
 go_enter Try.func44, Try.ntmps44
 go_upto_region 1 with (first | ((with_reducible refine gqD (N := 1) rfl ?_); refine GS.bx (N := 1) (cs := #[.int .i64 a0_0, .int .i64 a0_1, .int .i64 a0_2, .int .i64 a0_3, .int .i64 a0_4, .int .i64 a0_5, .int .i64 a0_6]) (t := 26) ?_; intro gb232 hg w3 hbox hb; have n0_ := Aside0.mk (lqT (GS.lB HB.out) hb); have n1_ := Aside0.mk (hbox); have n2_ := Aside0.mk ((by rw [hg]; exact (lqZ (GS.lB HB.out)) : w.heap.size ≤ gb232)); have n3_ := Aside0.mk ((by rw [hg]; exact (lqZ (GS.lB HB.out)) : w.heap.size ≤ gb232)); clear HB; have HB := n0_; have BK232 := n1_; have GW232 := n2_; have GE232 := n3_; clear n0_ n1_ n2_ n3_; clear hb hbox hg))
 (try simp only [Act.put, List.setIfInBounds_toArray, List.set_cons_zero, List.set_cons_succ])
 go_cut [31] (fun v31 wc => ∃ (kq : Nat) (x31_1 : Bool), v31 = .bool x31_1 ∧ Aside0 (spileref40_Check.j0 kq x31_1 a0_0 a0_1 a0_2 a0_3 a0_4 a0_5 a0_6 = some r) ∧ Aside0 (kq ≤ k) ∧ Aside0 (wc.heap[gb232]? = some (.cells #[.int .i64 a0_0, .int .i64 a0_1, .int .i64 a0_2, .int .i64 a0_3, .int .i64 a0_4, .int .i64 a0_5, .int .i64 a0_6] 26 (0, 0))) ∧ Aside0 (Below w.heap.size w wc))
 case first =>
  have H := HC2.out
  clear HC2
  by_cases c4 : a0_0 < 1
  ·rw [if_pos c4] at H
   have c4b0 : decide (a0_0 < 1) = true := decide_eq_true c4
   clear c4
   (first | rw [c4b0] | (simp only [i64_w, i32_w]; rw [c4b0]) | skip)
   have H' := Aside0.mk H
   clear H
   obtain ⟨hcz5_0, hcz5_1, hcz5_2, hcz5_3, hcz5_4, hcz5_5, hcz5_6, hfz5_0, hfz5_1, hfz5_2, hfz5_3, hfz5_4, hfz5_5, hfz5_6⟩ := GS.c7 BK232.out
   go_wp2
   go_meet
   case rel => exact ⟨_, (true), (by first | rfl | (simp; done) | (simp [*]; done)), H', ⟨by first | omega | exact Nat.le_refl _⟩, ⟨GS.bqX BK232.out⟩, ⟨GS.lB HB.out⟩⟩
  ·rw [if_neg c4] at H
   have c4b0 : decide (a0_0 < 1) = false := decide_eq_false c4
   clear c4
   (first | rw [c4b0] | (simp only [i64_w, i32_w]; rw [c4b0]) | skip)
   by_cases c6 : a0_0 > 1073741824
   ·rw [if_pos c6] at H
    have c6b0 : decide (1073741824 < a0_0) = true := decide_eq_true c6
    clear c6
    have H' := Aside0.mk H
    clear H
    obtain ⟨hcz7_0, hcz7_1, hcz7_2, hcz7_3, hcz7_4, hcz7_5, hcz7_6, hfz7_0, hfz7_1, hfz7_2, hfz7_3, hfz7_4, hfz7_5, hfz7_6⟩ := GS.c7 BK232.out
    go_wp2
    go_meet
    case rel => exact ⟨_, (true), (by first | rfl | (simp; done) | (simp [*]; done)), H', ⟨by first | omega | exact Nat.le_refl _⟩, ⟨GS.bqX BK232.out⟩, ⟨GS.lB HB.out⟩⟩
   ·rw [if_neg c6] at H
    have c6b0 : decide (1073741824 < a0_0) = false := decide_eq_false c6
    clear c6
    by_cases c8 : a0_1 < 1
    ·rw [if_pos c8] at H
     have c8b0 : decide (a0_1 < 1) = true := decide_eq_true c8
     clear c8
     have H' := Aside0.mk H
     clear H
     obtain ⟨hcz9_0, hcz9_1, hcz9_2, hcz9_3, hcz9_4, hcz9_5, hcz9_6, hfz9_0, hfz9_1, hfz9_2, hfz9_3, hfz9_4, hfz9_5, hfz9_6⟩ := GS.c7 BK232.out
     go_wp2
     go_meet
     case rel => exact ⟨_, (true), (by first | rfl | (simp; done) | (simp [*]; done)), H', ⟨by first | omega | exact Nat.le_refl _⟩, ⟨GS.bqX BK232.out⟩, ⟨GS.lB HB.out⟩⟩
    ·rw [if_neg c8] at H
     have c8b0 : decide (a0_1 < 1) = false := decide_eq_false c8
     clear c8
     by_cases c10 : a0_1 > 5
     ·rw [if_pos c10] at H
      have c10b0 : decide (5 < a0_1) = true := decide_eq_true c10
      clear c10
      have H' := Aside0.mk H
      clear H
      obtain ⟨hcz11_0, hcz11_1, hcz11_2, hcz11_3, hcz11_4, hcz11_5, hcz11_6, hfz11_0, hfz11_1, hfz11_2, hfz11_3, hfz11_4, hfz11_5, hfz11_6⟩ := GS.c7 BK232.out
      go_wp2
      go_meet
      case rel => exact ⟨_, (true), (by first | rfl | (simp; done) | (simp [*]; done)), H', ⟨by first | omega | exact Nat.le_refl _⟩, ⟨GS.bqX BK232.out⟩, ⟨GS.lB HB.out⟩⟩
     ·rw [if_neg c10] at H
      have c10b0 : decide (5 < a0_1) = false := decide_eq_false c10
      clear c10
      by_cases c12 : a0_3 < 0
      ·rw [if_pos c12] at H
       have c12b0 : decide (a0_3 < 0) = true := decide_eq_true c12
       clear c12
       have H' := Aside0.mk H
       clear H
       obtain ⟨hcz13_0, hcz13_1, hcz13_2, hcz13_3, hcz13_4, hcz13_5, hcz13_6, hfz13_0, hfz13_1, hfz13_2, hfz13_3, hfz13_4, hfz13_5, hfz13_6⟩ := GS.c7 BK232.out
       go_wp2
       go_meet
       case rel => exact ⟨_, (true), (by first | rfl | (simp; done) | (simp [*]; done)), H', ⟨by first | omega | exact Nat.le_refl _⟩, ⟨GS.bqX BK232.out⟩, ⟨GS.lB HB.out⟩⟩
      ·rw [if_neg c12] at H
       have c12b0 : decide (a0_3 < 0) = false := decide_eq_false c12
       clear c12
       have H' := Aside0.mk H
       clear H
       obtain ⟨hcz14_0, hcz14_1, hcz14_2, hcz14_3, hcz14_4, hcz14_5, hcz14_6, hfz14_0, hfz14_1, hfz14_2, hfz14_3, hfz14_4, hfz14_5, hfz14_6⟩ := GS.c7 BK232.out
       go_wp2
       go_meet
       case rel => exact ⟨_, (decide (a0_3 > 100000)), (by first | rfl | (simp; done) | (simp [*]; done)), H', ⟨by first | omega | exact Nat.le_refl _⟩, ⟨GS.bqX BK232.out⟩, ⟨GS.lB HB.out⟩⟩
 case rest =>
  clear HC2
  try clear c1
  try clear p2
  try clear c4
  try clear c4b0
  try clear c6
  try clear c6b0
  try clear c8
  try clear c8b0
  try clear c10
  try clear c10b0
  try clear c12
  try clear c12b0
  try clear hcz11_0
  try clear hcz11_1
  try clear hcz11_2
  try clear hcz11_3
  try clear hcz11_4
  try clear hcz11_5
  try clear hcz11_6
  try clear hcz13_0
  try clear hcz13_1
  try clear hcz13_2
  try clear hcz13_3
  try clear hcz13_4
  try clear hcz13_5
  try clear hcz13_6
  try clear hcz14_0
  try clear hcz14_1
  try clear hcz14_2
  try clear hcz14_3
  try clear hcz14_4
  try clear hcz14_5
  try clear hcz14_6
  try clear hcz5_0
  try clear hcz5_1
  try clear hcz5_2
  try clear hcz5_3
  try clear hcz5_4
  try clear hcz5_5
  try clear hcz5_6
  try clear hcz7_0
  try clear hcz7_1
  try clear hcz7_2
  try clear hcz7_3
  try clear hcz7_4
  try clear hcz7_5
  try clear hcz7_6
  try clear hcz9_0
  try clear hcz9_1
  try clear hcz9_2
  try clear hcz9_3
  try clear hcz9_4
  try clear hcz9_5
  try clear hcz9_6
  try clear hfz11_0
  try clear hfz11_1
  try clear hfz11_2
  try clear hfz11_3
  try clear hfz11_4
  try clear hfz11_5
  try clear hfz11_6
  try clear hfz13_0
  try clear hfz13_1
  try clear hfz13_2
  try clear hfz13_3
  try clear hfz13_4
  try clear hfz13_5
  try clear hfz13_6
  try clear hfz14_0
  try clear hfz14_1
  try clear hfz14_2
  try clear hfz14_3
  try clear hfz14_4
  try clear hfz14_5
  try clear hfz14_6
  try clear hfz5_0
  try clear hfz5_1
  try clear hfz5_2
  try clear hfz5_3
  try clear hfz5_4
  try clear hfz5_5
  try clear hfz5_6
  try clear hfz7_0
  try clear hfz7_1
  try clear hfz7_2
  try clear hfz7_3
  try clear hfz7_4
  try clear hfz7_5
  try clear hfz7_6
  try clear hfz9_0
  try clear hfz9_1
  try clear hfz9_2
  try clear hfz9_3
  try clear hfz9_4
  try clear hfz9_5
  try clear hfz9_6
  obtain ⟨kq, x31_1, rfl, HA, HJ1, BK232, HB⟩ := hcut
  cases kq with
  | zero => exact absurd HA.out (by simp [spileref40_Check.j0])
  | succ kj1 =>
   have H := HA.out
   clear HA
   simp only [spileref40_Check.j0] at H
   by_cases c15 : x31_1 = true
   ·subst c15
    have H1 : (some 2) = some r := by rw [if_pos rfl] at H; exact H
    clear H
    have H := H1
    clear H1
    obtain rfl := Option.some.inj H
    go_wp2
    go_ret
    exact ⟨by first | rfl | (simp [errW_none, errW_some] <;> rfl) | (simp [*, errW_none, errW_some] <;> rfl), GS.lB HB.out⟩
   ·replace c15 := Bool.eq_false_iff.mpr c15
    subst c15
    have H1 : (if a0_2 = 0 then (if a0_4 = 0 then (spileref40_Check.j1 kj1 (a0_5 == 0) a0_0 a0_1 a0_2 a0_3 a0_4 a0_5 a0_6) else (spileref40_Check.j1 kj1 false a0_0 a0_1 a0_2 a0_3 a0_4 a0_5 a0_6)) else (spileref40_Check.j1 kj1 false a0_0 a0_1 a0_2 a0_3 a0_4 a0_5 a0_6)) = some r := by rw [if_neg (show ¬ (false = true) by decide)] at H; exact H
    clear H
    have H := H1
    clear H1
    have HC16 := Aside0.mk H
    clear H
    go_upto_region 3 with (fail)
    go_cut [3] (fun v3 wc => ∃ (kq : Nat) (x3_15 : Bool), v3 = .bool x3_15 ∧ Aside0 (spileref40_Check.j1 kq x3_15 a0_0 a0_1 a0_2 a0_3 a0_4 a0_5 a0_6 = some r) ∧ Aside0 (kq ≤ kj1) ∧ Aside0 (wc.heap[gb232]? = some (.cells #[.int .i64 a0_0, .int .i64 a0_1, .int .i64 a0_2, .int .i64 a0_3, .int .i64 a0_4, .int .i64 a0_5, .int .i64 a0_6] 26 (0, 0))) ∧ Aside0 (Below w.heap.size w wc))
    case first =>
     have H := HC16.out
     clear HC16
     by_cases c17 : a0_2 = 0
     ·rw [if_pos c17] at H
      have c17b0 : (a0_2 == 0) = true := beq_iff_eq.mpr c17
      try simp only [beq_self_eq_true, Bool.not_true, Bool.false_or, Bool.true_and] at c17b0
      have c17b1 : (a0_2 != 0) = false := bne_eq_false_iff_eq.mpr c17
      clear c17
      (first | rw [c17b0] | (simp only [i64_w, i32_w]; rw [c17b0]) | skip)
      by_cases c18 : a0_4 = 0
      ·rw [if_pos c18] at H
       have c18b0 : (a0_4 == 0) = true := beq_iff_eq.mpr c18
       try simp only [beq_self_eq_true, Bool.not_true, Bool.false_or, Bool.true_and] at c18b0
       have c18b1 : (a0_4 != 0) = false := bne_eq_false_iff_eq.mpr c18
       clear c18
       have H' := Aside0.mk H
       clear H
       obtain ⟨hcz19_0, hcz19_1, hcz19_2, hcz19_3, hcz19_4, hcz19_5, hcz19_6, hfz19_0, hfz19_1, hfz19_2, hfz19_3, hfz19_4, hfz19_5, hfz19_6⟩ := GS.c7 BK232.out
       go_wp2
       go_meet
       case rel => exact ⟨_, ((a0_5 == 0)), (by first | rfl | (simp; done) | (simp [*]; done)), H', ⟨by have := HJ1.out; first | omega | exact Nat.le_refl _⟩, ⟨GS.bqX BK232.out⟩, ⟨GS.lB HB.out⟩⟩
      ·rw [if_neg c18] at H
       have c18b0 : (a0_4 == 0) = false := beq_eq_false_iff_ne.mpr c18
       try simp only [beq_self_eq_true, Bool.not_true, Bool.false_or, Bool.true_and] at c18b0
       have c18b1 : (a0_4 != 0) = true := bne_iff_ne.mpr c18
       have H' := Aside0.mk H
       clear H
       obtain ⟨hcz20_0, hcz20_1, hcz20_2, hcz20_3, hcz20_4, hcz20_5, hcz20_6, hfz20_0, hfz20_1, hfz20_2, hfz20_3, hfz20_4, hfz20_5, hfz20_6⟩ := GS.c7 BK232.out
       go_wp2
       go_meet
       case rel => exact ⟨_, (false), (by first | rfl | (simp; done) | (simp [*]; done)), H', ⟨by have := HJ1.out; first | omega | exact Nat.le_refl _⟩, ⟨GS.bqX BK232.out⟩, ⟨GS.lB HB.out⟩⟩
     ·rw [if_neg c17] at H
      have c17b0 : (a0_2 == 0) = false := beq_eq_false_iff_ne.mpr c17
      try simp only [beq_self_eq_true, Bool.not_true, Bool.false_or, Bool.true_and] at c17b0
      have c17b1 : (a0_2 != 0) = true := bne_iff_ne.mpr c17
      (first | rw [c17b0] | (simp only [i64_w, i32_w]; rw [c17b0]) | skip)
      have H' := Aside0.mk H
      clear H
      obtain ⟨hcz21_0, hcz21_1, hcz21_2, hcz21_3, hcz21_4, hcz21_5, hcz21_6, hfz21_0, hfz21_1, hfz21_2, hfz21_3, hfz21_4, hfz21_5, hfz21_6⟩ := GS.c7 BK232.out
      go_wp2
      go_meet
      case rel => exact ⟨_, (false), (by first | rfl | (simp; done) | (simp [*]; done)), H', ⟨by have := HJ1.out; first | omega | exact Nat.le_refl _⟩, ⟨GS.bqX BK232.out⟩, ⟨GS.lB HB.out⟩⟩
    case rest =>
     clear HC16
     try clear c1
     try clear p2
     try clear c4
     try clear c4b0
     try clear c6
     try clear c6b0
     try clear c8
     try clear c8b0
     try clear c10
     try clear c10b0
     try clear c12
     try clear c12b0
     try clear c15
     try clear c17
     try clear c17b0
     try clear c17b1
     try clear c18
     try clear c18b0
     try clear c18b1
     try clear hcz11_0
     try clear hcz11_1
     try clear hcz11_2
     try clear hcz11_3
     try clear hcz11_4
     try clear hcz11_5
     try clear hcz11_6
     try clear hcz13_0
     try clear hcz13_1
     try clear hcz13_2
     try clear hcz13_3
     try clear hcz13_4
     try clear hcz13_5
     try clear hcz13_6
     try clear hcz14_0
     try clear hcz14_1
     try clear hcz14_2
     try clear hcz14_3
     try clear hcz14_4
     try clear hcz14_5
     try clear hcz14_6
     try clear hcz19_0
     try clear hcz19_1
     try clear hcz19_2
     try clear hcz19_3
     try clear hcz19_4
     try clear hcz19_5
     try clear hcz19_6
     try clear hcz20_0
     try clear hcz20_1
     try clear hcz20_2
     try clear hcz20_3
     try clear hcz20_4
     try clear hcz20_5
     try clear hcz20_6
     try clear hcz21_0
     try clear hcz21_1
     try clear hcz21_2
     try clear hcz21_3
     try clear hcz21_4
     try clear hcz21_5
     try clear hcz21_6
     try clear hcz5_0
     try clear hcz5_1
     try clear hcz5_2
     try clear hcz5_3
     try clear hcz5_4
     try clear hcz5_5
     try clear hcz5_6
     try clear hcz7_0
     try clear hcz7_1
     try clear hcz7_2
     try clear hcz7_3
     try clear hcz7_4
     try clear hcz7_5
     try clear hcz7_6
     try clear hcz9_0
     try clear hcz9_1
     try clear hcz9_2
     try clear hcz9_3
     try clear hcz9_4
     try clear hcz9_5
     try clear hcz9_6
     try clear hfz11_0
     try clear hfz11_1
     try clear hfz11_2
     try clear hfz11_3
     try clear hfz11_4
     try clear hfz11_5
     try clear hfz11_6
     try clear hfz13_0
     try clear hfz13_1
     try clear hfz13_2
     try clear hfz13_3
     try clear hfz13_4
     try clear hfz13_5
     try clear hfz13_6
     try clear hfz14_0
     try clear hfz14_1
     try clear hfz14_2
     try clear hfz14_3
     try clear hfz14_4
     try clear hfz14_5
     try clear hfz14_6
     try clear hfz19_0
     try clear hfz19_1
     try clear hfz19_2
     try clear hfz19_3
     try clear hfz19_4
     try clear hfz19_5
     try clear hfz19_6
     try clear hfz20_0
     try clear hfz20_1
     try clear hfz20_2
     try clear hfz20_3
     try clear hfz20_4
     try clear hfz20_5
     try clear hfz20_6
     try clear hfz21_0
     try clear hfz21_1
     try clear hfz21_2
     try clear hfz21_3
     try clear hfz21_4
     try clear hfz21_5
     try clear hfz21_6
     try clear hfz5_0
     try clear hfz5_1
     try clear hfz5_2
     try clear hfz5_3
     try clear hfz5_4
     try clear hfz5_5
     try clear hfz5_6
     try clear hfz7_0
     try clear hfz7_1
     try clear hfz7_2
     try clear hfz7_3
     try clear hfz7_4
     try clear hfz7_5
     try clear hfz7_6
     try clear hfz9_0
     try clear hfz9_1
     try clear hfz9_2
     try clear hfz9_3
     try clear hfz9_4
     try clear hfz9_5
     try clear hfz9_6
     try clear p2
     obtain ⟨kq, x3_15, rfl, HA, HJ15, BK232, HB⟩ := hcut
     cases kq with
     | zero => exact absurd HA.out (by simp [spileref40_Check.j1])
     | succ kj15 =>
      have H := HA.out
      clear HA
      simp only [spileref40_Check.j1] at H
      have HC22 := Aside0.mk H
      clear H
      obtain ⟨hcz23_0, hcz23_1, hcz23_2, hcz23_3, hcz23_4, hcz23_5, hcz23_6, hfz23_0, hfz23_1, hfz23_2, hfz23_3, hfz23_4, hfz23_5, hfz23_6⟩ := GS.c7 BK232.out
      go_upto_block 0 with (fail)
      go_cut [3] (fun v3 wc => ∃ (kq : Nat) (x3_21 : Bool), v3 = .bool x3_21 ∧ Aside0 (spileref40_Check.j2 kq x3_21 = some r) ∧ Aside0 (kq ≤ kj15) ∧ Aside0 (wc.heap[gb232]? = some (.cells #[.int .i64 a0_0, .int .i64 a0_1, .int .i64 a0_2, .int .i64 a0_3, .int .i64 a0_4, .int .i64 a0_5, .int .i64 a0_6] 26 (0, 0))) ∧ Aside0 (Below w.heap.size w wc))
      case first =>
       have H := HC22.out
       clear HC22
       by_cases c24 : a0_1 = 1
       ·rw [if_pos c24] at H
        have c24b0 : (a0_1 == 1) = true := beq_iff_eq.mpr c24
        try simp only [beq_self_eq_true, Bool.not_true, Bool.false_or, Bool.true_and] at c24b0
        have c24b1 : (a0_1 != 1) = false := bne_eq_false_iff_eq.mpr c24
        clear c24
        (first | rw [c24b0] | (simp only [i64_w, i32_w]; rw [c24b0]) | skip)
        by_cases c25 : a0_2 = 0
        ·rw [if_pos c25] at H
         have c25b0 : (a0_2 == 0) = true := beq_iff_eq.mpr c25
         try simp only [beq_self_eq_true, Bool.not_true, Bool.false_or, Bool.true_and] at c25b0
         have c25b1 : (a0_2 != 0) = false := bne_eq_false_iff_eq.mpr c25
         clear c25
         replace H := Option.bind_eq_some_iff.mp H
         obtain ⟨t233, A260, H⟩ := H
         replace H : (if t233 = true then ((spileref40_Node.f a0_5).bind fun t234 => (if t234 = true then (if a0_4 = a0_5 then (spileref40_Check.j2 kj15 false) else (if a0_6 ≥ 1 then (spileref40_Check.j2 kj15 (decide (a0_6 ≤ 10737418240000))) else (spileref40_Check.j2 kj15 false))) else (spileref40_Check.j2 kj15 false))) else (spileref40_Check.j2 kj15 false)) = some r := H
         have A26 := Aside0.mk A260
         clear A260
         by_cases c27 : t233 = true
         ·subst c27
          have H1 : ((spileref40_Node.f a0_5).bind fun t234 => (if t234 = true then (if a0_4 = a0_5 then (spileref40_Check.j2 kj15 false) else (if a0_6 ≥ 1 then (spileref40_Check.j2 kj15 (decide (a0_6 ≤ 10737418240000))) else (spileref40_Check.j2 kj15 false))) else (spileref40_Check.j2 kj15 false))) = some r := by rw [if_pos rfl] at H; exact H
          clear H
          have H := H1
          clear H1
          replace H := Option.bind_eq_some_iff.mp H
          obtain ⟨t234, A280, H⟩ := H
          replace H : (if t234 = true then (if a0_4 = a0_5 then (spileref40_Check.j2 kj15 false) else (if a0_6 ≥ 1 then (spileref40_Check.j2 kj15 (decide (a0_6 ≤ 10737418240000))) else (spileref40_Check.j2 kj15 false))) else (spileref40_Check.j2 kj15 false)) = some r := H
          have A28 := Aside0.mk A280
          clear A280
          by_cases c29 : t234 = true
          ·subst c29
           have H1 : (if a0_4 = a0_5 then (spileref40_Check.j2 kj15 false) else (if a0_6 ≥ 1 then (spileref40_Check.j2 kj15 (decide (a0_6 ≤ 10737418240000))) else (spileref40_Check.j2 kj15 false))) = some r := by rw [if_pos rfl] at H; exact H
           clear H
           have H := H1
           clear H1
           by_cases c30 : a0_4 = a0_5
           ·rw [if_pos c30] at H
            have c30b0 : (a0_4 == a0_5) = true := beq_iff_eq.mpr c30
            try simp only [beq_self_eq_true, Bool.not_true, Bool.false_or, Bool.true_and] at c30b0
            have c30b1 : (a0_4 != a0_5) = false := bne_eq_false_iff_eq.mpr c30
            clear c30
            have H' := Aside0.mk H
            clear H
            obtain ⟨hcz31_0, hcz31_1, hcz31_2, hcz31_3, hcz31_4, hcz31_5, hcz31_6, hfz31_0, hfz31_1, hfz31_2, hfz31_3, hfz31_4, hfz31_5, hfz31_6⟩ := GS.c7 BK232.out
            go_wp2_with (first | (go_at_call 41; (with_reducible refine (spileref40_Node.calls a0_4 true _ A26.out).mono ?_); rintro e w' ⟨rfl, ⟨nd, rfl⟩⟩) | (go_at_call 41; (with_reducible refine (spileref40_Node.calls a0_5 true _ A28.out).mono ?_); rintro e w' ⟨rfl, ⟨nd, rfl⟩⟩))
            go_meet
            case rel => exact ⟨_, (false), (by first | rfl | (simp; done) | (simp [*]; done)), H', ⟨by have := HJ1.out; have := HJ15.out; first | omega | exact Nat.le_refl _⟩, ⟨GS.bqX BK232.out⟩, ⟨GS.lB HB.out⟩⟩
           ·rw [if_neg c30] at H
            have c30b0 : (a0_4 == a0_5) = false := beq_eq_false_iff_ne.mpr c30
            try simp only [beq_self_eq_true, Bool.not_true, Bool.false_or, Bool.true_and] at c30b0
            have c30b1 : (a0_4 != a0_5) = true := bne_iff_ne.mpr c30
            by_cases c32 : a0_6 ≥ 1
            ·rw [if_pos c32] at H
             have c32b0 : decide (1 ≤ a0_6) = true := decide_eq_true c32
             clear c32
             have H' := Aside0.mk H
             clear H
             obtain ⟨hcz33_0, hcz33_1, hcz33_2, hcz33_3, hcz33_4, hcz33_5, hcz33_6, hfz33_0, hfz33_1, hfz33_2, hfz33_3, hfz33_4, hfz33_5, hfz33_6⟩ := GS.c7 BK232.out
             go_wp2_with (first | (go_at_call 41; (with_reducible refine (spileref40_Node.calls a0_4 true _ A26.out).mono ?_); rintro e w' ⟨rfl, ⟨nd, rfl⟩⟩) | (go_at_call 41; (with_reducible refine (spileref40_Node.calls a0_5 true _ A28.out).mono ?_); rintro e w' ⟨rfl, ⟨nd, rfl⟩⟩))
             go_meet
             case rel => exact ⟨_, (decide (a0_6 ≤ 10737418240000)), (by first | rfl | (simp; done) | (simp [*]; done)), H', ⟨by have := HJ1.out; have := HJ15.out; first | omega | exact Nat.le_refl _⟩, ⟨GS.bqX BK232.out⟩, ⟨GS.lB HB.out⟩⟩
            ·rw [if_neg c32] at H
             have c32b0 : decide (1 ≤ a0_6) = false := decide_eq_false c32
             clear c32
             have H' := Aside0.mk H
             clear H
             obtain ⟨hcz34_0, hcz34_1, hcz34_2, hcz34_3, hcz34_4, hcz34_5, hcz34_6, hfz34_0, hfz34_1, hfz34_2, hfz34_3, hfz34_4, hfz34_5, hfz34_6⟩ := GS.c7 BK232.out
             go_wp2_with (first | (go_at_call 41; (with_reducible refine (spileref40_Node.calls a0_4 true _ A26.out).mono ?_); rintro e w' ⟨rfl, ⟨nd, rfl⟩⟩) | (go_at_call 41; (with_reducible refine (spileref40_Node.calls a0_5 true _ A28.out).mono ?_); rintro e w' ⟨rfl, ⟨nd, rfl⟩⟩))
             go_meet
             case rel => exact ⟨_, (false), (by first | rfl | (simp; done) | (simp [*]; done)), H', ⟨by have := HJ1.out; have := HJ15.out; first | omega | exact Nat.le_refl _⟩, ⟨GS.bqX BK232.out⟩, ⟨GS.lB HB.out⟩⟩
          ·replace c29 := Bool.eq_false_iff.mpr c29
           subst c29
           have H1 : (spileref40_Check.j2 kj15 false) = some r := by rw [if_neg (show ¬ (false = true) by decide)] at H; exact H
           clear H
           have H := H1
           clear H1
           have H' := Aside0.mk H
           clear H
           obtain ⟨hcz35_0, hcz35_1, hcz35_2, hcz35_3, hcz35_4, hcz35_5, hcz35_6, hfz35_0, hfz35_1, hfz35_2, hfz35_3, hfz35_4, hfz35_5, hfz35_6⟩ := GS.c7 BK232.out
           go_wp2_with (first | (go_at_call 41; (with_reducible refine (spileref40_Node.calls a0_4 true _ A26.out).mono ?_); rintro e w' ⟨rfl, ⟨nd, rfl⟩⟩) | (go_at_call 41; (with_reducible refine (spileref40_Node.calls a0_5 false _ A28.out).mono ?_); rintro e w' ⟨rfl, ⟨nd, rfl⟩⟩))
           go_meet
           case rel => exact ⟨_, (false), (by first | rfl | (simp; done) | (simp [*]; done)), H', ⟨by have := HJ1.out; have := HJ15.out; first | omega | exact Nat.le_refl _⟩, ⟨GS.bqX BK232.out⟩, ⟨GS.lB HB.out⟩⟩
         ·replace c27 := Bool.eq_false_iff.mpr c27
          subst c27
          have H1 : (spileref40_Check.j2 kj15 false) = some r := by rw [if_neg (show ¬ (false = true) by decide)] at H; exact H
          clear H
          have H := H1
          clear H1
          have H' := Aside0.mk H
          clear H
          obtain ⟨hcz36_0, hcz36_1, hcz36_2, hcz36_3, hcz36_4, hcz36_5, hcz36_6, hfz36_0, hfz36_1, hfz36_2, hfz36_3, hfz36_4, hfz36_5, hfz36_6⟩ := GS.c7 BK232.out
          go_wp2_with (first | (go_at_call 41; (with_reducible refine (spileref40_Node.calls a0_4 false _ A26.out).mono ?_); rintro e w' ⟨rfl, ⟨nd, rfl⟩⟩))
          go_meet
          case rel => exact ⟨_, (false), (by first | rfl | (simp; done) | (simp [*]; done)), H', ⟨by have := HJ1.out; have := HJ15.out; first | omega | exact Nat.le_refl _⟩, ⟨GS.bqX BK232.out⟩, ⟨GS.lB HB.out⟩⟩
        ·rw [if_neg c25] at H
         have c25b0 : (a0_2 == 0) = false := beq_eq_false_iff_ne.mpr c25
         try simp only [beq_self_eq_true, Bool.not_true, Bool.false_or, Bool.true_and] at c25b0
         have c25b1 : (a0_2 != 0) = true := bne_iff_ne.mpr c25
         have H' := Aside0.mk H
         clear H
         obtain ⟨hcz37_0, hcz37_1, hcz37_2, hcz37_3, hcz37_4, hcz37_5, hcz37_6, hfz37_0, hfz37_1, hfz37_2, hfz37_3, hfz37_4, hfz37_5, hfz37_6⟩ := GS.c7 BK232.out
         go_wp2
         go_meet
         case rel => exact ⟨_, (false), (by first | rfl | (simp; done) | (simp [*]; done)), H', ⟨by have := HJ1.out; have := HJ15.out; first | omega | exact Nat.le_refl _⟩, ⟨GS.bqX BK232.out⟩, ⟨GS.lB HB.out⟩⟩
       ·rw [if_neg c24] at H
        have c24b0 : (a0_1 == 1) = false := beq_eq_false_iff_ne.mpr c24
        try simp only [beq_self_eq_true, Bool.not_true, Bool.false_or, Bool.true_and] at c24b0
        have c24b1 : (a0_1 != 1) = true := bne_iff_ne.mpr c24
        (first | rw [c24b0] | (simp only [i64_w, i32_w]; rw [c24b0]) | skip)
        by_cases c38 : a0_1 = 2
        ·rw [if_pos c38] at H
         have c38b0 : (a0_1 == 2) = true := beq_iff_eq.mpr c38
         try simp only [beq_self_eq_true, Bool.not_true, Bool.false_or, Bool.true_and] at c38b0
         have c38b1 : (a0_1 != 2) = false := bne_eq_false_iff_eq.mpr c38
         clear c38
         by_cases c39 : a0_2 ≥ 1
         ·rw [if_pos c39] at H
          have c39b0 : decide (1 ≤ a0_2) = true := decide_eq_true c39
          clear c39
          by_cases c40 : a0_2 ≤ 64
          ·rw [if_pos c40] at H
           have c40b0 : decide (a0_2 ≤ 64) = true := decide_eq_true c40
           clear c40
           by_cases c41 : a0_4 = 0
           ·rw [if_pos c41] at H
            have c41b0 : (a0_4 == 0) = true := beq_iff_eq.mpr c41
            try simp only [beq_self_eq_true, Bool.not_true, Bool.false_or, Bool.true_and] at c41b0
            have c41b1 : (a0_4 != 0) = false := bne_eq_false_iff_eq.mpr c41
            clear c41
            replace H := Option.bind_eq_some_iff.mp H
            obtain ⟨t235, A420, H⟩ := H
            replace H : (if t235 = true then (spileref40_Check.j2 kj15 (a0_6 == 0)) else (spileref40_Check.j2 kj15 false)) = some r := H
            have A42 := Aside0.mk A420
            clear A420
            by_cases c43 : t235 = true
            ·subst c43
             have H1 : (spileref40_Check.j2 kj15 (a0_6 == 0)) = some r := by rw [if_pos rfl] at H; exact H
             clear H
             have H := H1
             clear H1
             have H' := Aside0.mk H
             clear H
             obtain ⟨hcz44_0, hcz44_1, hcz44_2, hcz44_3, hcz44_4, hcz44_5, hcz44_6, hfz44_0, hfz44_1, hfz44_2, hfz44_3, hfz44_4, hfz44_5, hfz44_6⟩ := GS.c7 BK232.out
             go_wp2_with (first | (go_at_call 41; (with_reducible refine (spileref40_Node.calls a0_5 true _ A42.out).mono ?_); rintro e w' ⟨rfl, ⟨nd, rfl⟩⟩))
             go_meet
             case rel => exact ⟨_, ((a0_6 == 0)), (by first | rfl | (simp; done) | (simp [*]; done)), H', ⟨by have := HJ1.out; have := HJ15.out; first | omega | exact Nat.le_refl _⟩, ⟨GS.bqX BK232.out⟩, ⟨GS.lB HB.out⟩⟩
            ·replace c43 := Bool.eq_false_iff.mpr c43
             subst c43
             have H1 : (spileref40_Check.j2 kj15 false) = some r := by rw [if_neg (show ¬ (false = true) by decide)] at H; exact H
             clear H
             have H := H1
             clear H1
             have H' := Aside0.mk H
             clear H
             obtain ⟨hcz45_0, hcz45_1, hcz45_2, hcz45_3, hcz45_4, hcz45_5, hcz45_6, hfz45_0, hfz45_1, hfz45_2, hfz45_3, hfz45_4, hfz45_5, hfz45_6⟩ := GS.c7 BK232.out
             go_wp2_with (first | (go_at_call 41; (with_reducible refine (spileref40_Node.calls a0_5 false _ A42.out).mono ?_); rintro e w' ⟨rfl, ⟨nd, rfl⟩⟩))
             go_meet
             case rel => exact ⟨_, (false), (by first | rfl | (simp; done) | (simp [*]; done)), H', ⟨by have := HJ1.out; have := HJ15.out; first | omega | exact Nat.le_refl _⟩, ⟨GS.bqX BK232.out⟩, ⟨GS.lB HB.out⟩⟩
           ·rw [if_neg c41] at H
            have c41b0 : (a0_4 == 0) = false := beq_eq_false_iff_ne.mpr c41
            try simp only [beq_self_eq_true, Bool.not_true, Bool.false_or, Bool.true_and] at c41b0
            have c41b1 : (a0_4 != 0) = true := bne_iff_ne.mpr c41
            have H' := Aside0.mk H
            clear H
            obtain ⟨hcz46_0, hcz46_1, hcz46_2, hcz46_3, hcz46_4, hcz46_5, hcz46_6, hfz46_0, hfz46_1, hfz46_2, hfz46_3, hfz46_4, hfz46_5, hfz46_6⟩ := GS.c7 BK232.out
            go_wp2
            go_meet
            case rel => exact ⟨_, (false), (by first | rfl | (simp; done) | (simp [*]; done)), H', ⟨by have := HJ1.out; have := HJ15.out; first | omega | exact Nat.le_refl _⟩, ⟨GS.bqX BK232.out⟩, ⟨GS.lB HB.out⟩⟩
          ·rw [if_neg c40] at H
           have c40b0 : decide (a0_2 ≤ 64) = false := decide_eq_false c40
           clear c40
           have H' := Aside0.mk H
           clear H
           obtain ⟨hcz47_0, hcz47_1, hcz47_2, hcz47_3, hcz47_4, hcz47_5, hcz47_6, hfz47_0, hfz47_1, hfz47_2, hfz47_3, hfz47_4, hfz47_5, hfz47_6⟩ := GS.c7 BK232.out
           go_wp2
           go_meet
           case rel => exact ⟨_, (false), (by first | rfl | (simp; done) | (simp [*]; done)), H', ⟨by have := HJ1.out; have := HJ15.out; first | omega | exact Nat.le_refl _⟩, ⟨GS.bqX BK232.out⟩, ⟨GS.lB HB.out⟩⟩
         ·rw [if_neg c39] at H
          have c39b0 : decide (1 ≤ a0_2) = false := decide_eq_false c39
          clear c39
          have H' := Aside0.mk H
          clear H
          obtain ⟨hcz48_0, hcz48_1, hcz48_2, hcz48_3, hcz48_4, hcz48_5, hcz48_6, hfz48_0, hfz48_1, hfz48_2, hfz48_3, hfz48_4, hfz48_5, hfz48_6⟩ := GS.c7 BK232.out
          go_wp2
          go_meet
          case rel => exact ⟨_, (false), (by first | rfl | (simp; done) | (simp [*]; done)), H', ⟨by have := HJ1.out; have := HJ15.out; first | omega | exact Nat.le_refl _⟩, ⟨GS.bqX BK232.out⟩, ⟨GS.lB HB.out⟩⟩
        ·rw [if_neg c38] at H
         have c38b0 : (a0_1 == 2) = false := beq_eq_false_iff_ne.mpr c38
         try simp only [beq_self_eq_true, Bool.not_true, Bool.false_or, Bool.true_and] at c38b0
         have c38b1 : (a0_1 != 2) = true := bne_iff_ne.mpr c38
         by_cases c49 : a0_1 = 3
         ·rw [if_pos c49] at H
          have c49b0 : (a0_1 == 3) = true := beq_iff_eq.mpr c49
          try simp only [beq_self_eq_true, Bool.not_true, Bool.false_or, Bool.true_and] at c49b0
          have c49b1 : (a0_1 != 3) = false := bne_eq_false_iff_eq.mpr c49
          clear c49
          by_cases c50 : x3_15 = true
          ·subst c50
           have H1 : (if a0_6 ≥ 0 then (spileref40_Check.j2 kj15 (decide (a0_6 ≤ 10737418240000))) else (spileref40_Check.j2 kj15 false)) = some r := by rw [if_pos rfl] at H; exact H
           clear H
           have H := H1
           clear H1
           by_cases c51 : a0_6 ≥ 0
           ·rw [if_pos c51] at H
            have c51b0 : decide (0 ≤ a0_6) = true := decide_eq_true c51
            clear c51
            have H' := Aside0.mk H
            clear H
            obtain ⟨hcz52_0, hcz52_1, hcz52_2, hcz52_3, hcz52_4, hcz52_5, hcz52_6, hfz52_0, hfz52_1, hfz52_2, hfz52_3, hfz52_4, hfz52_5, hfz52_6⟩ := GS.c7 BK232.out
            go_wp2
            go_meet
            case rel => exact ⟨_, (decide (a0_6 ≤ 10737418240000)), (by first | rfl | (simp; done) | (simp [*]; done)), H', ⟨by have := HJ1.out; have := HJ15.out; first | omega | exact Nat.le_refl _⟩, ⟨GS.bqX BK232.out⟩, ⟨GS.lB HB.out⟩⟩
           ·rw [if_neg c51] at H
            have c51b0 : decide (0 ≤ a0_6) = false := decide_eq_false c51
            clear c51
            have H' := Aside0.mk H
            clear H
            obtain ⟨hcz53_0, hcz53_1, hcz53_2, hcz53_3, hcz53_4, hcz53_5, hcz53_6, hfz53_0, hfz53_1, hfz53_2, hfz53_3, hfz53_4, hfz53_5, hfz53_6⟩ := GS.c7 BK232.out
            go_wp2
            go_meet
            case rel => exact ⟨_, (false), (by first | rfl | (simp; done) | (simp [*]; done)), H', ⟨by have := HJ1.out; have := HJ15.out; first | omega | exact Nat.le_refl _⟩, ⟨GS.bqX BK232.out⟩, ⟨GS.lB HB.out⟩⟩
          ·replace c50 := Bool.eq_false_iff.mpr c50
           subst c50
           have H1 : (spileref40_Check.j2 kj15 false) = some r := by rw [if_neg (show ¬ (false = true) by decide)] at H; exact H
           clear H
           have H := H1
           clear H1
           have H' := Aside0.mk H
           clear H
           go_wp2
           go_meet
           case rel => exact ⟨_, (false), (by first | rfl | (simp; done) | (simp [*]; done)), H', ⟨by have := HJ1.out; have := HJ15.out; first | omega | exact Nat.le_refl _⟩, ⟨GS.bqX BK232.out⟩, ⟨GS.lB HB.out⟩⟩
         ·rw [if_neg c49] at H
          have c49b0 : (a0_1 == 3) = false := beq_eq_false_iff_ne.mpr c49
          try simp only [beq_self_eq_true, Bool.not_true, Bool.false_or, Bool.true_and] at c49b0
          have c49b1 : (a0_1 != 3) = true := bne_iff_ne.mpr c49
          by_cases c54 : x3_15 = true
          ·subst c54
           have H1 : (spileref40_Check.j2 kj15 (a0_6 == 0)) = some r := by rw [if_pos rfl] at H; exact H
           clear H
           have H := H1
           clear H1
           have H' := Aside0.mk H
           clear H
           obtain ⟨hcz55_0, hcz55_1, hcz55_2, hcz55_3, hcz55_4, hcz55_5, hcz55_6, hfz55_0, hfz55_1, hfz55_2, hfz55_3, hfz55_4, hfz55_5, hfz55_6⟩ := GS.c7 BK232.out
           go_wp2
           go_meet
           case rel => exact ⟨_, ((a0_6 == 0)), (by first | rfl | (simp; done) | (simp [*]; done)), H', ⟨by have := HJ1.out; have := HJ15.out; first | omega | exact Nat.le_refl _⟩, ⟨GS.bqX BK232.out⟩, ⟨GS.lB HB.out⟩⟩
          ·replace c54 := Bool.eq_false_iff.mpr c54
           subst c54
           have H1 : (spileref40_Check.j2 kj15 false) = some r := by rw [if_neg (show ¬ (false = true) by decide)] at H; exact H
           clear H
           have H := H1
           clear H1
           have H' := Aside0.mk H
           clear H
           go_wp2
           go_meet
           case rel => exact ⟨_, (false), (by first | rfl | (simp; done) | (simp [*]; done)), H', ⟨by have := HJ1.out; have := HJ15.out; first | omega | exact Nat.le_refl _⟩, ⟨GS.bqX BK232.out⟩, ⟨GS.lB HB.out⟩⟩
      case rest =>
       clear HC22
       try clear c1
       try clear c2
       try clear p2
       try clear c3
       try clear c4
       try clear c5
       try clear c6
       try clear c6b0
       try clear c8
       try clear c8b0
       try clear c10
       try clear c10b0
       try clear c12
       try clear c12b0
       try clear c15
       try clear c17
       try clear c17b0
       try clear c17b1
       try clear c18
       try clear c18b0
       try clear c18b1
       try clear c24
       try clear c24b0
       try clear c24b1
       try clear c25
       try clear c25b0
       try clear c25b1
       try clear c27
       try clear c29
       try clear c30
       try clear c30b0
       try clear c30b1
       try clear c32
       try clear c32b0
       try clear c38
       try clear c38b0
       try clear c38b1
       try clear c39
       try clear c39b0
       try clear c40
       try clear c40b0
       try clear c41
       try clear c41b0
       try clear c41b1
       try clear c43
       try clear c49
       try clear c49b0
       try clear c49b1
       try clear c50
       try clear c51
       try clear c51b0
       try clear c54
       try clear hcz11_0
       try clear hcz11_1
       try clear hcz11_2
       try clear hcz11_3
       try clear hcz11_4
       try clear hcz11_5
       try clear hcz11_6
       try clear hcz13_0
       try clear hcz13_1
       try clear hcz13_2
       try clear hcz13_3
       try clear hcz13_4
       try clear hcz13_5
       try clear hcz13_6
       try clear hcz14_0
       try clear hcz14_1
       try clear hcz14_2
       try clear hcz14_3
       try clear hcz14_4
       try clear hcz14_5
       try clear hcz14_6
       try clear hcz19_0
       try clear hcz19_1
       try clear hcz19_2
       try clear hcz19_3
       try clear hcz19_4
       try clear hcz19_5
       try clear hcz19_6
       try clear hcz20_0
       try clear hcz20_1
       try clear hcz20_2
       try clear hcz20_3
       try clear hcz20_4
       try clear hcz20_5
       try clear hcz20_6
       try clear hcz21_0
       try clear hcz21_1
       try clear hcz21_2
       try clear hcz21_3
       try clear hcz21_4
       try clear hcz21_5
       try clear hcz21_6
       try clear hcz23_0
       try clear hcz23_1
       try clear hcz23_2
       try clear hcz23_3
       try clear hcz23_4
       try clear hcz23_5
       try clear hcz23_6
       try clear hcz31_0
       try clear hcz31_1
       try clear hcz31_2
       try clear hcz31_3
       try clear hcz31_4
       try clear hcz31_5
       try clear hcz31_6
       try clear hcz33_0
       try clear hcz33_1
       try clear hcz33_2
       try clear hcz33_3
       try clear hcz33_4
       try clear hcz33_5
       try clear hcz33_6
       try clear hcz34_0
       try clear hcz34_1
       try clear hcz34_2
       try clear hcz34_3
       try clear hcz34_4
       try clear hcz34_5
       try clear hcz34_6
       try clear hcz35_0
       try clear hcz35_1
       try clear hcz35_2
       try clear hcz35_3
       try clear hcz35_4
       try clear hcz35_5
       try clear hcz35_6
       try clear hcz36_0
       try clear hcz36_1
       try clear hcz36_2
       try clear hcz36_3
       try clear hcz36_4
       try clear hcz36_5
       try clear hcz36_6
       try clear hcz37_0
       try clear hcz37_1
       try clear hcz37_2
       try clear hcz37_3
       try clear hcz37_4
       try clear hcz37_5
       try clear hcz37_6
       try clear hcz44_0
       try clear hcz44_1
       try clear hcz44_2
       try clear hcz44_3
       try clear hcz44_4
       try clear hcz44_5
       try clear hcz44_6
       try clear hcz45_0
       try clear hcz45_1
       try clear hcz45_2
       try clear hcz45_3
       try clear hcz45_4
       try clear hcz45_5
       try clear hcz45_6
       try clear hcz46_0
       try clear hcz46_1
       try clear hcz46_2
       try clear hcz46_3
       try clear hcz46_4
       try clear hcz46_5
       try clear hcz46_6
       try clear hcz47_0
       try clear hcz47_1
       try clear hcz47_2
       try clear hcz47_3
       try clear hcz47_4
       try clear hcz47_5
       try clear hcz47_6
       try clear hcz48_0
       try clear hcz48_1
       try clear hcz48_2
       try clear hcz48_3
       try clear hcz48_4
       try clear hcz48_5
       try clear hcz48_6
       try clear hcz52_0
       try clear hcz52_1
       try clear hcz52_2
       try clear hcz52_3
       try clear hcz52_4
       try clear hcz52_5
       try clear hcz52_6
       try clear hcz53_0
       try clear hcz53_1
       try clear hcz53_2
       try clear hcz53_3
       try clear hcz53_4
       try clear hcz53_5
       try clear hcz53_6
       try clear hcz55_0
       try clear hcz55_1
       try clear hcz55_2
       try clear hcz55_3
       try clear hcz55_4
       try clear hcz55_5
       try clear hcz55_6
       try clear hcz5_0
       try clear hcz5_1
       try clear hcz5_2
       try clear hcz5_3
       try clear hcz5_4
       try clear hcz5_5
       try clear hcz5_6
       try clear hcz7_0
       try clear hcz7_1
       try clear hcz7_2
       try clear hcz7_3
       try clear hcz7_4
       try clear hcz7_5
       try clear hcz7_6
       try clear hcz9_0
       try clear hcz9_1
       try clear hcz9_2
       try clear hcz9_3
       try clear hcz9_4
       try clear hcz9_5
       try clear hcz9_6
       try clear hfz11_0
       try clear hfz11_1
       try clear hfz11_2
       try clear hfz11_3
       try clear hfz11_4
       try clear hfz11_5
       try clear hfz11_6
       try clear hfz13_0
       try clear hfz13_1
       try clear hfz13_2
       try clear hfz13_3
       try clear hfz13_4
       try clear hfz13_5
       try clear hfz13_6
       try clear hfz14_0
       try clear hfz14_1
       try clear hfz14_2
       try clear hfz14_3
       try clear hfz14_4
       try clear hfz14_5
       try clear hfz14_6
       try clear hfz19_0
       try clear hfz19_1
       try clear hfz19_2
       try clear hfz19_3
       try clear hfz19_4
       try clear hfz19_5
       try clear hfz19_6
       try clear hfz20_0
       try clear hfz20_1
       try clear hfz20_2
       try clear hfz20_3
       try clear hfz20_4
       try clear hfz20_5
       try clear hfz20_6
       try clear hfz21_0
       try clear hfz21_1
       try clear hfz21_2
       try clear hfz21_3
       try clear hfz21_4
       try clear hfz21_5
       try clear hfz21_6
       try clear hfz23_0
       try clear hfz23_1
       try clear hfz23_2
       try clear hfz23_3
       try clear hfz23_4
       try clear hfz23_5
       try clear hfz23_6
       try clear hfz31_0
       try clear hfz31_1
       try clear hfz31_2
       try clear hfz31_3
       try clear hfz31_4
       try clear hfz31_5
       try clear hfz31_6
       try clear hfz33_0
       try clear hfz33_1
       try clear hfz33_2
       try clear hfz33_3
       try clear hfz33_4
       try clear hfz33_5
       try clear hfz33_6
       try clear hfz34_0
       try clear hfz34_1
       try clear hfz34_2
       try clear hfz34_3
       try clear hfz34_4
       try clear hfz34_5
       try clear hfz34_6
       try clear hfz35_0
       try clear hfz35_1
       try clear hfz35_2
       try clear hfz35_3
       try clear hfz35_4
       try clear hfz35_5
       try clear hfz35_6
       try clear hfz36_0
       try clear hfz36_1
       try clear hfz36_2
       try clear hfz36_3
       try clear hfz36_4
       try clear hfz36_5
       try clear hfz36_6
       try clear hfz37_0
       try clear hfz37_1
       try clear hfz37_2
       try clear hfz37_3
       try clear hfz37_4
       try clear hfz37_5
       try clear hfz37_6
       try clear hfz44_0
       try clear hfz44_1
       try clear hfz44_2
       try clear hfz44_3
       try clear hfz44_4
       try clear hfz44_5
       try clear hfz44_6
       try clear hfz45_0
       try clear hfz45_1
       try clear hfz45_2
       try clear hfz45_3
       try clear hfz45_4
       try clear hfz45_5
       try clear hfz45_6
       try clear hfz46_0
       try clear hfz46_1
       try clear hfz46_2
       try clear hfz46_3
       try clear hfz46_4
       try clear hfz46_5
       try clear hfz46_6
       try clear hfz47_0
       try clear hfz47_1
       try clear hfz47_2
       try clear hfz47_3
       try clear hfz47_4
       try clear hfz47_5
       try clear hfz47_6
       try clear hfz48_0
       try clear hfz48_1
       try clear hfz48_2
       try clear hfz48_3
       try clear hfz48_4
       try clear hfz48_5
       try clear hfz48_6
       try clear hfz52_0
       try clear hfz52_1
       try clear hfz52_2
       try clear hfz52_3
       try clear hfz52_4
       try clear hfz52_5
       try clear hfz52_6
       try clear hfz53_0
       try clear hfz53_1
       try clear hfz53_2
       try clear hfz53_3
       try clear hfz53_4
       try clear hfz53_5
       try clear hfz53_6
       try clear hfz55_0
       try clear hfz55_1
       try clear hfz55_2
       try clear hfz55_3
       try clear hfz55_4
       try clear hfz55_5
       try clear hfz55_6
       try clear hfz5_0
       try clear hfz5_1
       try clear hfz5_2
       try clear hfz5_3
       try clear hfz5_4
       try clear hfz5_5
       try clear hfz5_6
       try clear hfz7_0
       try clear hfz7_1
       try clear hfz7_2
       try clear hfz7_3
       try clear hfz7_4
       try clear hfz7_5
       try clear hfz7_6
       try clear hfz9_0
       try clear hfz9_1
       try clear hfz9_2
       try clear hfz9_3
       try clear hfz9_4
       try clear hfz9_5
       try clear hfz9_6
       try clear p2
       obtain ⟨kq, x3_21, rfl, HA, HJ21, BK232, HB⟩ := hcut
       cases kq with
       | zero => exact absurd HA.out (by simp [spileref40_Check.j2])
       | succ kj21 =>
        have H := HA.out
        clear HA
        simp only [spileref40_Check.j2] at H
        by_cases c56 : x3_21 = true
        ·subst c56
         have H1 : (some 0) = some r := by rw [if_pos rfl] at H; exact H
         clear H
         have H := H1
         clear H1
         obtain rfl := Option.some.inj H
         go_wp2
         go_ret
         exact ⟨by first | rfl | (simp [errW_none, errW_some] <;> rfl) | (simp [*, errW_none, errW_some] <;> rfl), GS.lB HB.out⟩
        ·replace c56 := Bool.eq_false_iff.mpr c56
         subst c56
         have H1 : (some 1) = some r := by rw [if_neg (show ¬ (false = true) by decide)] at H; exact H
         clear H
         have H := H1
         clear H1
         obtain rfl := Option.some.inj H
         go_wp2
         go_ret
         exact ⟨by first | rfl | (simp [errW_none, errW_some] <;> rfl) | (simp [*, errW_none, errW_some] <;> rfl), GS.lB HB.out⟩

end Go.Proofs.Ytfafeeobjlkjnaa.K
