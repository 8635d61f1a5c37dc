-- PRINTED by print.py (a twelfth state) out of the translation. Not trusted: Lean checks it.
import Derived.Test.YtfafeeobjlkjnaaK0
import Derived.Test.YtfafeeobjlkjnaaGShort
import Derived.Test.YtfafeeobjlkjnaaK1
import Derived.Test.YtfafeeobjlkjnaaK3
namespace Go.Proofs.Ytfafeeobjlkjnaa.K
open Go.RowKit Go.Proofs.YtfafeeobjlkjnaaW.PrintWords Go.Proofs.YtfafeeobjlkjnaaW.PrintLast Go.Proofs.YtfafeeobjlkjnaaW.PrintMore
attribute [local go_sem] max2_int min2_int max_two min_two max_three min_three max_four min_four   -- for this text's walks alone
set_option linter.unusedVariables false
set_option linter.unusedSimpArgs false

attribute [local go_sem high] eqA26
/-! ### document_Check: function 42 -/
mutual
def document_Check.j0 : Nat → Bool → Int → Int → Int → Int → Int → Int → Int → Option (Int)
 | 0, _, _, _, _, _, _, _, _ => none
 | k + 1, x32, x104000, x104001, x104002, x104003, x104004, x104005, x104006 => if x32 = true then (some 2) else (if x104001 = 1 then ((document_node.f x104004).bind fun t105 => (if t105 = true then ((document_node.f x104005).bind fun t106 => (if t106 = true then (if x104004 = x104005 then (document_Check.j1 k false x104000 x104001 x104002 x104003 x104004 x104005 x104006 x104000 x104001 0 x104003 x104004 x104005 x104006) else (if x104006 ≥ 1 then (document_Check.j1 k (decide (x104006 ≤ 10737418240000)) x104000 x104001 x104002 x104003 x104004 x104005 x104006 x104000 x104001 0 x104003 x104004 x104005 x104006) else (document_Check.j1 k false x104000 x104001 x104002 x104003 x104004 x104005 x104006 x104000 x104001 0 x104003 x104004 x104005 x104006))) else (document_Check.j1 k false x104000 x104001 x104002 x104003 x104004 x104005 x104006 x104000 x104001 0 x104003 x104004 x104005 x104006))) else (document_Check.j1 k false x104000 x104001 x104002 x104003 x104004 x104005 x104006 x104000 x104001 0 x104003 x104004 x104005 x104006))) else (if x104001 = 2 then (if x104002 ≥ 1 then (if x104002 ≤ 64 then ((document_node.f x104005).bind fun t107 => (document_Check.j1 k t107 x104000 x104001 x104002 x104003 x104004 x104005 x104006 x104000 x104001 x104002 x104003 0 x104005 0)) else (document_Check.j1 k false x104000 x104001 x104002 x104003 x104004 x104005 x104006 x104000 x104001 x104002 x104003 0 x104005 0)) else (document_Check.j1 k false x104000 x104001 x104002 x104003 x104004 x104005 x104006 x104000 x104001 x104002 x104003 0 x104005 0)) else (if x104001 = 3 then (if x104006 ≥ 0 then (document_Check.j1 k (decide (x104006 ≤ 10737418240000)) x104000 x104001 x104002 x104003 x104004 x104005 x104006 x104000 x104001 0 x104003 0 0 x104006) else (document_Check.j1 k false x104000 x104001 x104002 x104003 x104004 x104005 x104006 x104000 x104001 0 x104003 0 0 x104006)) else (document_Check.j1 k true x104000 x104001 x104002 x104003 x104004 x104005 x104006 x104000 x104001 0 x104003 0 0 0))))
def document_Check.j1 : Nat → Bool → Int → Int → Int → Int → Int → Int → Int → Int → Int → Int → Int → Int → Int → Int → Option (Int)
 | 0, _, _, _, _, _, _, _, _, _, _, _, _, _, _, _ => none
 | k + 1, x4, x104000, x104001, x104002, x104003, x104004, x104005, x104006, x105000, x105001, x105002, x105003, x105004, x105005, x105006 => if x4 = true then (if (!(x104000 == x105000) || (!(x104001 == x105001) || (!(x104002 == x105002) || (!(x104003 == x105003) || (!(x104004 == x105004) || (!(x104005 == x105005) || (!(x104006 == x105006)))))))) = true then (some 1) else (some 0)) else (some 1)
end
def document_Check.f (k : Nat) (a0_0 : Int) (a0_1 : Int) (a0_2 : Int) (a0_3 : Int) (a0_4 : Int) (a0_5 : Int) (a0_6 : Int) : Option (Int) := if a0_0 < 1 then (document_Check.j0 k true a0_0 a0_1 a0_2 a0_3 a0_4 a0_5 a0_6) else (if a0_0 > 1073741824 then (document_Check.j0 k true a0_0 a0_1 a0_2 a0_3 a0_4 a0_5 a0_6) else (if a0_1 < 1 then (document_Check.j0 k true a0_0 a0_1 a0_2 a0_3 a0_4 a0_5 a0_6) else (if a0_1 > 5 then (document_Check.j0 k true a0_0 a0_1 a0_2 a0_3 a0_4 a0_5 a0_6) else (if a0_3 < 0 then (document_Check.j0 k true a0_0 a0_1 a0_2 a0_3 a0_4 a0_5 a0_6) else (document_Check.j0 k (decide (a0_3 > 100000)) a0_0 a0_1 a0_2 a0_3 a0_4 a0_5 a0_6)))))
theorem document_Check.mono_l : ∀ k, (∀ y0 y1 y2 y3 y4 y5 y6 y7, LeO (document_Check.j0 k y0 y1 y2 y3 y4 y5 y6 y7) (document_Check.j0 (k + 1) y0 y1 y2 y3 y4 y5 y6 y7)) ∧ (∀ y0 y1 y2 y3 y4 y5 y6 y7 y8 y9 y10 y11 y12 y13 y14, LeO (document_Check.j1 k y0 y1 y2 y3 y4 y5 y6 y7 y8 y9 y10 y11 y12 y13 y14) (document_Check.j1 (k + 1) y0 y1 y2 y3 y4 y5 y6 y7 y8 y9 y10 y11 y12 y13 y14))
 | 0 => ⟨fun _ _ _ _ _ _ _ _ r h => by simp [document_Check.j0] at h, fun _ _ _ _ _ _ _ _ _ _ _ _ _ _ _ r h => by simp [document_Check.j1] at h⟩
 | k + 1 => by
  obtain ⟨ih0, ih1⟩ := document_Check.mono_l k
  refine ⟨?_, ?_⟩
  ·intro y0 y1 y2 y3 y4 y5 y6 y7
   unfold document_Check.j0
   repeat' first
   | (with_reducible exact ih0 _ _ _ _ _ _ _ _)
   | (with_reducible exact ih1 _ _ _ _ _ _ _ _ _ _ _ _ _ _ _)
   | (with_reducible exact LeO.refl _)
   | (with_reducible exact LeO.none _)
   | (with_reducible refine LeO.ite ?_ ?_)
   | (with_reducible refine LeO.bind ?_ (fun _ => ?_))
   | exact ih0 _ _ _ _ _ _ _ _
   | exact ih1 _ _ _ _ _ _ _ _ _ _ _ _ _ _ _
   | exact LeO.none _
   | refine LeO.ite ?_ ?_
   | refine LeO.bind ?_ (fun _ => ?_)
  ·intro y0 y1 y2 y3 y4 y5 y6 y7 y8 y9 y10 y11 y12 y13 y14
   unfold document_Check.j1
   repeat' first
   | (with_reducible exact ih0 _ _ _ _ _ _ _ _)
   | (with_reducible exact ih1 _ _ _ _ _ _ _ _ _ _ _ _ _ _ _)
   | (with_reducible exact LeO.refl _)
   | (with_reducible exact LeO.none _)
   | (with_reducible refine LeO.ite ?_ ?_)
   | (with_reducible refine LeO.bind ?_ (fun _ => ?_))
   | exact ih0 _ _ _ _ _ _ _ _
   | exact ih1 _ _ _ _ _ _ _ _ _ _ _ _ _ _ _
   | exact LeO.none _
   | refine LeO.ite ?_ ?_
   | refine LeO.bind ?_ (fun _ => ?_)
theorem document_Check.mono : ∀ a0 a1 a2 a3 a4 a5 a6 k, LeO (document_Check.f k a0 a1 a2 a3 a4 a5 a6) (document_Check.f (k + 1) a0 a1 a2 a3 a4 a5 a6) := by
 intro a0 a1 a2 a3 a4 a5 a6 k
 obtain ⟨ih0, ih1⟩ := document_Check.mono_l k
 unfold document_Check.f
 repeat' first
   | (with_reducible exact ih0 _ _ _ _ _ _ _ _)
   | (with_reducible exact ih1 _ _ _ _ _ _ _ _ _ _ _ _ _ _ _)
   | (with_reducible exact LeO.refl _)
   | (with_reducible exact LeO.none _)
   | (with_reducible refine LeO.ite ?_ ?_)
   | (with_reducible refine LeO.bind ?_ (fun _ => ?_))
   | exact ih0 _ _ _ _ _ _ _ _
   | exact ih1 _ _ _ _ _ _ _ _ _ _ _ _ _ _ _
   | exact LeO.none _
   | refine LeO.ite ?_ ?_
   | refine LeO.bind ?_ (fun _ => ?_)
def document_Check.T7 : Bool × List (List Nat × List Nat) := (true, [([], []), ([0], [0]), ([], []), ([2], [2]), ([], []), ([4], [4]), ([0, 1], []), ([6, 1, 0, 1], [1, 6]), ([0, 1, 2, 3, 6, 7], []), ([8, 3, 7, 0, 1, 2, 3, 6, 7], [3, 8]), ([0, 1, 2, 3, 4, 5, 6, 7, 8, 9], []), ([10, 5, 9, 0, 1, 2, 3, 4, 5, 6, 7, 8, 9], [5, 10])])
def document_Check.B7 : List Nat := [0, 1, 0, 4, 0, 16, 3, 67, 207, 463, 1023, 2047]
theorem document_Check.tab7 : rtab .any (opsOf Try.f42 7) = document_Check.T7 := by kernel_rfl
theorem document_Check.bits7 : waitsOk document_Check.T7.2 document_Check.B7 = true := by kernel_rfl
def document_Check.T10 : Bool × List (List Nat × List Nat) := (true, [([], []), ([0], [0]), ([], []), ([2], [2]), ([0, 1], []), ([4, 1, 0, 1], [1, 4]), ([0, 1, 2, 3, 4, 5], []), ([6, 3, 5, 0, 1, 2, 3, 4, 5], [3, 6])])
def document_Check.B10 : List Nat := [0, 1, 0, 4, 3, 19, 63, 127]
theorem document_Check.tab10 : rtab .any (opsOf Try.f42 10) = document_Check.T10 := by kernel_rfl
theorem document_Check.bits10 : waitsOk document_Check.T10.2 document_Check.B10 = true := by kernel_rfl
set_option maxHeartbeats 8000000 in
set_option maxRecDepth 100000 in
theorem document_Check.calls (k : Nat) (a0_0 : Int) (a0_1 : Int) (a0_2 : Int) (a0_3 : Int) (a0_4 : Int) (a0_5 : Int) (a0_6 : Int) (r : Int) (w : World) (h : document_Check.f k a0_0 a0_1 a0_2 a0_3 a0_4 a0_5 a0_6 = some r) :
  Calls Try.prog 42 #[.agg #[.int .i64 a0_0, .int .i64 a0_1, .int .i64 a0_2, .int .i64 a0_3, .int .i64 a0_4, .int .i64 a0_5, .int .i64 a0_6]] w fun e w' => e = .returned (.int .i64 r) ∧ Below w.heap.size w w' := by
 have hu26 := Try.underlying26
 have HB := Aside0.mk (Below.refl w.heap.size w)
 have H : (if a0_0 < 1 then (document_Check.j0 k true a0_0 a0_1 a0_2 a0_3 a0_4 a0_5 a0_6) else (if a0_0 > 1073741824 then (document_Check.j0 k true a0_0 a0_1 a0_2 a0_3 a0_4 a0_5 a0_6) else (if a0_1 < 1 then (document_Check.j0 k true a0_0 a0_1 a0_2 a0_3 a0_4 a0_5 a0_6) else (if a0_1 > 5 then (document_Check.j0 k true a0_0 a0_1 a0_2 a0_3 a0_4 a0_5 a0_6) else (if a0_3 < 0 then (document_Check.j0 k true a0_0 a0_1 a0_2 a0_3 a0_4 a0_5 a0_6) else (document_Check.j0 k (decide (a0_3 > 100000)) a0_0 a0_1 a0_2 a0_3 a0_4 a0_5 a0_6)))))) = some r := h
 clear h
 have HC2 := Aside0.mk H
 clear H
 go_enter Try.func42, Try.ntmps42
 go_upto_region 1 with (first | ((with_reducible refine gqD (N := 1) rfl ?_); refine GS.bx (N := 1) (cs := #[.int .i64 a0_0, .int .i64 a0_1, .int .i64 a0_2, .int .i64 a0_3, .int .i64 a0_4, .int .i64 a0_5, .int .i64 a0_6]) (t := 26) ?_; intro gb103 hg w3 hbox hb; have n0_ := Aside0.mk (lqT (GS.lB HB.out) hb); have n1_ := Aside0.mk (hbox); have n2_ := Aside0.mk ((by rw [hg]; exact (lqZ (GS.lB HB.out)) : w.heap.size ≤ gb103)); have n3_ := Aside0.mk ((by rw [hg]; exact (lqZ (GS.lB HB.out)) : w.heap.size ≤ gb103)); clear HB; have HB := n0_; have BK103 := n1_; have GW103 := n2_; have GE103 := n3_; clear n0_ n1_ n2_ n3_; clear hb hbox hg))
 (try simp only [Act.put, List.setIfInBounds_toArray, List.set_cons_zero, List.set_cons_succ])
 go_cut [32] (fun v32 wc => ∃ (kq : Nat) (x32_1 : Bool), v32 = .bool x32_1 ∧ Aside0 (document_Check.j0 kq x32_1 a0_0 a0_1 a0_2 a0_3 a0_4 a0_5 a0_6 = some r) ∧ Aside0 (kq ≤ k) ∧ Aside0 (wc.heap[gb103]? = some (.cells #[.int .i64 a0_0, .int .i64 a0_1, .int .i64 a0_2, .int .i64 a0_3, .int .i64 a0_4, .int .i64 a0_5, .int .i64 a0_6] 26 (0, 0))) ∧ Aside0 (Below w.heap.size w wc))
 case first =>
  have H := HC2.out
  clear HC2
  by_cases c4 : a0_0 < 1
  ·rw [if_pos c4] at H
   have c4b0 : decide (a0_0 < 1) = true := decide_eq_true c4
   clear c4
   (first | rw [c4b0] | (simp only [i64_w, i32_w]; rw [c4b0]) | skip)
   have H' := Aside0.mk H
   clear H
   obtain ⟨hcz5_0, hcz5_1, hcz5_2, hcz5_3, hcz5_4, hcz5_5, hcz5_6, hfz5_0, hfz5_1, hfz5_2, hfz5_3, hfz5_4, hfz5_5, hfz5_6⟩ := GS.c7 BK103.out
   go_wp2
   go_meet
   case rel => exact ⟨_, (true), (by first | rfl | (simp; done) | (simp [*]; done)), H', ⟨by first | omega | exact Nat.le_refl _⟩, ⟨GS.bqX BK103.out⟩, ⟨GS.lB HB.out⟩⟩
  ·rw [if_neg c4] at H
   have c4b0 : decide (a0_0 < 1) = false := decide_eq_false c4
   clear c4
   (first | rw [c4b0] | (simp only [i64_w, i32_w]; rw [c4b0]) | skip)
   by_cases c6 : a0_0 > 1073741824
   ·rw [if_pos c6] at H
    have c6b0 : decide (1073741824 < a0_0) = true := decide_eq_true c6
    clear c6
    have H' := Aside0.mk H
    clear H
    obtain ⟨hcz7_0, hcz7_1, hcz7_2, hcz7_3, hcz7_4, hcz7_5, hcz7_6, hfz7_0, hfz7_1, hfz7_2, hfz7_3, hfz7_4, hfz7_5, hfz7_6⟩ := GS.c7 BK103.out
    go_wp2
    go_meet
    case rel => exact ⟨_, (true), (by first | rfl | (simp; done) | (simp [*]; done)), H', ⟨by first | omega | exact Nat.le_refl _⟩, ⟨GS.bqX BK103.out⟩, ⟨GS.lB HB.out⟩⟩
   ·rw [if_neg c6] at H
    have c6b0 : decide (1073741824 < a0_0) = false := decide_eq_false c6
    clear c6
    by_cases c8 : a0_1 < 1
    ·rw [if_pos c8] at H
     have c8b0 : decide (a0_1 < 1) = true := decide_eq_true c8
     clear c8
     have H' := Aside0.mk H
     clear H
     obtain ⟨hcz9_0, hcz9_1, hcz9_2, hcz9_3, hcz9_4, hcz9_5, hcz9_6, hfz9_0, hfz9_1, hfz9_2, hfz9_3, hfz9_4, hfz9_5, hfz9_6⟩ := GS.c7 BK103.out
     go_wp2
     go_meet
     case rel => exact ⟨_, (true), (by first | rfl | (simp; done) | (simp [*]; done)), H', ⟨by first | omega | exact Nat.le_refl _⟩, ⟨GS.bqX BK103.out⟩, ⟨GS.lB HB.out⟩⟩
    ·rw [if_neg c8] at H
     have c8b0 : decide (a0_1 < 1) = false := decide_eq_false c8
     clear c8
     by_cases c10 : a0_1 > 5
     ·rw [if_pos c10] at H
      have c10b0 : decide (5 < a0_1) = true := decide_eq_true c10
      clear c10
      have H' := Aside0.mk H
      clear H
      obtain ⟨hcz11_0, hcz11_1, hcz11_2, hcz11_3, hcz11_4, hcz11_5, hcz11_6, hfz11_0, hfz11_1, hfz11_2, hfz11_3, hfz11_4, hfz11_5, hfz11_6⟩ := GS.c7 BK103.out
      go_wp2
      go_meet
      case rel => exact ⟨_, (true), (by first | rfl | (simp; done) | (simp [*]; done)), H', ⟨by first | omega | exact Nat.le_refl _⟩, ⟨GS.bqX BK103.out⟩, ⟨GS.lB HB.out⟩⟩
     ·rw [if_neg c10] at H
      have c10b0 : decide (5 < a0_1) = false := decide_eq_false c10
      clear c10
      by_cases c12 : a0_3 < 0
      ·rw [if_pos c12] at H
       have c12b0 : decide (a0_3 < 0) = true := decide_eq_true c12
       clear c12
       have H' := Aside0.mk H
       clear H
       obtain ⟨hcz13_0, hcz13_1, hcz13_2, hcz13_3, hcz13_4, hcz13_5, hcz13_6, hfz13_0, hfz13_1, hfz13_2, hfz13_3, hfz13_4, hfz13_5, hfz13_6⟩ := GS.c7 BK103.out
       go_wp2
       go_meet
       case rel => exact ⟨_, (true), (by first | rfl | (simp; done) | (simp [*]; done)), H', ⟨by first | omega | exact Nat.le_refl _⟩, ⟨GS.bqX BK103.out⟩, ⟨GS.lB HB.out⟩⟩
      ·rw [if_neg c12] at H
       have c12b0 : decide (a0_3 < 0) = false := decide_eq_false c12
       clear c12
       have H' := Aside0.mk H
       clear H
       obtain ⟨hcz14_0, hcz14_1, hcz14_2, hcz14_3, hcz14_4, hcz14_5, hcz14_6, hfz14_0, hfz14_1, hfz14_2, hfz14_3, hfz14_4, hfz14_5, hfz14_6⟩ := GS.c7 BK103.out
       go_wp2
       go_meet
       case rel => exact ⟨_, (decide (a0_3 > 100000)), (by first | rfl | (simp; done) | (simp [*]; done)), H', ⟨by first | omega | exact Nat.le_refl _⟩, ⟨GS.bqX BK103.out⟩, ⟨GS.lB HB.out⟩⟩
 case rest =>
  clear HC2
  try clear c1
  try clear p2
  try clear c4
  try clear c4b0
  try clear c6
  try clear c6b0
  try clear c8
  try clear c8b0
  try clear c10
  try clear c10b0
  try clear c12
  try clear c12b0
  try clear hcz11_0
  try clear hcz11_1
  try clear hcz11_2
  try clear hcz11_3
  try clear hcz11_4
  try clear hcz11_5
  try clear hcz11_6
  try clear hcz13_0
  try clear hcz13_1
  try clear hcz13_2
  try clear hcz13_3
  try clear hcz13_4
  try clear hcz13_5
  try clear hcz13_6
  try clear hcz14_0
  try clear hcz14_1
  try clear hcz14_2
  try clear hcz14_3
  try clear hcz14_4
  try clear hcz14_5
  try clear hcz14_6
  try clear hcz5_0
  try clear hcz5_1
  try clear hcz5_2
  try clear hcz5_3
  try clear hcz5_4
  try clear hcz5_5
  try clear hcz5_6
  try clear hcz7_0
  try clear hcz7_1
  try clear hcz7_2
  try clear hcz7_3
  try clear hcz7_4
  try clear hcz7_5
  try clear hcz7_6
  try clear hcz9_0
  try clear hcz9_1
  try clear hcz9_2
  try clear hcz9_3
  try clear hcz9_4
  try clear hcz9_5
  try clear hcz9_6
  try clear hfz11_0
  try clear hfz11_1
  try clear hfz11_2
  try clear hfz11_3
  try clear hfz11_4
  try clear hfz11_5
  try clear hfz11_6
  try clear hfz13_0
  try clear hfz13_1
  try clear hfz13_2
  try clear hfz13_3
  try clear hfz13_4
  try clear hfz13_5
  try clear hfz13_6
  try clear hfz14_0
  try clear hfz14_1
  try clear hfz14_2
  try clear hfz14_3
  try clear hfz14_4
  try clear hfz14_5
  try clear hfz14_6
  try clear hfz5_0
  try clear hfz5_1
  try clear hfz5_2
  try clear hfz5_3
  try clear hfz5_4
  try clear hfz5_5
  try clear hfz5_6
  try clear hfz7_0
  try clear hfz7_1
  try clear hfz7_2
  try clear hfz7_3
  try clear hfz7_4
  try clear hfz7_5
  try clear hfz7_6
  try clear hfz9_0
  try clear hfz9_1
  try clear hfz9_2
  try clear hfz9_3
  try clear hfz9_4
  try clear hfz9_5
  try clear hfz9_6
  obtain ⟨kq, x32_1, rfl, HA, HJ1, BK103, HB⟩ := hcut
  cases kq with
  | zero => exact absurd HA.out (by simp [document_Check.j0])
  | succ kj1 =>
   have H := HA.out
   clear HA
   simp only [document_Check.j0] at H
   by_cases c15 : x32_1 = true
   ·subst c15
    have H1 : (some 2) = some r := by rw [if_pos rfl] at H; exact H
    clear H
    have H := H1
    clear H1
    obtain rfl := Option.some.inj H
    go_wp2
    go_ret
    exact ⟨by first | rfl | (simp [errW_none, errW_some] <;> rfl) | (simp [*, errW_none, errW_some] <;> rfl), GS.lB HB.out⟩
   ·replace c15 := Bool.eq_false_iff.mpr c15
    subst c15
    have H1 : (if a0_1 = 1 then ((document_node.f a0_4).bind fun t105 => (if t105 = true then ((document_node.f a0_5).bind fun t106 => (if t106 = true then (if a0_4 = a0_5 then (document_Check.j1 kj1 false a0_0 a0_1 a0_2 a0_3 a0_4 a0_5 a0_6 a0_0 a0_1 0 a0_3 a0_4 a0_5 a0_6) else (if a0_6 ≥ 1 then (document_Check.j1 kj1 (decide (a0_6 ≤ 10737418240000)) a0_0 a0_1 a0_2 a0_3 a0_4 a0_5 a0_6 a0_0 a0_1 0 a0_3 a0_4 a0_5 a0_6) else (document_Check.j1 kj1 false a0_0 a0_1 a0_2 a0_3 a0_4 a0_5 a0_6 a0_0 a0_1 0 a0_3 a0_4 a0_5 a0_6))) else (document_Check.j1 kj1 false a0_0 a0_1 a0_2 a0_3 a0_4 a0_5 a0_6 a0_0 a0_1 0 a0_3 a0_4 a0_5 a0_6))) else (document_Check.j1 kj1 false a0_0 a0_1 a0_2 a0_3 a0_4 a0_5 a0_6 a0_0 a0_1 0 a0_3 a0_4 a0_5 a0_6))) else (if a0_1 = 2 then (if a0_2 ≥ 1 then (if a0_2 ≤ 64 then ((document_node.f a0_5).bind fun t107 => (document_Check.j1 kj1 t107 a0_0 a0_1 a0_2 a0_3 a0_4 a0_5 a0_6 a0_0 a0_1 a0_2 a0_3 0 a0_5 0)) else (document_Check.j1 kj1 false a0_0 a0_1 a0_2 a0_3 a0_4 a0_5 a0_6 a0_0 a0_1 a0_2 a0_3 0 a0_5 0)) else (document_Check.j1 kj1 false a0_0 a0_1 a0_2 a0_3 a0_4 a0_5 a0_6 a0_0 a0_1 a0_2 a0_3 0 a0_5 0)) else (if a0_1 = 3 then (if a0_6 ≥ 0 then (document_Check.j1 kj1 (decide (a0_6 ≤ 10737418240000)) a0_0 a0_1 a0_2 a0_3 a0_4 a0_5 a0_6 a0_0 a0_1 0 a0_3 0 0 a0_6) else (document_Check.j1 kj1 false a0_0 a0_1 a0_2 a0_3 a0_4 a0_5 a0_6 a0_0 a0_1 0 a0_3 0 0 a0_6)) else (document_Check.j1 kj1 true a0_0 a0_1 a0_2 a0_3 a0_4 a0_5 a0_6 a0_0 a0_1 0 a0_3 0 0 0)))) = some r := by rw [if_neg (show ¬ (false = true) by decide)] at H; exact H
    clear H
    have H := H1
    clear H1
    have HC16 := Aside0.mk H
    clear H
    obtain ⟨hcz17_0, hcz17_1, hcz17_2, hcz17_3, hcz17_4, hcz17_5, hcz17_6, hfz17_0, hfz17_1, hfz17_2, hfz17_3, hfz17_4, hfz17_5, hfz17_6⟩ := GS.c7 BK103.out
    go_upto_block 0 with (first | ((with_reducible refine gqD (N := 3) rfl ?_); refine GS.bx (N := 3) (cs := #[.int .i64 0, .int .i64 0, .int .i64 0, .int .i64 0, .int .i64 0, .int .i64 0, .int .i64 0]) (t := 26) ?_; intro gb104 hg w18 hbox hb; have n0_ := Aside0.mk (bqB (GS.bqX BK103.out) hb); have n1_ := Aside0.mk (lqT (GS.lB HB.out) hb); have n2_ := Aside0.mk (hbox); have n3_ := Aside0.mk ((by rw [hg]; exact (lqZ (GS.lB HB.out)) : w.heap.size ≤ gb104)); have n4_ := Aside0.mk ((by rw [hg]; exact (lqZ (GS.lB HB.out)) : w.heap.size ≤ gb104)); have n5_ := Aside0.mk ((by rw [hg]; exact Nat.ne_of_lt (blk_lt (GS.bqX BK103.out)) : gb103 ≠ gb104)); have n6_ := Aside0.mk ((by rw [hg]; exact Nat.ne_of_gt (blk_lt (GS.bqX BK103.out)) : gb104 ≠ gb103)); clear BK103; clear HB; have BK103 := n0_; have HB := n1_; have BK104 := n2_; have GW104 := n3_; have GE104 := n4_; have NB103_104 := n5_; have NB104_103 := n6_; clear n0_ n1_ n2_ n3_ n4_ n5_ n6_; clear hb hbox hg; have hnb19 := NB104_103.out; have hnc19 := NB103_104.out; obtain ⟨hcz20_0, hcz20_1, hcz20_2, hcz20_3, hcz20_4, hcz20_5, hcz20_6, hfz20_0, hfz20_1, hfz20_2, hfz20_3, hfz20_4, hfz20_5, hfz20_6⟩ := GS.c7 BK104.out; obtain ⟨hcz21_0, hcz21_1, hcz21_2, hcz21_3, hcz21_4, hcz21_5, hcz21_6, hfz21_0, hfz21_1, hfz21_2, hfz21_3, hfz21_4, hfz21_5, hfz21_6⟩ := GS.c7 BK103.out))
    (try simp only [Act.put, List.setIfInBounds_toArray, List.set_cons_zero, List.set_cons_succ])
    go_cut [4] (fun v4 wc => ∃ (kq : Nat) (x4_15 : Bool) (x105002_15 : Int) (x105004_15 : Int) (x105005_15 : Int) (x105006_15 : Int), v4 = .bool x4_15 ∧ Aside0 (document_Check.j1 kq x4_15 a0_0 a0_1 a0_2 a0_3 a0_4 a0_5 a0_6 a0_0 a0_1 x105002_15 a0_3 x105004_15 x105005_15 x105006_15 = some r) ∧ Aside0 (kq ≤ kj1) ∧ Aside0 (wc.heap[gb103]? = some (.cells #[.int .i64 a0_0, .int .i64 a0_1, .int .i64 a0_2, .int .i64 a0_3, .int .i64 a0_4, .int .i64 a0_5, .int .i64 a0_6] 26 (0, 0))) ∧ Aside0 (wc.heap[gb104]? = some (.cells #[.int .i64 a0_0, .int .i64 a0_1, .int .i64 x105002_15, .int .i64 a0_3, .int .i64 x105004_15, .int .i64 x105005_15, .int .i64 x105006_15] 26 (0, 0))) ∧ Aside0 (Below w.heap.size w wc))
    case first =>
     have H := HC16.out
     clear HC16
     by_cases c22 : a0_1 = 1
     ·rw [if_pos c22] at H
      have c22b0 : (a0_1 == 1) = true := beq_iff_eq.mpr c22
      try simp only [beq_self_eq_true, Bool.not_true, Bool.false_or, Bool.true_and] at c22b0
      have c22b1 : (a0_1 != 1) = false := bne_eq_false_iff_eq.mpr c22
      clear c22
      (first | rw [c22b0] | (simp only [i64_w, i32_w]; rw [c22b0]) | skip)
      replace H := Option.bind_eq_some_iff.mp H
      obtain ⟨t105, A230, H⟩ := H
      replace H : (if t105 = true then ((document_node.f a0_5).bind fun t106 => (if t106 = true then (if a0_4 = a0_5 then (document_Check.j1 kj1 false a0_0 a0_1 a0_2 a0_3 a0_4 a0_5 a0_6 a0_0 a0_1 0 a0_3 a0_4 a0_5 a0_6) else (if a0_6 ≥ 1 then (document_Check.j1 kj1 (decide (a0_6 ≤ 10737418240000)) a0_0 a0_1 a0_2 a0_3 a0_4 a0_5 a0_6 a0_0 a0_1 0 a0_3 a0_4 a0_5 a0_6) else (document_Check.j1 kj1 false a0_0 a0_1 a0_2 a0_3 a0_4 a0_5 a0_6 a0_0 a0_1 0 a0_3 a0_4 a0_5 a0_6))) else (document_Check.j1 kj1 false a0_0 a0_1 a0_2 a0_3 a0_4 a0_5 a0_6 a0_0 a0_1 0 a0_3 a0_4 a0_5 a0_6))) else (document_Check.j1 kj1 false a0_0 a0_1 a0_2 a0_3 a0_4 a0_5 a0_6 a0_0 a0_1 0 a0_3 a0_4 a0_5 a0_6)) = some r := H
      have A23 := Aside0.mk A230
      clear A230
      by_cases c24 : t105 = true
      ·subst c24
       have H1 : ((document_node.f a0_5).bind fun t106 => (if t106 = true then (if a0_4 = a0_5 then (document_Check.j1 kj1 false a0_0 a0_1 a0_2 a0_3 a0_4 a0_5 a0_6 a0_0 a0_1 0 a0_3 a0_4 a0_5 a0_6) else (if a0_6 ≥ 1 then (document_Check.j1 kj1 (decide (a0_6 ≤ 10737418240000)) a0_0 a0_1 a0_2 a0_3 a0_4 a0_5 a0_6 a0_0 a0_1 0 a0_3 a0_4 a0_5 a0_6) else (document_Check.j1 kj1 false a0_0 a0_1 a0_2 a0_3 a0_4 a0_5 a0_6 a0_0 a0_1 0 a0_3 a0_4 a0_5 a0_6))) else (document_Check.j1 kj1 false a0_0 a0_1 a0_2 a0_3 a0_4 a0_5 a0_6 a0_0 a0_1 0 a0_3 a0_4 a0_5 a0_6))) = some r := by rw [if_pos rfl] at H; exact H
       clear H
       have H := H1
       clear H1
       replace H := Option.bind_eq_some_iff.mp H
       obtain ⟨t106, A250, H⟩ := H
       replace H : (if t106 = true then (if a0_4 = a0_5 then (document_Check.j1 kj1 false a0_0 a0_1 a0_2 a0_3 a0_4 a0_5 a0_6 a0_0 a0_1 0 a0_3 a0_4 a0_5 a0_6) else (if a0_6 ≥ 1 then (document_Check.j1 kj1 (decide (a0_6 ≤ 10737418240000)) a0_0 a0_1 a0_2 a0_3 a0_4 a0_5 a0_6 a0_0 a0_1 0 a0_3 a0_4 a0_5 a0_6) else (document_Check.j1 kj1 false a0_0 a0_1 a0_2 a0_3 a0_4 a0_5 a0_6 a0_0 a0_1 0 a0_3 a0_4 a0_5 a0_6))) else (document_Check.j1 kj1 false a0_0 a0_1 a0_2 a0_3 a0_4 a0_5 a0_6 a0_0 a0_1 0 a0_3 a0_4 a0_5 a0_6)) = some r := H
       have A25 := Aside0.mk A250
       clear A250
       by_cases c26 : t106 = true
       ·subst c26
        have H1 : (if a0_4 = a0_5 then (document_Check.j1 kj1 false a0_0 a0_1 a0_2 a0_3 a0_4 a0_5 a0_6 a0_0 a0_1 0 a0_3 a0_4 a0_5 a0_6) else (if a0_6 ≥ 1 then (document_Check.j1 kj1 (decide (a0_6 ≤ 10737418240000)) a0_0 a0_1 a0_2 a0_3 a0_4 a0_5 a0_6 a0_0 a0_1 0 a0_3 a0_4 a0_5 a0_6) else (document_Check.j1 kj1 false a0_0 a0_1 a0_2 a0_3 a0_4 a0_5 a0_6 a0_0 a0_1 0 a0_3 a0_4 a0_5 a0_6))) = some r := by rw [if_pos rfl] at H; exact H
        clear H
        have H := H1
        clear H1
        by_cases c27 : a0_4 = a0_5
        ·rw [if_pos c27] at H
         have c27b0 : (a0_4 == a0_5) = true := beq_iff_eq.mpr c27
         try simp only [beq_self_eq_true, Bool.not_true, Bool.false_or, Bool.true_and] at c27b0
         have c27b1 : (a0_4 != a0_5) = false := bne_eq_false_iff_eq.mpr c27
         clear c27
         have H' := Aside0.mk H
         clear H
         try go_wp2
         have n0_ : Aside0 ((((((((w18.setCell ⟨gb104, 0, none⟩ (.int .i64 a0_0)).setCell ⟨gb104, 1, none⟩ (.int .i64 a0_1)).setCell ⟨gb104, 2, none⟩ (.int .i64 0)).setCell ⟨gb104, 3, none⟩ (.int .i64 a0_3)).setCell ⟨gb104, 4, none⟩ (.int .i64 0)).setCell ⟨gb104, 5, none⟩ (.int .i64 0)).setCell ⟨gb104, 6, none⟩ (.int .i64 0)).heap[gb103]? = some (.cells #[.int .i64 a0_0, .int .i64 a0_1, .int .i64 a0_2, .int .i64 a0_3, .int .i64 a0_4, .int .i64 a0_5, .int .i64 a0_6] 26 (0, 0))) := ⟨GS.bqX BK103.out⟩
         have n1_ : Aside0 ((((((((w18.setCell ⟨gb104, 0, none⟩ (.int .i64 a0_0)).setCell ⟨gb104, 1, none⟩ (.int .i64 a0_1)).setCell ⟨gb104, 2, none⟩ (.int .i64 0)).setCell ⟨gb104, 3, none⟩ (.int .i64 a0_3)).setCell ⟨gb104, 4, none⟩ (.int .i64 0)).setCell ⟨gb104, 5, none⟩ (.int .i64 0)).setCell ⟨gb104, 6, none⟩ (.int .i64 0)).heap[gb104]? = some (.cells #[.int .i64 a0_0, .int .i64 a0_1, .int .i64 0, .int .i64 a0_3, .int .i64 0, .int .i64 0, .int .i64 0] 26 (0, 0))) := ⟨GS.bqZ BK104.out⟩
         have n2_ : Aside0 (Below w.heap.size w (((((((w18.setCell ⟨gb104, 0, none⟩ (.int .i64 a0_0)).setCell ⟨gb104, 1, none⟩ (.int .i64 a0_1)).setCell ⟨gb104, 2, none⟩ (.int .i64 0)).setCell ⟨gb104, 3, none⟩ (.int .i64 a0_3)).setCell ⟨gb104, 4, none⟩ (.int .i64 0)).setCell ⟨gb104, 5, none⟩ (.int .i64 0)).setCell ⟨gb104, 6, none⟩ (.int .i64 0))) := ⟨GS.lB HB.out⟩
         (try clear BK103)
         (try clear BK104)
         (try clear HB)
         generalize (((((((w18.setCell ⟨gb104, 0, none⟩ (.int .i64 a0_0)).setCell ⟨gb104, 1, none⟩ (.int .i64 a0_1)).setCell ⟨gb104, 2, none⟩ (.int .i64 0)).setCell ⟨gb104, 3, none⟩ (.int .i64 a0_3)).setCell ⟨gb104, 4, none⟩ (.int .i64 0)).setCell ⟨gb104, 5, none⟩ (.int .i64 0)).setCell ⟨gb104, 6, none⟩ (.int .i64 0)) = w28 at n0_ n1_ n2_ ⊢
         have BK103 := n0_
         have BK104 := n1_
         have HB := n2_
         clear n0_ n1_ n2_
         have n0_ := Aside0.mk (bqD BK103.out)
         have n1_ := Aside0.mk (bqD BK104.out)
         have n2_ := Aside0.mk (lqD HB.out)
         clear BK103
         clear BK104
         clear HB
         have BK103 := n0_
         have BK104 := n1_
         have HB := n2_
         clear n0_ n1_ n2_
         refine start_ (n := 12) (S := fun w' => w'.cell? ⟨gb103, 0, none⟩ = some (.int .i64 a0_0) ∧ w'.cell? ⟨gb103, 1, none⟩ = some (.int .i64 a0_1) ∧ w'.cell? ⟨gb103, 2, none⟩ = some (.int .i64 a0_2) ∧ w'.cell? ⟨gb103, 3, none⟩ = some (.int .i64 a0_3) ∧ w'.cell? ⟨gb103, 4, none⟩ = some (.int .i64 a0_4) ∧ w'.cell? ⟨gb103, 5, none⟩ = some (.int .i64 a0_5) ∧ w'.cell? ⟨gb103, 6, none⟩ = some (.int .i64 a0_6)) (ds := []) #[false, false, false, false, false, false, false, false, false, false, false, false] (by kernel_rfl) rfl rfl ⟨(bqC BK103.out 0).trans rfl, (bqC BK103.out 1).trans rfl, (bqC BK103.out 2).trans rfl, (bqC BK103.out 3).trans rfl, (bqC BK103.out 4).trans rfl, (bqC BK103.out 5).trans rfl, (bqC BK103.out 6).trans rfl⟩ (fun hHeld => ?_); refine with_tabW document_Check.tab7 document_Check.bits7 (fun HT_ HW_ => ?_)
         generalize w28.drew = w29 at BK103 BK104 HB hHeld ⊢
         refine pure_ (i := 0) (N := some 44) (v := ?_) (a' := ?_) #[true, false, false, false, false, false, false, false, false, false, false, false] rfl rfl (any_of HT_.out (by kernel_rfl)) (fun _ _ _ h => h) (Or.inl ⟨by rfl, ?_⟩) ?_ ?_
         rotate_left
         ·intro w'
          go_simp
          with_reducible rfl
         rotate_left
         ·simp only [Act.put, List.setIfInBounds_toArray, List.set_cons_zero, List.set_cons_succ, i64_w, i32_w]
          rfl
         refine pure_ (i := 2) (N := some 46) (v := ?_) (a' := ?_) #[true, false, true, false, false, false, false, false, false, false, false, false] rfl rfl (any_of HT_.out (by kernel_rfl)) (fun _ _ _ h => h) (Or.inl ⟨by rfl, ?_⟩) ?_ ?_
         rotate_left
         ·intro w'
          go_simp
          with_reducible rfl
         rotate_left
         ·simp only [Act.put, List.setIfInBounds_toArray, List.set_cons_zero, List.set_cons_succ, i64_w, i32_w]
          rfl
         refine pure_ (i := 4) (N := some 48) (v := ?_) (a' := ?_) #[true, false, true, false, true, false, false, false, false, false, false, false] rfl rfl (any_of HT_.out (by kernel_rfl)) (fun _ _ _ h => h) (Or.inl ⟨by rfl, ?_⟩) ?_ ?_
         rotate_left
         ·intro w'
          go_simp
          with_reducible rfl
         rotate_left
         ·simp only [Act.put, List.setIfInBounds_toArray, List.set_cons_zero, List.set_cons_succ, i64_w, i32_w]
          rfl
         refine take_ (i := 1) (N := some 45) (v := ?_) (a' := ?_) #[true, true, true, false, true, false, false, false, false, false, false, false] rfl rfl (take_ofW HT_.out HW_.out (by kernel_rfl)) (fun _ _ _ h => h) (Or.inl ⟨by rfl, ?_⟩) hHeld ?_ ?_
         rotate_left
         ·rintro w' ⟨s0, s1, s2, s3, s4, s5, s6⟩
          go_simp
          with_reducible rfl
         rotate_left
         ·simp only [Act.put, List.setIfInBounds_toArray, List.set_cons_zero, List.set_cons_succ, i64_w, i32_w]
          rfl
         refine pure_ (i := 6) (N := some 50) (v := ?_) (a' := ?_) #[true, true, true, false, true, false, true, false, false, false, false, false] rfl rfl (any_of HT_.out (by kernel_rfl)) (fun _ _ _ h => h) (Or.inl ⟨by rfl, ?_⟩) ?_ ?_
         rotate_left
         ·intro w'
          go_simp
          with_reducible rfl
         rotate_left
         ·simp only [Act.put, List.setIfInBounds_toArray, List.set_cons_zero, List.set_cons_succ, i64_w, i32_w]
          rfl
         refine take_ (i := 3) (N := some 47) (v := ?_) (a' := ?_) #[true, true, true, true, true, false, true, false, false, false, false, false] rfl rfl (take_ofW HT_.out HW_.out (by kernel_rfl)) (fun _ _ _ h => h) (Or.inl ⟨by rfl, ?_⟩) hHeld ?_ ?_
         rotate_left
         ·rintro w' ⟨s0, s1, s2, s3, s4, s5, s6⟩
          go_simp
          with_reducible rfl
         rotate_left
         ·simp only [Act.put, List.setIfInBounds_toArray, List.set_cons_zero, List.set_cons_succ, i64_w, i32_w]
          rfl
         refine take_ (i := 5) (N := some 49) (v := ?_) (a' := ?_) #[true, true, true, true, true, true, true, false, false, false, false, false] rfl rfl (take_ofW HT_.out HW_.out (by kernel_rfl)) (fun _ _ _ h => h) (Or.inl ⟨by rfl, ?_⟩) hHeld ?_ ?_
         rotate_left
         ·rintro w' ⟨s0, s1, s2, s3, s4, s5, s6⟩
          go_simp
          with_reducible rfl
         rotate_left
         ·simp only [Act.put, List.setIfInBounds_toArray, List.set_cons_zero, List.set_cons_succ, i64_w, i32_w]
          rfl
         refine one_ (i := 7) (N := none) #[true, true, true, true, true, true, true, true, false, false, false, false] rfl rfl (one_of HT_.out (by kernel_rfl)) (by decide) (fun K hK => ?_)
         have hs30 : w29.cell? ⟨gb104, 4, none⟩ = some (.int .i64 0) := (bqC BK104.out 4).trans rfl
         have hfs30 := bqF BK104.out 4
         have hns30_0 := NB103_104.out
         have hms30_0 := NB104_103.out
         refine skip_ (w1 := ?_) (by rfl) rfl ?_ ?_
         rotate_left
         ·go_simp
          rfl
         refine hK.out _ _ ⟨(GS.cf hHeld.1), (GS.cf hHeld.2.1), (GS.cf hHeld.2.2.1), (GS.cf hHeld.2.2.2.1), (GS.cf hHeld.2.2.2.2.1), (GS.cf hHeld.2.2.2.2.2.1), (GS.cf hHeld.2.2.2.2.2.2)⟩ (fun hHeld => ?_)
         clear hK K
         refine pure_ (i := 8) (N := some 51) (v := ?_) (a' := ?_) #[true, true, true, true, true, true, true, true, true, false, false, false] rfl rfl (any_of HT_.out (by kernel_rfl)) (fun _ _ _ h => h) (Or.inl ⟨by rfl, ?_⟩) ?_ ?_
         rotate_left
         ·intro w'
          go_simp
          with_reducible rfl
         rotate_left
         ·simp only [Act.put, List.setIfInBounds_toArray, List.set_cons_zero, List.set_cons_succ, i64_w, i32_w]
          rfl
         refine one_ (i := 9) (N := none) #[true, true, true, true, true, true, true, true, true, true, false, false] rfl rfl (one_of HT_.out (by kernel_rfl)) (by decide) (fun K hK => ?_)
         have hs31 : w29.cell? ⟨gb104, 5, none⟩ = some (.int .i64 0) := (bqC BK104.out 5).trans rfl
         have hfs31 := bqF BK104.out 5
         have hns31_0 := NB103_104.out
         have hms31_0 := NB104_103.out
         refine skip_ (w1 := ?_) (by rfl) rfl ?_ ?_
         rotate_left
         ·go_simp
          rfl
         refine hK.out _ _ ⟨(GS.cf hHeld.1), (GS.cf hHeld.2.1), (GS.cf hHeld.2.2.1), (GS.cf hHeld.2.2.2.1), (GS.cf hHeld.2.2.2.2.1), (GS.cf hHeld.2.2.2.2.2.1), (GS.cf hHeld.2.2.2.2.2.2)⟩ (fun hHeld => ?_)
         clear hK K
         refine pure_ (i := 10) (N := some 52) (v := ?_) (a' := ?_) #[true, true, true, true, true, true, true, true, true, true, true, false] rfl rfl (any_of HT_.out (by kernel_rfl)) (fun _ _ _ h => h) (Or.inl ⟨by rfl, ?_⟩) ?_ ?_
         rotate_left
         ·intro w'
          go_simp
          with_reducible rfl
         rotate_left
         ·simp only [Act.put, List.setIfInBounds_toArray, List.set_cons_zero, List.set_cons_succ, i64_w, i32_w]
          rfl
         refine one_ (i := 11) (N := none) #[true, true, true, true, true, true, true, true, true, true, true, true] rfl rfl (one_of HT_.out (by kernel_rfl)) (by decide) (fun K hK => ?_)
         have hs32 : w29.cell? ⟨gb104, 6, none⟩ = some (.int .i64 0) := (bqC BK104.out 6).trans rfl
         have hfs32 := bqF BK104.out 6
         have hns32_0 := NB103_104.out
         have hms32_0 := NB104_103.out
         refine skip_ (w1 := ?_) (by rfl) rfl ?_ ?_
         rotate_left
         ·go_simp
          rfl
         refine hK.out _ _ ⟨(GS.cf hHeld.1), (GS.cf hHeld.2.1), (GS.cf hHeld.2.2.1), (GS.cf hHeld.2.2.2.1), (GS.cf hHeld.2.2.2.2.1), (GS.cf hHeld.2.2.2.2.2.1), (GS.cf hHeld.2.2.2.2.2.2)⟩ (fun hHeld => ?_)
         clear hK K
         refine done_ (done_of HT_.out (by kernel_rfl)) ?_
         have hnb33 := NB103_104.out
         have hnc33 := NB104_103.out
         obtain ⟨hcz34_0, hcz34_1, hcz34_2, hcz34_3, hcz34_4, hcz34_5, hcz34_6, hfz34_0, hfz34_1, hfz34_2, hfz34_3, hfz34_4, hfz34_5, hfz34_6⟩ := GS.c7 BK103.out
         try go_wp2_with (first | ((with_reducible refine gqC (f := 57) rfl ?_); refine GS.gL (some 55) Try.func57 #[.int .i64 a0_4] ?_; (with_reducible refine (document_node.calls a0_4 true _ A23.out).mono ?_); rintro e w' ⟨rfl, ⟨nd, rfl⟩⟩; refine ⟨_, rfl, ?_⟩) | (go_at_call 57; (with_reducible refine (document_node.calls a0_5 true _ A25.out).mono ?_); rintro e w' ⟨rfl, ⟨nd, rfl⟩⟩))
         go_meet
         case rel => exact ⟨_, (false), (0), (a0_4), (a0_5), (a0_6), (by first | rfl | (simp; done) | (simp [*]; done)), H', ⟨by have := HJ1.out; first | omega | exact Nat.le_refl _⟩, ⟨GS.bqX BK103.out⟩, ⟨GS.bqZ BK104.out⟩, ⟨GS.lB HB.out⟩⟩
        ·rw [if_neg c27] at H
         have c27b0 : (a0_4 == a0_5) = false := beq_eq_false_iff_ne.mpr c27
         try simp only [beq_self_eq_true, Bool.not_true, Bool.false_or, Bool.true_and] at c27b0
         have c27b1 : (a0_4 != a0_5) = true := bne_iff_ne.mpr c27
         by_cases c35 : a0_6 ≥ 1
         ·rw [if_pos c35] at H
          have c35b0 : decide (1 ≤ a0_6) = true := decide_eq_true c35
          clear c35
          have H' := Aside0.mk H
          clear H
          try go_wp2
          have n0_ : Aside0 ((((((((w18.setCell ⟨gb104, 0, none⟩ (.int .i64 a0_0)).setCell ⟨gb104, 1, none⟩ (.int .i64 a0_1)).setCell ⟨gb104, 2, none⟩ (.int .i64 0)).setCell ⟨gb104, 3, none⟩ (.int .i64 a0_3)).setCell ⟨gb104, 4, none⟩ (.int .i64 0)).setCell ⟨gb104, 5, none⟩ (.int .i64 0)).setCell ⟨gb104, 6, none⟩ (.int .i64 0)).heap[gb103]? = some (.cells #[.int .i64 a0_0, .int .i64 a0_1, .int .i64 a0_2, .int .i64 a0_3, .int .i64 a0_4, .int .i64 a0_5, .int .i64 a0_6] 26 (0, 0))) := ⟨GS.bqX BK103.out⟩
          have n1_ : Aside0 ((((((((w18.setCell ⟨gb104, 0, none⟩ (.int .i64 a0_0)).setCell ⟨gb104, 1, none⟩ (.int .i64 a0_1)).setCell ⟨gb104, 2, none⟩ (.int .i64 0)).setCell ⟨gb104, 3, none⟩ (.int .i64 a0_3)).setCell ⟨gb104, 4, none⟩ (.int .i64 0)).setCell ⟨gb104, 5, none⟩ (.int .i64 0)).setCell ⟨gb104, 6, none⟩ (.int .i64 0)).heap[gb104]? = some (.cells #[.int .i64 a0_0, .int .i64 a0_1, .int .i64 0, .int .i64 a0_3, .int .i64 0, .int .i64 0, .int .i64 0] 26 (0, 0))) := ⟨GS.bqZ BK104.out⟩
          have n2_ : Aside0 (Below w.heap.size w (((((((w18.setCell ⟨gb104, 0, none⟩ (.int .i64 a0_0)).setCell ⟨gb104, 1, none⟩ (.int .i64 a0_1)).setCell ⟨gb104, 2, none⟩ (.int .i64 0)).setCell ⟨gb104, 3, none⟩ (.int .i64 a0_3)).setCell ⟨gb104, 4, none⟩ (.int .i64 0)).setCell ⟨gb104, 5, none⟩ (.int .i64 0)).setCell ⟨gb104, 6, none⟩ (.int .i64 0))) := ⟨GS.lB HB.out⟩
          (try clear BK103)
          (try clear BK104)
          (try clear HB)
          generalize (((((((w18.setCell ⟨gb104, 0, none⟩ (.int .i64 a0_0)).setCell ⟨gb104, 1, none⟩ (.int .i64 a0_1)).setCell ⟨gb104, 2, none⟩ (.int .i64 0)).setCell ⟨gb104, 3, none⟩ (.int .i64 a0_3)).setCell ⟨gb104, 4, none⟩ (.int .i64 0)).setCell ⟨gb104, 5, none⟩ (.int .i64 0)).setCell ⟨gb104, 6, none⟩ (.int .i64 0)) = w36 at n0_ n1_ n2_ ⊢
          have BK103 := n0_
          have BK104 := n1_
          have HB := n2_
          clear n0_ n1_ n2_
          have n0_ := Aside0.mk (bqD BK103.out)
          have n1_ := Aside0.mk (bqD BK104.out)
          have n2_ := Aside0.mk (lqD HB.out)
          clear BK103
          clear BK104
          clear HB
          have BK103 := n0_
          have BK104 := n1_
          have HB := n2_
          clear n0_ n1_ n2_
          refine start_ (n := 12) (S := fun w' => w'.cell? ⟨gb103, 0, none⟩ = some (.int .i64 a0_0) ∧ w'.cell? ⟨gb103, 1, none⟩ = some (.int .i64 a0_1) ∧ w'.cell? ⟨gb103, 2, none⟩ = some (.int .i64 a0_2) ∧ w'.cell? ⟨gb103, 3, none⟩ = some (.int .i64 a0_3) ∧ w'.cell? ⟨gb103, 4, none⟩ = some (.int .i64 a0_4) ∧ w'.cell? ⟨gb103, 5, none⟩ = some (.int .i64 a0_5) ∧ w'.cell? ⟨gb103, 6, none⟩ = some (.int .i64 a0_6)) (ds := []) #[false, false, false, false, false, false, false, false, false, false, false, false] (by kernel_rfl) rfl rfl ⟨(bqC BK103.out 0).trans rfl, (bqC BK103.out 1).trans rfl, (bqC BK103.out 2).trans rfl, (bqC BK103.out 3).trans rfl, (bqC BK103.out 4).trans rfl, (bqC BK103.out 5).trans rfl, (bqC BK103.out 6).trans rfl⟩ (fun hHeld => ?_); refine with_tabW document_Check.tab7 document_Check.bits7 (fun HT_ HW_ => ?_)
          generalize w36.drew = w37 at BK103 BK104 HB hHeld ⊢
          refine pure_ (i := 0) (N := some 44) (v := ?_) (a' := ?_) #[true, false, false, false, false, false, false, false, false, false, false, false] rfl rfl (any_of HT_.out (by kernel_rfl)) (fun _ _ _ h => h) (Or.inl ⟨by rfl, ?_⟩) ?_ ?_
          rotate_left
          ·intro w'
           go_simp
           with_reducible rfl
          rotate_left
          ·simp only [Act.put, List.setIfInBounds_toArray, List.set_cons_zero, List.set_cons_succ, i64_w, i32_w]
           rfl
          refine pure_ (i := 2) (N := some 46) (v := ?_) (a' := ?_) #[true, false, true, false, false, false, false, false, false, false, false, false] rfl rfl (any_of HT_.out (by kernel_rfl)) (fun _ _ _ h => h) (Or.inl ⟨by rfl, ?_⟩) ?_ ?_
          rotate_left
          ·intro w'
           go_simp
           with_reducible rfl
          rotate_left
          ·simp only [Act.put, List.setIfInBounds_toArray, List.set_cons_zero, List.set_cons_succ, i64_w, i32_w]
           rfl
          refine pure_ (i := 4) (N := some 48) (v := ?_) (a' := ?_) #[true, false, true, false, true, false, false, false, false, false, false, false] rfl rfl (any_of HT_.out (by kernel_rfl)) (fun _ _ _ h => h) (Or.inl ⟨by rfl, ?_⟩) ?_ ?_
          rotate_left
          ·intro w'
           go_simp
           with_reducible rfl
          rotate_left
          ·simp only [Act.put, List.setIfInBounds_toArray, List.set_cons_zero, List.set_cons_succ, i64_w, i32_w]
           rfl
          refine take_ (i := 1) (N := some 45) (v := ?_) (a' := ?_) #[true, true, true, false, true, false, false, false, false, false, false, false] rfl rfl (take_ofW HT_.out HW_.out (by kernel_rfl)) (fun _ _ _ h => h) (Or.inl ⟨by rfl, ?_⟩) hHeld ?_ ?_
          rotate_left
          ·rintro w' ⟨s0, s1, s2, s3, s4, s5, s6⟩
           go_simp
           with_reducible rfl
          rotate_left
          ·simp only [Act.put, List.setIfInBounds_toArray, List.set_cons_zero, List.set_cons_succ, i64_w, i32_w]
           rfl
          refine pure_ (i := 6) (N := some 50) (v := ?_) (a' := ?_) #[true, true, true, false, true, false, true, false, false, false, false, false] rfl rfl (any_of HT_.out (by kernel_rfl)) (fun _ _ _ h => h) (Or.inl ⟨by rfl, ?_⟩) ?_ ?_
          rotate_left
          ·intro w'
           go_simp
           with_reducible rfl
          rotate_left
          ·simp only [Act.put, List.setIfInBounds_toArray, List.set_cons_zero, List.set_cons_succ, i64_w, i32_w]
           rfl
          refine take_ (i := 3) (N := some 47) (v := ?_) (a' := ?_) #[true, true, true, true, true, false, true, false, false, false, false, false] rfl rfl (take_ofW HT_.out HW_.out (by kernel_rfl)) (fun _ _ _ h => h) (Or.inl ⟨by rfl, ?_⟩) hHeld ?_ ?_
          rotate_left
          ·rintro w' ⟨s0, s1, s2, s3, s4, s5, s6⟩
           go_simp
           with_reducible rfl
          rotate_left
          ·simp only [Act.put, List.setIfInBounds_toArray, List.set_cons_zero, List.set_cons_succ, i64_w, i32_w]
           rfl
          refine take_ (i := 5) (N := some 49) (v := ?_) (a' := ?_) #[true, true, true, true, true, true, true, false, false, false, false, false] rfl rfl (take_ofW HT_.out HW_.out (by kernel_rfl)) (fun _ _ _ h => h) (Or.inl ⟨by rfl, ?_⟩) hHeld ?_ ?_
          rotate_left
          ·rintro w' ⟨s0, s1, s2, s3, s4, s5, s6⟩
           go_simp
           with_reducible rfl
          rotate_left
          ·simp only [Act.put, List.setIfInBounds_toArray, List.set_cons_zero, List.set_cons_succ, i64_w, i32_w]
           rfl
          refine one_ (i := 7) (N := none) #[true, true, true, true, true, true, true, true, false, false, false, false] rfl rfl (one_of HT_.out (by kernel_rfl)) (by decide) (fun K hK => ?_)
          have hs38 : w37.cell? ⟨gb104, 4, none⟩ = some (.int .i64 0) := (bqC BK104.out 4).trans rfl
          have hfs38 := bqF BK104.out 4
          have hns38_0 := NB103_104.out
          have hms38_0 := NB104_103.out
          refine skip_ (w1 := ?_) (by rfl) rfl ?_ ?_
          rotate_left
          ·go_simp
           rfl
          refine hK.out _ _ ⟨(GS.cf hHeld.1), (GS.cf hHeld.2.1), (GS.cf hHeld.2.2.1), (GS.cf hHeld.2.2.2.1), (GS.cf hHeld.2.2.2.2.1), (GS.cf hHeld.2.2.2.2.2.1), (GS.cf hHeld.2.2.2.2.2.2)⟩ (fun hHeld => ?_)
          clear hK K
          refine pure_ (i := 8) (N := some 51) (v := ?_) (a' := ?_) #[true, true, true, true, true, true, true, true, true, false, false, false] rfl rfl (any_of HT_.out (by kernel_rfl)) (fun _ _ _ h => h) (Or.inl ⟨by rfl, ?_⟩) ?_ ?_
          rotate_left
          ·intro w'
           go_simp
           with_reducible rfl
          rotate_left
          ·simp only [Act.put, List.setIfInBounds_toArray, List.set_cons_zero, List.set_cons_succ, i64_w, i32_w]
           rfl
          refine one_ (i := 9) (N := none) #[true, true, true, true, true, true, true, true, true, true, false, false] rfl rfl (one_of HT_.out (by kernel_rfl)) (by decide) (fun K hK => ?_)
          have hs39 : w37.cell? ⟨gb104, 5, none⟩ = some (.int .i64 0) := (bqC BK104.out 5).trans rfl
          have hfs39 := bqF BK104.out 5
          have hns39_0 := NB103_104.out
          have hms39_0 := NB104_103.out
          refine skip_ (w1 := ?_) (by rfl) rfl ?_ ?_
          rotate_left
          ·go_simp
           rfl
          refine hK.out _ _ ⟨(GS.cf hHeld.1), (GS.cf hHeld.2.1), (GS.cf hHeld.2.2.1), (GS.cf hHeld.2.2.2.1), (GS.cf hHeld.2.2.2.2.1), (GS.cf hHeld.2.2.2.2.2.1), (GS.cf hHeld.2.2.2.2.2.2)⟩ (fun hHeld => ?_)
          clear hK K
          refine pure_ (i := 10) (N := some 52) (v := ?_) (a' := ?_) #[true, true, true, true, true, true, true, true, true, true, true, false] rfl rfl (any_of HT_.out (by kernel_rfl)) (fun _ _ _ h => h) (Or.inl ⟨by rfl, ?_⟩) ?_ ?_
          rotate_left
          ·intro w'
           go_simp
           with_reducible rfl
          rotate_left
          ·simp only [Act.put, List.setIfInBounds_toArray, List.set_cons_zero, List.set_cons_succ, i64_w, i32_w]
           rfl
          refine one_ (i := 11) (N := none) #[true, true, true, true, true, true, true, true, true, true, true, true] rfl rfl (one_of HT_.out (by kernel_rfl)) (by decide) (fun K hK => ?_)
          have hs40 : w37.cell? ⟨gb104, 6, none⟩ = some (.int .i64 0) := (bqC BK104.out 6).trans rfl
          have hfs40 := bqF BK104.out 6
          have hns40_0 := NB103_104.out
          have hms40_0 := NB104_103.out
          refine skip_ (w1 := ?_) (by rfl) rfl ?_ ?_
          rotate_left
          ·go_simp
           rfl
          refine hK.out _ _ ⟨(GS.cf hHeld.1), (GS.cf hHeld.2.1), (GS.cf hHeld.2.2.1), (GS.cf hHeld.2.2.2.1), (GS.cf hHeld.2.2.2.2.1), (GS.cf hHeld.2.2.2.2.2.1), (GS.cf hHeld.2.2.2.2.2.2)⟩ (fun hHeld => ?_)
          clear hK K
          refine done_ (done_of HT_.out (by kernel_rfl)) ?_
          have hnb41 := NB103_104.out
          have hnc41 := NB104_103.out
          obtain ⟨hcz42_0, hcz42_1, hcz42_2, hcz42_3, hcz42_4, hcz42_5, hcz42_6, hfz42_0, hfz42_1, hfz42_2, hfz42_3, hfz42_4, hfz42_5, hfz42_6⟩ := GS.c7 BK103.out
          try go_wp2_with (first | ((with_reducible refine gqC (f := 57) rfl ?_); refine GS.gL (some 55) Try.func57 #[.int .i64 a0_4] ?_; (with_reducible refine (document_node.calls a0_4 true _ A23.out).mono ?_); rintro e w' ⟨rfl, ⟨nd, rfl⟩⟩; refine ⟨_, rfl, ?_⟩) | (go_at_call 57; (with_reducible refine (document_node.calls a0_5 true _ A25.out).mono ?_); rintro e w' ⟨rfl, ⟨nd, rfl⟩⟩))
          go_meet
          case rel => exact ⟨_, (decide (a0_6 ≤ 10737418240000)), (0), (a0_4), (a0_5), (a0_6), (by first | rfl | (simp; done) | (simp [*]; done)), H', ⟨by have := HJ1.out; first | omega | exact Nat.le_refl _⟩, ⟨GS.bqX BK103.out⟩, ⟨GS.bqZ BK104.out⟩, ⟨GS.lB HB.out⟩⟩
         ·rw [if_neg c35] at H
          have c35b0 : decide (1 ≤ a0_6) = false := decide_eq_false c35
          clear c35
          have H' := Aside0.mk H
          clear H
          try go_wp2
          have n0_ : Aside0 ((((((((w18.setCell ⟨gb104, 0, none⟩ (.int .i64 a0_0)).setCell ⟨gb104, 1, none⟩ (.int .i64 a0_1)).setCell ⟨gb104, 2, none⟩ (.int .i64 0)).setCell ⟨gb104, 3, none⟩ (.int .i64 a0_3)).setCell ⟨gb104, 4, none⟩ (.int .i64 0)).setCell ⟨gb104, 5, none⟩ (.int .i64 0)).setCell ⟨gb104, 6, none⟩ (.int .i64 0)).heap[gb103]? = some (.cells #[.int .i64 a0_0, .int .i64 a0_1, .int .i64 a0_2, .int .i64 a0_3, .int .i64 a0_4, .int .i64 a0_5, .int .i64 a0_6] 26 (0, 0))) := ⟨GS.bqX BK103.out⟩
          have n1_ : Aside0 ((((((((w18.setCell ⟨gb104, 0, none⟩ (.int .i64 a0_0)).setCell ⟨gb104, 1, none⟩ (.int .i64 a0_1)).setCell ⟨gb104, 2, none⟩ (.int .i64 0)).setCell ⟨gb104, 3, none⟩ (.int .i64 a0_3)).setCell ⟨gb104, 4, none⟩ (.int .i64 0)).setCell ⟨gb104, 5, none⟩ (.int .i64 0)).setCell ⟨gb104, 6, none⟩ (.int .i64 0)).heap[gb104]? = some (.cells #[.int .i64 a0_0, .int .i64 a0_1, .int .i64 0, .int .i64 a0_3, .int .i64 0, .int .i64 0, .int .i64 0] 26 (0, 0))) := ⟨GS.bqZ BK104.out⟩
          have n2_ : Aside0 (Below w.heap.size w (((((((w18.setCell ⟨gb104, 0, none⟩ (.int .i64 a0_0)).setCell ⟨gb104, 1, none⟩ (.int .i64 a0_1)).setCell ⟨gb104, 2, none⟩ (.int .i64 0)).setCell ⟨gb104, 3, none⟩ (.int .i64 a0_3)).setCell ⟨gb104, 4, none⟩ (.int .i64 0)).setCell ⟨gb104, 5, none⟩ (.int .i64 0)).setCell ⟨gb104, 6, none⟩ (.int .i64 0))) := ⟨GS.lB HB.out⟩
          (try clear BK103)
          (try clear BK104)
          (try clear HB)
          generalize (((((((w18.setCell ⟨gb104, 0, none⟩ (.int .i64 a0_0)).setCell ⟨gb104, 1, none⟩ (.int .i64 a0_1)).setCell ⟨gb104, 2, none⟩ (.int .i64 0)).setCell ⟨gb104, 3, none⟩ (.int .i64 a0_3)).setCell ⟨gb104, 4, none⟩ (.int .i64 0)).setCell ⟨gb104, 5, none⟩ (.int .i64 0)).setCell ⟨gb104, 6, none⟩ (.int .i64 0)) = w43 at n0_ n1_ n2_ ⊢
          have BK103 := n0_
          have BK104 := n1_
          have HB := n2_
          clear n0_ n1_ n2_
          have n0_ := Aside0.mk (bqD BK103.out)
          have n1_ := Aside0.mk (bqD BK104.out)
          have n2_ := Aside0.mk (lqD HB.out)
          clear BK103
          clear BK104
          clear HB
          have BK103 := n0_
          have BK104 := n1_
          have HB := n2_
          clear n0_ n1_ n2_
          refine start_ (n := 12) (S := fun w' => w'.cell? ⟨gb103, 0, none⟩ = some (.int .i64 a0_0) ∧ w'.cell? ⟨gb103, 1, none⟩ = some (.int .i64 a0_1) ∧ w'.cell? ⟨gb103, 2, none⟩ = some (.int .i64 a0_2) ∧ w'.cell? ⟨gb103, 3, none⟩ = some (.int .i64 a0_3) ∧ w'.cell? ⟨gb103, 4, none⟩ = some (.int .i64 a0_4) ∧ w'.cell? ⟨gb103, 5, none⟩ = some (.int .i64 a0_5) ∧ w'.cell? ⟨gb103, 6, none⟩ = some (.int .i64 a0_6)) (ds := []) #[false, false, false, false, false, false, false, false, false, false, false, false] (by kernel_rfl) rfl rfl ⟨(bqC BK103.out 0).trans rfl, (bqC BK103.out 1).trans rfl, (bqC BK103.out 2).trans rfl, (bqC BK103.out 3).trans rfl, (bqC BK103.out 4).trans rfl, (bqC BK103.out 5).trans rfl, (bqC BK103.out 6).trans rfl⟩ (fun hHeld => ?_); refine with_tabW document_Check.tab7 document_Check.bits7 (fun HT_ HW_ => ?_)
          generalize w43.drew = w44 at BK103 BK104 HB hHeld ⊢
          refine pure_ (i := 0) (N := some 44) (v := ?_) (a' := ?_) #[true, false, false, false, false, false, false, false, false, false, false, false] rfl rfl (any_of HT_.out (by kernel_rfl)) (fun _ _ _ h => h) (Or.inl ⟨by rfl, ?_⟩) ?_ ?_
          rotate_left
          ·intro w'
           go_simp
           with_reducible rfl
          rotate_left
          ·simp only [Act.put, List.setIfInBounds_toArray, List.set_cons_zero, List.set_cons_succ, i64_w, i32_w]
           rfl
          refine pure_ (i := 2) (N := some 46) (v := ?_) (a' := ?_) #[true, false, true, false, false, false, false, false, false, false, false, false] rfl rfl (any_of HT_.out (by kernel_rfl)) (fun _ _ _ h => h) (Or.inl ⟨by rfl, ?_⟩) ?_ ?_
          rotate_left
          ·intro w'
           go_simp
           with_reducible rfl
          rotate_left
          ·simp only [Act.put, List.setIfInBounds_toArray, List.set_cons_zero, List.set_cons_succ, i64_w, i32_w]
           rfl
          refine pure_ (i := 4) (N := some 48) (v := ?_) (a' := ?_) #[true, false, true, false, true, false, false, false, false, false, false, false] rfl rfl (any_of HT_.out (by kernel_rfl)) (fun _ _ _ h => h) (Or.inl ⟨by rfl, ?_⟩) ?_ ?_
          rotate_left
          ·intro w'
           go_simp
           with_reducible rfl
          rotate_left
          ·simp only [Act.put, List.setIfInBounds_toArray, List.set_cons_zero, List.set_cons_succ, i64_w, i32_w]
           rfl
          refine take_ (i := 1) (N := some 45) (v := ?_) (a' := ?_) #[true, true, true, false, true, false, false, false, false, false, false, false] rfl rfl (take_ofW HT_.out HW_.out (by kernel_rfl)) (fun _ _ _ h => h) (Or.inl ⟨by rfl, ?_⟩) hHeld ?_ ?_
          rotate_left
          ·rintro w' ⟨s0, s1, s2, s3, s4, s5, s6⟩
           go_simp
           with_reducible rfl
          rotate_left
          ·simp only [Act.put, List.setIfInBounds_toArray, List.set_cons_zero, List.set_cons_succ, i64_w, i32_w]
           rfl
          refine pure_ (i := 6) (N := some 50) (v := ?_) (a' := ?_) #[true, true, true, false, true, false, true, false, false, false, false, false] rfl rfl (any_of HT_.out (by kernel_rfl)) (fun _ _ _ h => h) (Or.inl ⟨by rfl, ?_⟩) ?_ ?_
          rotate_left
          ·intro w'
           go_simp
           with_reducible rfl
          rotate_left
          ·simp only [Act.put, List.setIfInBounds_toArray, List.set_cons_zero, List.set_cons_succ, i64_w, i32_w]
           rfl
          refine take_ (i := 3) (N := some 47) (v := ?_) (a' := ?_) #[true, true, true, true, true, false, true, false, false, false, false, false] rfl rfl (take_ofW HT_.out HW_.out (by kernel_rfl)) (fun _ _ _ h => h) (Or.inl ⟨by rfl, ?_⟩) hHeld ?_ ?_
          rotate_left
          ·rintro w' ⟨s0, s1, s2, s3, s4, s5, s6⟩
           go_simp
           with_reducible rfl
          rotate_left
          ·simp only [Act.put, List.setIfInBounds_toArray, List.set_cons_zero, List.set_cons_succ, i64_w, i32_w]
           rfl
          refine take_ (i := 5) (N := some 49) (v := ?_) (a' := ?_) #[true, true, true, true, true, true, true, false, false, false, false, false] rfl rfl (take_ofW HT_.out HW_.out (by kernel_rfl)) (fun _ _ _ h => h) (Or.inl ⟨by rfl, ?_⟩) hHeld ?_ ?_
          rotate_left
          ·rintro w' ⟨s0, s1, s2, s3, s4, s5, s6⟩
           go_simp
           with_reducible rfl
          rotate_left
          ·simp only [Act.put, List.setIfInBounds_toArray, List.set_cons_zero, List.set_cons_succ, i64_w, i32_w]
           rfl
          refine one_ (i := 7) (N := none) #[true, true, true, true, true, true, true, true, false, false, false, false] rfl rfl (one_of HT_.out (by kernel_rfl)) (by decide) (fun K hK => ?_)
          have hs45 : w44.cell? ⟨gb104, 4, none⟩ = some (.int .i64 0) := (bqC BK104.out 4).trans rfl
          have hfs45 := bqF BK104.out 4
          have hns45_0 := NB103_104.out
          have hms45_0 := NB104_103.out
          refine skip_ (w1 := ?_) (by rfl) rfl ?_ ?_
          rotate_left
          ·go_simp
           rfl
          refine hK.out _ _ ⟨(GS.cf hHeld.1), (GS.cf hHeld.2.1), (GS.cf hHeld.2.2.1), (GS.cf hHeld.2.2.2.1), (GS.cf hHeld.2.2.2.2.1), (GS.cf hHeld.2.2.2.2.2.1), (GS.cf hHeld.2.2.2.2.2.2)⟩ (fun hHeld => ?_)
          clear hK K
          refine pure_ (i := 8) (N := some 51) (v := ?_) (a' := ?_) #[true, true, true, true, true, true, true, true, true, false, false, false] rfl rfl (any_of HT_.out (by kernel_rfl)) (fun _ _ _ h => h) (Or.inl ⟨by rfl, ?_⟩) ?_ ?_
          rotate_left
          ·intro w'
           go_simp
           with_reducible rfl
          rotate_left
          ·simp only [Act.put, List.setIfInBounds_toArray, List.set_cons_zero, List.set_cons_succ, i64_w, i32_w]
           rfl
          refine one_ (i := 9) (N := none) #[true, true, true, true, true, true, true, true, true, true, false, false] rfl rfl (one_of HT_.out (by kernel_rfl)) (by decide) (fun K hK => ?_)
          have hs46 : w44.cell? ⟨gb104, 5, none⟩ = some (.int .i64 0) := (bqC BK104.out 5).trans rfl
          have hfs46 := bqF BK104.out 5
          have hns46_0 := NB103_104.out
          have hms46_0 := NB104_103.out
          refine skip_ (w1 := ?_) (by rfl) rfl ?_ ?_
          rotate_left
          ·go_simp
           rfl
          refine hK.out _ _ ⟨(GS.cf hHeld.1), (GS.cf hHeld.2.1), (GS.cf hHeld.2.2.1), (GS.cf hHeld.2.2.2.1), (GS.cf hHeld.2.2.2.2.1), (GS.cf hHeld.2.2.2.2.2.1), (GS.cf hHeld.2.2.2.2.2.2)⟩ (fun hHeld => ?_)
          clear hK K
          refine pure_ (i := 10) (N := some 52) (v := ?_) (a' := ?_) #[true, true, true, true, true, true, true, true, true, true, true, false] rfl rfl (any_of HT_.out (by kernel_rfl)) (fun _ _ _ h => h) (Or.inl ⟨by rfl, ?_⟩) ?_ ?_
          rotate_left
          ·intro w'
           go_simp
           with_reducible rfl
          rotate_left
          ·simp only [Act.put, List.setIfInBounds_toArray, List.set_cons_zero, List.set_cons_succ, i64_w, i32_w]
           rfl
          refine one_ (i := 11) (N := none) #[true, true, true, true, true, true, true, true, true, true, true, true] rfl rfl (one_of HT_.out (by kernel_rfl)) (by decide) (fun K hK => ?_)
          have hs47 : w44.cell? ⟨gb104, 6, none⟩ = some (.int .i64 0) := (bqC BK104.out 6).trans rfl
          have hfs47 := bqF BK104.out 6
          have hns47_0 := NB103_104.out
          have hms47_0 := NB104_103.out
          refine skip_ (w1 := ?_) (by rfl) rfl ?_ ?_
          rotate_left
          ·go_simp
           rfl
          refine hK.out _ _ ⟨(GS.cf hHeld.1), (GS.cf hHeld.2.1), (GS.cf hHeld.2.2.1), (GS.cf hHeld.2.2.2.1), (GS.cf hHeld.2.2.2.2.1), (GS.cf hHeld.2.2.2.2.2.1), (GS.cf hHeld.2.2.2.2.2.2)⟩ (fun hHeld => ?_)
          clear hK K
          refine done_ (done_of HT_.out (by kernel_rfl)) ?_
          have hnb48 := NB103_104.out
          have hnc48 := NB104_103.out
          obtain ⟨hcz49_0, hcz49_1, hcz49_2, hcz49_3, hcz49_4, hcz49_5, hcz49_6, hfz49_0, hfz49_1, hfz49_2, hfz49_3, hfz49_4, hfz49_5, hfz49_6⟩ := GS.c7 BK103.out
          try go_wp2_with (first | ((with_reducible refine gqC (f := 57) rfl ?_); refine GS.gL (some 55) Try.func57 #[.int .i64 a0_4] ?_; (with_reducible refine (document_node.calls a0_4 true _ A23.out).mono ?_); rintro e w' ⟨rfl, ⟨nd, rfl⟩⟩; refine ⟨_, rfl, ?_⟩) | (go_at_call 57; (with_reducible refine (document_node.calls a0_5 true _ A25.out).mono ?_); rintro e w' ⟨rfl, ⟨nd, rfl⟩⟩))
          go_meet
          case rel => exact ⟨_, (false), (0), (a0_4), (a0_5), (a0_6), (by first | rfl | (simp; done) | (simp [*]; done)), H', ⟨by have := HJ1.out; first | omega | exact Nat.le_refl _⟩, ⟨GS.bqX BK103.out⟩, ⟨GS.bqZ BK104.out⟩, ⟨GS.lB HB.out⟩⟩
       ·replace c26 := Bool.eq_false_iff.mpr c26
        subst c26
        have H1 : (document_Check.j1 kj1 false a0_0 a0_1 a0_2 a0_3 a0_4 a0_5 a0_6 a0_0 a0_1 0 a0_3 a0_4 a0_5 a0_6) = some r := by rw [if_neg (show ¬ (false = true) by decide)] at H; exact H
        clear H
        have H := H1
        clear H1
        have H' := Aside0.mk H
        clear H
        try go_wp2
        have n0_ : Aside0 ((((((((w18.setCell ⟨gb104, 0, none⟩ (.int .i64 a0_0)).setCell ⟨gb104, 1, none⟩ (.int .i64 a0_1)).setCell ⟨gb104, 2, none⟩ (.int .i64 0)).setCell ⟨gb104, 3, none⟩ (.int .i64 a0_3)).setCell ⟨gb104, 4, none⟩ (.int .i64 0)).setCell ⟨gb104, 5, none⟩ (.int .i64 0)).setCell ⟨gb104, 6, none⟩ (.int .i64 0)).heap[gb103]? = some (.cells #[.int .i64 a0_0, .int .i64 a0_1, .int .i64 a0_2, .int .i64 a0_3, .int .i64 a0_4, .int .i64 a0_5, .int .i64 a0_6] 26 (0, 0))) := ⟨GS.bqX BK103.out⟩
        have n1_ : Aside0 ((((((((w18.setCell ⟨gb104, 0, none⟩ (.int .i64 a0_0)).setCell ⟨gb104, 1, none⟩ (.int .i64 a0_1)).setCell ⟨gb104, 2, none⟩ (.int .i64 0)).setCell ⟨gb104, 3, none⟩ (.int .i64 a0_3)).setCell ⟨gb104, 4, none⟩ (.int .i64 0)).setCell ⟨gb104, 5, none⟩ (.int .i64 0)).setCell ⟨gb104, 6, none⟩ (.int .i64 0)).heap[gb104]? = some (.cells #[.int .i64 a0_0, .int .i64 a0_1, .int .i64 0, .int .i64 a0_3, .int .i64 0, .int .i64 0, .int .i64 0] 26 (0, 0))) := ⟨GS.bqZ BK104.out⟩
        have n2_ : Aside0 (Below w.heap.size w (((((((w18.setCell ⟨gb104, 0, none⟩ (.int .i64 a0_0)).setCell ⟨gb104, 1, none⟩ (.int .i64 a0_1)).setCell ⟨gb104, 2, none⟩ (.int .i64 0)).setCell ⟨gb104, 3, none⟩ (.int .i64 a0_3)).setCell ⟨gb104, 4, none⟩ (.int .i64 0)).setCell ⟨gb104, 5, none⟩ (.int .i64 0)).setCell ⟨gb104, 6, none⟩ (.int .i64 0))) := ⟨GS.lB HB.out⟩
        (try clear BK103)
        (try clear BK104)
        (try clear HB)
        generalize (((((((w18.setCell ⟨gb104, 0, none⟩ (.int .i64 a0_0)).setCell ⟨gb104, 1, none⟩ (.int .i64 a0_1)).setCell ⟨gb104, 2, none⟩ (.int .i64 0)).setCell ⟨gb104, 3, none⟩ (.int .i64 a0_3)).setCell ⟨gb104, 4, none⟩ (.int .i64 0)).setCell ⟨gb104, 5, none⟩ (.int .i64 0)).setCell ⟨gb104, 6, none⟩ (.int .i64 0)) = w50 at n0_ n1_ n2_ ⊢
        have BK103 := n0_
        have BK104 := n1_
        have HB := n2_
        clear n0_ n1_ n2_
        have n0_ := Aside0.mk (bqD BK103.out)
        have n1_ := Aside0.mk (bqD BK104.out)
        have n2_ := Aside0.mk (lqD HB.out)
        clear BK103
        clear BK104
        clear HB
        have BK103 := n0_
        have BK104 := n1_
        have HB := n2_
        clear n0_ n1_ n2_
        refine start_ (n := 12) (S := fun w' => w'.cell? ⟨gb103, 0, none⟩ = some (.int .i64 a0_0) ∧ w'.cell? ⟨gb103, 1, none⟩ = some (.int .i64 a0_1) ∧ w'.cell? ⟨gb103, 2, none⟩ = some (.int .i64 a0_2) ∧ w'.cell? ⟨gb103, 3, none⟩ = some (.int .i64 a0_3) ∧ w'.cell? ⟨gb103, 4, none⟩ = some (.int .i64 a0_4) ∧ w'.cell? ⟨gb103, 5, none⟩ = some (.int .i64 a0_5) ∧ w'.cell? ⟨gb103, 6, none⟩ = some (.int .i64 a0_6)) (ds := []) #[false, false, false, false, false, false, false, false, false, false, false, false] (by kernel_rfl) rfl rfl ⟨(bqC BK103.out 0).trans rfl, (bqC BK103.out 1).trans rfl, (bqC BK103.out 2).trans rfl, (bqC BK103.out 3).trans rfl, (bqC BK103.out 4).trans rfl, (bqC BK103.out 5).trans rfl, (bqC BK103.out 6).trans rfl⟩ (fun hHeld => ?_); refine with_tabW document_Check.tab7 document_Check.bits7 (fun HT_ HW_ => ?_)
        generalize w50.drew = w51 at BK103 BK104 HB hHeld ⊢
        refine pure_ (i := 0) (N := some 44) (v := ?_) (a' := ?_) #[true, false, false, false, false, false, false, false, false, false, false, false] rfl rfl (any_of HT_.out (by kernel_rfl)) (fun _ _ _ h => h) (Or.inl ⟨by rfl, ?_⟩) ?_ ?_
        rotate_left
        ·intro w'
         go_simp
         with_reducible rfl
        rotate_left
        ·simp only [Act.put, List.setIfInBounds_toArray, List.set_cons_zero, List.set_cons_succ, i64_w, i32_w]
         rfl
        refine pure_ (i := 2) (N := some 46) (v := ?_) (a' := ?_) #[true, false, true, false, false, false, false, false, false, false, false, false] rfl rfl (any_of HT_.out (by kernel_rfl)) (fun _ _ _ h => h) (Or.inl ⟨by rfl, ?_⟩) ?_ ?_
        rotate_left
        ·intro w'
         go_simp
         with_reducible rfl
        rotate_left
        ·simp only [Act.put, List.setIfInBounds_toArray, List.set_cons_zero, List.set_cons_succ, i64_w, i32_w]
         rfl
        refine pure_ (i := 4) (N := some 48) (v := ?_) (a' := ?_) #[true, false, true, false, true, false, false, false, false, false, false, false] rfl rfl (any_of HT_.out (by kernel_rfl)) (fun _ _ _ h => h) (Or.inl ⟨by rfl, ?_⟩) ?_ ?_
        rotate_left
        ·intro w'
         go_simp
         with_reducible rfl
        rotate_left
        ·simp only [Act.put, List.setIfInBounds_toArray, List.set_cons_zero, List.set_cons_succ, i64_w, i32_w]
         rfl
        refine take_ (i := 1) (N := some 45) (v := ?_) (a' := ?_) #[true, true, true, false, true, false, false, false, false, false, false, false] rfl rfl (take_ofW HT_.out HW_.out (by kernel_rfl)) (fun _ _ _ h => h) (Or.inl ⟨by rfl, ?_⟩) hHeld ?_ ?_
        rotate_left
        ·rintro w' ⟨s0, s1, s2, s3, s4, s5, s6⟩
         go_simp
         with_reducible rfl
        rotate_left
        ·simp only [Act.put, List.setIfInBounds_toArray, List.set_cons_zero, List.set_cons_succ, i64_w, i32_w]
         rfl
        refine pure_ (i := 6) (N := some 50) (v := ?_) (a' := ?_) #[true, true, true, false, true, false, true, false, false, false, false, false] rfl rfl (any_of HT_.out (by kernel_rfl)) (fun _ _ _ h => h) (Or.inl ⟨by rfl, ?_⟩) ?_ ?_
        rotate_left
        ·intro w'
         go_simp
         with_reducible rfl
        rotate_left
        ·simp only [Act.put, List.setIfInBounds_toArray, List.set_cons_zero, List.set_cons_succ, i64_w, i32_w]
         rfl
        refine take_ (i := 3) (N := some 47) (v := ?_) (a' := ?_) #[true, true, true, true, true, false, true, false, false, false, false, false] rfl rfl (take_ofW HT_.out HW_.out (by kernel_rfl)) (fun _ _ _ h => h) (Or.inl ⟨by rfl, ?_⟩) hHeld ?_ ?_
        rotate_left
        ·rintro w' ⟨s0, s1, s2, s3, s4, s5, s6⟩
         go_simp
         with_reducible rfl
        rotate_left
        ·simp only [Act.put, List.setIfInBounds_toArray, List.set_cons_zero, List.set_cons_succ, i64_w, i32_w]
         rfl
        refine take_ (i := 5) (N := some 49) (v := ?_) (a' := ?_) #[true, true, true, true, true, true, true, false, false, false, false, false] rfl rfl (take_ofW HT_.out HW_.out (by kernel_rfl)) (fun _ _ _ h => h) (Or.inl ⟨by rfl, ?_⟩) hHeld ?_ ?_
        rotate_left
        ·rintro w' ⟨s0, s1, s2, s3, s4, s5, s6⟩
         go_simp
         with_reducible rfl
        rotate_left
        ·simp only [Act.put, List.setIfInBounds_toArray, List.set_cons_zero, List.set_cons_succ, i64_w, i32_w]
         rfl
        refine one_ (i := 7) (N := none) #[true, true, true, true, true, true, true, true, false, false, false, false] rfl rfl (one_of HT_.out (by kernel_rfl)) (by decide) (fun K hK => ?_)
        have hs52 : w51.cell? ⟨gb104, 4, none⟩ = some (.int .i64 0) := (bqC BK104.out 4).trans rfl
        have hfs52 := bqF BK104.out 4
        have hns52_0 := NB103_104.out
        have hms52_0 := NB104_103.out
        refine skip_ (w1 := ?_) (by rfl) rfl ?_ ?_
        rotate_left
        ·go_simp
         rfl
        refine hK.out _ _ ⟨(GS.cf hHeld.1), (GS.cf hHeld.2.1), (GS.cf hHeld.2.2.1), (GS.cf hHeld.2.2.2.1), (GS.cf hHeld.2.2.2.2.1), (GS.cf hHeld.2.2.2.2.2.1), (GS.cf hHeld.2.2.2.2.2.2)⟩ (fun hHeld => ?_)
        clear hK K
        refine pure_ (i := 8) (N := some 51) (v := ?_) (a' := ?_) #[true, true, true, true, true, true, true, true, true, false, false, false] rfl rfl (any_of HT_.out (by kernel_rfl)) (fun _ _ _ h => h) (Or.inl ⟨by rfl, ?_⟩) ?_ ?_
        rotate_left
        ·intro w'
         go_simp
         with_reducible rfl
        rotate_left
        ·simp only [Act.put, List.setIfInBounds_toArray, List.set_cons_zero, List.set_cons_succ, i64_w, i32_w]
         rfl
        refine one_ (i := 9) (N := none) #[true, true, true, true, true, true, true, true, true, true, false, false] rfl rfl (one_of HT_.out (by kernel_rfl)) (by decide) (fun K hK => ?_)
        have hs53 : w51.cell? ⟨gb104, 5, none⟩ = some (.int .i64 0) := (bqC BK104.out 5).trans rfl
        have hfs53 := bqF BK104.out 5
        have hns53_0 := NB103_104.out
        have hms53_0 := NB104_103.out
        refine skip_ (w1 := ?_) (by rfl) rfl ?_ ?_
        rotate_left
        ·go_simp
         rfl
        refine hK.out _ _ ⟨(GS.cf hHeld.1), (GS.cf hHeld.2.1), (GS.cf hHeld.2.2.1), (GS.cf hHeld.2.2.2.1), (GS.cf hHeld.2.2.2.2.1), (GS.cf hHeld.2.2.2.2.2.1), (GS.cf hHeld.2.2.2.2.2.2)⟩ (fun hHeld => ?_)
        clear hK K
        refine pure_ (i := 10) (N := some 52) (v := ?_) (a' := ?_) #[true, true, true, true, true, true, true, true, true, true, true, false] rfl rfl (any_of HT_.out (by kernel_rfl)) (fun _ _ _ h => h) (Or.inl ⟨by rfl, ?_⟩) ?_ ?_
        rotate_left
        ·intro w'
         go_simp
         with_reducible rfl
        rotate_left
        ·simp only [Act.put, List.setIfInBounds_toArray, List.set_cons_zero, List.set_cons_succ, i64_w, i32_w]
         rfl
        refine one_ (i := 11) (N := none) #[true, true, true, true, true, true, true, true, true, true, true, true] rfl rfl (one_of HT_.out (by kernel_rfl)) (by decide) (fun K hK => ?_)
        have hs54 : w51.cell? ⟨gb104, 6, none⟩ = some (.int .i64 0) := (bqC BK104.out 6).trans rfl
        have hfs54 := bqF BK104.out 6
        have hns54_0 := NB103_104.out
        have hms54_0 := NB104_103.out
        refine skip_ (w1 := ?_) (by rfl) rfl ?_ ?_
        rotate_left
        ·go_simp
         rfl
        refine hK.out _ _ ⟨(GS.cf hHeld.1), (GS.cf hHeld.2.1), (GS.cf hHeld.2.2.1), (GS.cf hHeld.2.2.2.1), (GS.cf hHeld.2.2.2.2.1), (GS.cf hHeld.2.2.2.2.2.1), (GS.cf hHeld.2.2.2.2.2.2)⟩ (fun hHeld => ?_)
        clear hK K
        refine done_ (done_of HT_.out (by kernel_rfl)) ?_
        have hnb55 := NB103_104.out
        have hnc55 := NB104_103.out
        obtain ⟨hcz56_0, hcz56_1, hcz56_2, hcz56_3, hcz56_4, hcz56_5, hcz56_6, hfz56_0, hfz56_1, hfz56_2, hfz56_3, hfz56_4, hfz56_5, hfz56_6⟩ := GS.c7 BK103.out
        try go_wp2_with (first | ((with_reducible refine gqC (f := 57) rfl ?_); refine GS.gL (some 55) Try.func57 #[.int .i64 a0_4] ?_; (with_reducible refine (document_node.calls a0_4 true _ A23.out).mono ?_); rintro e w' ⟨rfl, ⟨nd, rfl⟩⟩; refine ⟨_, rfl, ?_⟩) | (go_at_call 57; (with_reducible refine (document_node.calls a0_5 false _ A25.out).mono ?_); rintro e w' ⟨rfl, ⟨nd, rfl⟩⟩))
        go_meet
        case rel => exact ⟨_, (false), (0), (a0_4), (a0_5), (a0_6), (by first | rfl | (simp; done) | (simp [*]; done)), H', ⟨by have := HJ1.out; first | omega | exact Nat.le_refl _⟩, ⟨GS.bqX BK103.out⟩, ⟨GS.bqZ BK104.out⟩, ⟨GS.lB HB.out⟩⟩
      ·replace c24 := Bool.eq_false_iff.mpr c24
       subst c24
       have H1 : (document_Check.j1 kj1 false a0_0 a0_1 a0_2 a0_3 a0_4 a0_5 a0_6 a0_0 a0_1 0 a0_3 a0_4 a0_5 a0_6) = some r := by rw [if_neg (show ¬ (false = true) by decide)] at H; exact H
       clear H
       have H := H1
       clear H1
       have H' := Aside0.mk H
       clear H
       try go_wp2
       have n0_ : Aside0 ((((((((w18.setCell ⟨gb104, 0, none⟩ (.int .i64 a0_0)).setCell ⟨gb104, 1, none⟩ (.int .i64 a0_1)).setCell ⟨gb104, 2, none⟩ (.int .i64 0)).setCell ⟨gb104, 3, none⟩ (.int .i64 a0_3)).setCell ⟨gb104, 4, none⟩ (.int .i64 0)).setCell ⟨gb104, 5, none⟩ (.int .i64 0)).setCell ⟨gb104, 6, none⟩ (.int .i64 0)).heap[gb103]? = some (.cells #[.int .i64 a0_0, .int .i64 a0_1, .int .i64 a0_2, .int .i64 a0_3, .int .i64 a0_4, .int .i64 a0_5, .int .i64 a0_6] 26 (0, 0))) := ⟨GS.bqX BK103.out⟩
       have n1_ : Aside0 ((((((((w18.setCell ⟨gb104, 0, none⟩ (.int .i64 a0_0)).setCell ⟨gb104, 1, none⟩ (.int .i64 a0_1)).setCell ⟨gb104, 2, none⟩ (.int .i64 0)).setCell ⟨gb104, 3, none⟩ (.int .i64 a0_3)).setCell ⟨gb104, 4, none⟩ (.int .i64 0)).setCell ⟨gb104, 5, none⟩ (.int .i64 0)).setCell ⟨gb104, 6, none⟩ (.int .i64 0)).heap[gb104]? = some (.cells #[.int .i64 a0_0, .int .i64 a0_1, .int .i64 0, .int .i64 a0_3, .int .i64 0, .int .i64 0, .int .i64 0] 26 (0, 0))) := ⟨GS.bqZ BK104.out⟩
       have n2_ : Aside0 (Below w.heap.size w (((((((w18.setCell ⟨gb104, 0, none⟩ (.int .i64 a0_0)).setCell ⟨gb104, 1, none⟩ (.int .i64 a0_1)).setCell ⟨gb104, 2, none⟩ (.int .i64 0)).setCell ⟨gb104, 3, none⟩ (.int .i64 a0_3)).setCell ⟨gb104, 4, none⟩ (.int .i64 0)).setCell ⟨gb104, 5, none⟩ (.int .i64 0)).setCell ⟨gb104, 6, none⟩ (.int .i64 0))) := ⟨GS.lB HB.out⟩
       (try clear BK103)
       (try clear BK104)
       (try clear HB)
       generalize (((((((w18.setCell ⟨gb104, 0, none⟩ (.int .i64 a0_0)).setCell ⟨gb104, 1, none⟩ (.int .i64 a0_1)).setCell ⟨gb104, 2, none⟩ (.int .i64 0)).setCell ⟨gb104, 3, none⟩ (.int .i64 a0_3)).setCell ⟨gb104, 4, none⟩ (.int .i64 0)).setCell ⟨gb104, 5, none⟩ (.int .i64 0)).setCell ⟨gb104, 6, none⟩ (.int .i64 0)) = w57 at n0_ n1_ n2_ ⊢
       have BK103 := n0_
       have BK104 := n1_
       have HB := n2_
       clear n0_ n1_ n2_
       have n0_ := Aside0.mk (bqD BK103.out)
       have n1_ := Aside0.mk (bqD BK104.out)
       have n2_ := Aside0.mk (lqD HB.out)
       clear BK103
       clear BK104
       clear HB
       have BK103 := n0_
       have BK104 := n1_
       have HB := n2_
       clear n0_ n1_ n2_
       refine start_ (n := 12) (S := fun w' => w'.cell? ⟨gb103, 0, none⟩ = some (.int .i64 a0_0) ∧ w'.cell? ⟨gb103, 1, none⟩ = some (.int .i64 a0_1) ∧ w'.cell? ⟨gb103, 2, none⟩ = some (.int .i64 a0_2) ∧ w'.cell? ⟨gb103, 3, none⟩ = some (.int .i64 a0_3) ∧ w'.cell? ⟨gb103, 4, none⟩ = some (.int .i64 a0_4) ∧ w'.cell? ⟨gb103, 5, none⟩ = some (.int .i64 a0_5) ∧ w'.cell? ⟨gb103, 6, none⟩ = some (.int .i64 a0_6)) (ds := []) #[false, false, false, false, false, false, false, false, false, false, false, false] (by kernel_rfl) rfl rfl ⟨(bqC BK103.out 0).trans rfl, (bqC BK103.out 1).trans rfl, (bqC BK103.out 2).trans rfl, (bqC BK103.out 3).trans rfl, (bqC BK103.out 4).trans rfl, (bqC BK103.out 5).trans rfl, (bqC BK103.out 6).trans rfl⟩ (fun hHeld => ?_); refine with_tabW document_Check.tab7 document_Check.bits7 (fun HT_ HW_ => ?_)
       generalize w57.drew = w58 at BK103 BK104 HB hHeld ⊢
       refine pure_ (i := 0) (N := some 44) (v := ?_) (a' := ?_) #[true, false, false, false, false, false, false, false, false, false, false, false] rfl rfl (any_of HT_.out (by kernel_rfl)) (fun _ _ _ h => h) (Or.inl ⟨by rfl, ?_⟩) ?_ ?_
       rotate_left
       ·intro w'
        go_simp
        with_reducible rfl
       rotate_left
       ·simp only [Act.put, List.setIfInBounds_toArray, List.set_cons_zero, List.set_cons_succ, i64_w, i32_w]
        rfl
       refine pure_ (i := 2) (N := some 46) (v := ?_) (a' := ?_) #[true, false, true, false, false, false, false, false, false, false, false, false] rfl rfl (any_of HT_.out (by kernel_rfl)) (fun _ _ _ h => h) (Or.inl ⟨by rfl, ?_⟩) ?_ ?_
       rotate_left
       ·intro w'
        go_simp
        with_reducible rfl
       rotate_left
       ·simp only [Act.put, List.setIfInBounds_toArray, List.set_cons_zero, List.set_cons_succ, i64_w, i32_w]
        rfl
       refine pure_ (i := 4) (N := some 48) (v := ?_) (a' := ?_) #[true, false, true, false, true, false, false, false, false, false, false, false] rfl rfl (any_of HT_.out (by kernel_rfl)) (fun _ _ _ h => h) (Or.inl ⟨by rfl, ?_⟩) ?_ ?_
       rotate_left
       ·intro w'
        go_simp
        with_reducible rfl
       rotate_left
       ·simp only [Act.put, List.setIfInBounds_toArray, List.set_cons_zero, List.set_cons_succ, i64_w, i32_w]
        rfl
       refine take_ (i := 1) (N := some 45) (v := ?_) (a' := ?_) #[true, true, true, false, true, false, false, false, false, false, false, false] rfl rfl (take_ofW HT_.out HW_.out (by kernel_rfl)) (fun _ _ _ h => h) (Or.inl ⟨by rfl, ?_⟩) hHeld ?_ ?_
       rotate_left
       ·rintro w' ⟨s0, s1, s2, s3, s4, s5, s6⟩
        go_simp
        with_reducible rfl
       rotate_left
       ·simp only [Act.put, List.setIfInBounds_toArray, List.set_cons_zero, List.set_cons_succ, i64_w, i32_w]
        rfl
       refine pure_ (i := 6) (N := some 50) (v := ?_) (a' := ?_) #[true, true, true, false, true, false, true, false, false, false, false, false] rfl rfl (any_of HT_.out (by kernel_rfl)) (fun _ _ _ h => h) (Or.inl ⟨by rfl, ?_⟩) ?_ ?_
       rotate_left
       ·intro w'
        go_simp
        with_reducible rfl
       rotate_left
       ·simp only [Act.put, List.setIfInBounds_toArray, List.set_cons_zero, List.set_cons_succ, i64_w, i32_w]
        rfl
       refine take_ (i := 3) (N := some 47) (v := ?_) (a' := ?_) #[true, true, true, true, true, false, true, false, false, false, false, false] rfl rfl (take_ofW HT_.out HW_.out (by kernel_rfl)) (fun _ _ _ h => h) (Or.inl ⟨by rfl, ?_⟩) hHeld ?_ ?_
       rotate_left
       ·rintro w' ⟨s0, s1, s2, s3, s4, s5, s6⟩
        go_simp
        with_reducible rfl
       rotate_left
       ·simp only [Act.put, List.setIfInBounds_toArray, List.set_cons_zero, List.set_cons_succ, i64_w, i32_w]
        rfl
       refine take_ (i := 5) (N := some 49) (v := ?_) (a' := ?_) #[true, true, true, true, true, true, true, false, false, false, false, false] rfl rfl (take_ofW HT_.out HW_.out (by kernel_rfl)) (fun _ _ _ h => h) (Or.inl ⟨by rfl, ?_⟩) hHeld ?_ ?_
       rotate_left
       ·rintro w' ⟨s0, s1, s2, s3, s4, s5, s6⟩
        go_simp
        with_reducible rfl
       rotate_left
       ·simp only [Act.put, List.setIfInBounds_toArray, List.set_cons_zero, List.set_cons_succ, i64_w, i32_w]
        rfl
       refine one_ (i := 7) (N := none) #[true, true, true, true, true, true, true, true, false, false, false, false] rfl rfl (one_of HT_.out (by kernel_rfl)) (by decide) (fun K hK => ?_)
       have hs59 : w58.cell? ⟨gb104, 4, none⟩ = some (.int .i64 0) := (bqC BK104.out 4).trans rfl
       have hfs59 := bqF BK104.out 4
       have hns59_0 := NB103_104.out
       have hms59_0 := NB104_103.out
       refine skip_ (w1 := ?_) (by rfl) rfl ?_ ?_
       rotate_left
       ·go_simp
        rfl
       refine hK.out _ _ ⟨(GS.cf hHeld.1), (GS.cf hHeld.2.1), (GS.cf hHeld.2.2.1), (GS.cf hHeld.2.2.2.1), (GS.cf hHeld.2.2.2.2.1), (GS.cf hHeld.2.2.2.2.2.1), (GS.cf hHeld.2.2.2.2.2.2)⟩ (fun hHeld => ?_)
       clear hK K
       refine pure_ (i := 8) (N := some 51) (v := ?_) (a' := ?_) #[true, true, true, true, true, true, true, true, true, false, false, false] rfl rfl (any_of HT_.out (by kernel_rfl)) (fun _ _ _ h => h) (Or.inl ⟨by rfl, ?_⟩) ?_ ?_
       rotate_left
       ·intro w'
        go_simp
        with_reducible rfl
       rotate_left
       ·simp only [Act.put, List.setIfInBounds_toArray, List.set_cons_zero, List.set_cons_succ, i64_w, i32_w]
        rfl
       refine one_ (i := 9) (N := none) #[true, true, true, true, true, true, true, true, true, true, false, false] rfl rfl (one_of HT_.out (by kernel_rfl)) (by decide) (fun K hK => ?_)
       have hs60 : w58.cell? ⟨gb104, 5, none⟩ = some (.int .i64 0) := (bqC BK104.out 5).trans rfl
       have hfs60 := bqF BK104.out 5
       have hns60_0 := NB103_104.out
       have hms60_0 := NB104_103.out
       refine skip_ (w1 := ?_) (by rfl) rfl ?_ ?_
       rotate_left
       ·go_simp
        rfl
       refine hK.out _ _ ⟨(GS.cf hHeld.1), (GS.cf hHeld.2.1), (GS.cf hHeld.2.2.1), (GS.cf hHeld.2.2.2.1), (GS.cf hHeld.2.2.2.2.1), (GS.cf hHeld.2.2.2.2.2.1), (GS.cf hHeld.2.2.2.2.2.2)⟩ (fun hHeld => ?_)
       clear hK K
       refine pure_ (i := 10) (N := some 52) (v := ?_) (a' := ?_) #[true, true, true, true, true, true, true, true, true, true, true, false] rfl rfl (any_of HT_.out (by kernel_rfl)) (fun _ _ _ h => h) (Or.inl ⟨by rfl, ?_⟩) ?_ ?_
       rotate_left
       ·intro w'
        go_simp
        with_reducible rfl
       rotate_left
       ·simp only [Act.put, List.setIfInBounds_toArray, List.set_cons_zero, List.set_cons_succ, i64_w, i32_w]
        rfl
       refine one_ (i := 11) (N := none) #[true, true, true, true, true, true, true, true, true, true, true, true] rfl rfl (one_of HT_.out (by kernel_rfl)) (by decide) (fun K hK => ?_)
       have hs61 : w58.cell? ⟨gb104, 6, none⟩ = some (.int .i64 0) := (bqC BK104.out 6).trans rfl
       have hfs61 := bqF BK104.out 6
       have hns61_0 := NB103_104.out
       have hms61_0 := NB104_103.out
       refine skip_ (w1 := ?_) (by rfl) rfl ?_ ?_
       rotate_left
       ·go_simp
        rfl
       refine hK.out _ _ ⟨(GS.cf hHeld.1), (GS.cf hHeld.2.1), (GS.cf hHeld.2.2.1), (GS.cf hHeld.2.2.2.1), (GS.cf hHeld.2.2.2.2.1), (GS.cf hHeld.2.2.2.2.2.1), (GS.cf hHeld.2.2.2.2.2.2)⟩ (fun hHeld => ?_)
       clear hK K
       refine done_ (done_of HT_.out (by kernel_rfl)) ?_
       have hnb62 := NB103_104.out
       have hnc62 := NB104_103.out
       obtain ⟨hcz63_0, hcz63_1, hcz63_2, hcz63_3, hcz63_4, hcz63_5, hcz63_6, hfz63_0, hfz63_1, hfz63_2, hfz63_3, hfz63_4, hfz63_5, hfz63_6⟩ := GS.c7 BK103.out
       try go_wp2_with (first | ((with_reducible refine gqC (f := 57) rfl ?_); refine GS.gL (some 55) Try.func57 #[.int .i64 a0_4] ?_; (with_reducible refine (document_node.calls a0_4 false _ A23.out).mono ?_); rintro e w' ⟨rfl, ⟨nd, rfl⟩⟩; refine ⟨_, rfl, ?_⟩))
       go_meet
       case rel => exact ⟨_, (false), (0), (a0_4), (a0_5), (a0_6), (by first | rfl | (simp; done) | (simp [*]; done)), H', ⟨by have := HJ1.out; first | omega | exact Nat.le_refl _⟩, ⟨GS.bqX BK103.out⟩, ⟨GS.bqZ BK104.out⟩, ⟨GS.lB HB.out⟩⟩
     ·rw [if_neg c22] at H
      have c22b0 : (a0_1 == 1) = false := beq_eq_false_iff_ne.mpr c22
      try simp only [beq_self_eq_true, Bool.not_true, Bool.false_or, Bool.true_and] at c22b0
      have c22b1 : (a0_1 != 1) = true := bne_iff_ne.mpr c22
      (first | rw [c22b0] | (simp only [i64_w, i32_w]; rw [c22b0]) | skip)
      by_cases c64 : a0_1 = 2
      ·rw [if_pos c64] at H
       have c64b0 : (a0_1 == 2) = true := beq_iff_eq.mpr c64
       try simp only [beq_self_eq_true, Bool.not_true, Bool.false_or, Bool.true_and] at c64b0
       have c64b1 : (a0_1 != 2) = false := bne_eq_false_iff_eq.mpr c64
       clear c64
       by_cases c65 : a0_2 ≥ 1
       ·rw [if_pos c65] at H
        have c65b0 : decide (1 ≤ a0_2) = true := decide_eq_true c65
        clear c65
        by_cases c66 : a0_2 ≤ 64
        ·rw [if_pos c66] at H
         have c66b0 : decide (a0_2 ≤ 64) = true := decide_eq_true c66
         clear c66
         replace H := Option.bind_eq_some_iff.mp H
         obtain ⟨t107, A670, H⟩ := H
         replace H : (document_Check.j1 kj1 t107 a0_0 a0_1 a0_2 a0_3 a0_4 a0_5 a0_6 a0_0 a0_1 a0_2 a0_3 0 a0_5 0) = some r := H
         have A67 := Aside0.mk A670
         clear A670
         have H' := Aside0.mk H
         clear H
         try go_wp2
         have n0_ : Aside0 ((((((((w18.setCell ⟨gb104, 0, none⟩ (.int .i64 a0_0)).setCell ⟨gb104, 1, none⟩ (.int .i64 a0_1)).setCell ⟨gb104, 2, none⟩ (.int .i64 0)).setCell ⟨gb104, 3, none⟩ (.int .i64 a0_3)).setCell ⟨gb104, 4, none⟩ (.int .i64 0)).setCell ⟨gb104, 5, none⟩ (.int .i64 0)).setCell ⟨gb104, 6, none⟩ (.int .i64 0)).heap[gb103]? = some (.cells #[.int .i64 a0_0, .int .i64 a0_1, .int .i64 a0_2, .int .i64 a0_3, .int .i64 a0_4, .int .i64 a0_5, .int .i64 a0_6] 26 (0, 0))) := ⟨GS.bqX BK103.out⟩
         have n1_ : Aside0 ((((((((w18.setCell ⟨gb104, 0, none⟩ (.int .i64 a0_0)).setCell ⟨gb104, 1, none⟩ (.int .i64 a0_1)).setCell ⟨gb104, 2, none⟩ (.int .i64 0)).setCell ⟨gb104, 3, none⟩ (.int .i64 a0_3)).setCell ⟨gb104, 4, none⟩ (.int .i64 0)).setCell ⟨gb104, 5, none⟩ (.int .i64 0)).setCell ⟨gb104, 6, none⟩ (.int .i64 0)).heap[gb104]? = some (.cells #[.int .i64 a0_0, .int .i64 a0_1, .int .i64 0, .int .i64 a0_3, .int .i64 0, .int .i64 0, .int .i64 0] 26 (0, 0))) := ⟨GS.bqZ BK104.out⟩
         have n2_ : Aside0 (Below w.heap.size w (((((((w18.setCell ⟨gb104, 0, none⟩ (.int .i64 a0_0)).setCell ⟨gb104, 1, none⟩ (.int .i64 a0_1)).setCell ⟨gb104, 2, none⟩ (.int .i64 0)).setCell ⟨gb104, 3, none⟩ (.int .i64 a0_3)).setCell ⟨gb104, 4, none⟩ (.int .i64 0)).setCell ⟨gb104, 5, none⟩ (.int .i64 0)).setCell ⟨gb104, 6, none⟩ (.int .i64 0))) := ⟨GS.lB HB.out⟩
         (try clear BK103)
         (try clear BK104)
         (try clear HB)
         generalize (((((((w18.setCell ⟨gb104, 0, none⟩ (.int .i64 a0_0)).setCell ⟨gb104, 1, none⟩ (.int .i64 a0_1)).setCell ⟨gb104, 2, none⟩ (.int .i64 0)).setCell ⟨gb104, 3, none⟩ (.int .i64 a0_3)).setCell ⟨gb104, 4, none⟩ (.int .i64 0)).setCell ⟨gb104, 5, none⟩ (.int .i64 0)).setCell ⟨gb104, 6, none⟩ (.int .i64 0)) = w68 at n0_ n1_ n2_ ⊢
         have BK103 := n0_
         have BK104 := n1_
         have HB := n2_
         clear n0_ n1_ n2_
         have n0_ := Aside0.mk (bqD BK103.out)
         have n1_ := Aside0.mk (bqD BK104.out)
         have n2_ := Aside0.mk (lqD HB.out)
         clear BK103
         clear BK104
         clear HB
         have BK103 := n0_
         have BK104 := n1_
         have HB := n2_
         clear n0_ n1_ n2_
         refine start_ (n := 8) (S := fun w' => w'.cell? ⟨gb103, 0, none⟩ = some (.int .i64 a0_0) ∧ w'.cell? ⟨gb103, 1, none⟩ = some (.int .i64 a0_1) ∧ w'.cell? ⟨gb103, 2, none⟩ = some (.int .i64 a0_2) ∧ w'.cell? ⟨gb103, 3, none⟩ = some (.int .i64 a0_3) ∧ w'.cell? ⟨gb103, 4, none⟩ = some (.int .i64 a0_4) ∧ w'.cell? ⟨gb103, 5, none⟩ = some (.int .i64 a0_5) ∧ w'.cell? ⟨gb103, 6, none⟩ = some (.int .i64 a0_6)) (ds := []) #[false, false, false, false, false, false, false, false] (by kernel_rfl) rfl rfl ⟨(bqC BK103.out 0).trans rfl, (bqC BK103.out 1).trans rfl, (bqC BK103.out 2).trans rfl, (bqC BK103.out 3).trans rfl, (bqC BK103.out 4).trans rfl, (bqC BK103.out 5).trans rfl, (bqC BK103.out 6).trans rfl⟩ (fun hHeld => ?_); refine with_tabW document_Check.tab10 document_Check.bits10 (fun HT_ HW_ => ?_)
         generalize w68.drew = w69 at BK103 BK104 HB hHeld ⊢
         refine pure_ (i := 0) (N := some 80) (v := ?_) (a' := ?_) #[true, false, false, false, false, false, false, false] rfl rfl (any_of HT_.out (by kernel_rfl)) (fun _ _ _ h => h) (Or.inl ⟨by rfl, ?_⟩) ?_ ?_
         rotate_left
         ·intro w'
          go_simp
          with_reducible rfl
         rotate_left
         ·simp only [Act.put, List.setIfInBounds_toArray, List.set_cons_zero, List.set_cons_succ, i64_w, i32_w]
          rfl
         refine pure_ (i := 2) (N := some 82) (v := ?_) (a' := ?_) #[true, false, true, false, false, false, false, false] rfl rfl (any_of HT_.out (by kernel_rfl)) (fun _ _ _ h => h) (Or.inl ⟨by rfl, ?_⟩) ?_ ?_
         rotate_left
         ·intro w'
          go_simp
          with_reducible rfl
         rotate_left
         ·simp only [Act.put, List.setIfInBounds_toArray, List.set_cons_zero, List.set_cons_succ, i64_w, i32_w]
          rfl
         refine take_ (i := 1) (N := some 81) (v := ?_) (a' := ?_) #[true, true, true, false, false, false, false, false] rfl rfl (take_ofW HT_.out HW_.out (by kernel_rfl)) (fun _ _ _ h => h) (Or.inl ⟨by rfl, ?_⟩) hHeld ?_ ?_
         rotate_left
         ·rintro w' ⟨s0, s1, s2, s3, s4, s5, s6⟩
          go_simp
          with_reducible rfl
         rotate_left
         ·simp only [Act.put, List.setIfInBounds_toArray, List.set_cons_zero, List.set_cons_succ, i64_w, i32_w]
          rfl
         refine pure_ (i := 4) (N := some 84) (v := ?_) (a' := ?_) #[true, true, true, false, true, false, false, false] rfl rfl (any_of HT_.out (by kernel_rfl)) (fun _ _ _ h => h) (Or.inl ⟨by rfl, ?_⟩) ?_ ?_
         rotate_left
         ·intro w'
          go_simp
          with_reducible rfl
         rotate_left
         ·simp only [Act.put, List.setIfInBounds_toArray, List.set_cons_zero, List.set_cons_succ, i64_w, i32_w]
          rfl
         refine take_ (i := 3) (N := some 83) (v := ?_) (a' := ?_) #[true, true, true, true, true, false, false, false] rfl rfl (take_ofW HT_.out HW_.out (by kernel_rfl)) (fun _ _ _ h => h) (Or.inl ⟨by rfl, ?_⟩) hHeld ?_ ?_
         rotate_left
         ·rintro w' ⟨s0, s1, s2, s3, s4, s5, s6⟩
          go_simp
          with_reducible rfl
         rotate_left
         ·simp only [Act.put, List.setIfInBounds_toArray, List.set_cons_zero, List.set_cons_succ, i64_w, i32_w]
          rfl
         refine one_ (i := 5) (N := none) #[true, true, true, true, true, true, false, false] rfl rfl (one_of HT_.out (by kernel_rfl)) (by decide) (fun K hK => ?_)
         have hs70 : w69.cell? ⟨gb104, 2, none⟩ = some (.int .i64 0) := (bqC BK104.out 2).trans rfl
         have hfs70 := bqF BK104.out 2
         have hns70_0 := NB103_104.out
         have hms70_0 := NB104_103.out
         refine skip_ (w1 := ?_) (by rfl) rfl ?_ ?_
         rotate_left
         ·go_simp
          rfl
         refine hK.out _ _ ⟨(GS.cf hHeld.1), (GS.cf hHeld.2.1), (GS.cf hHeld.2.2.1), (GS.cf hHeld.2.2.2.1), (GS.cf hHeld.2.2.2.2.1), (GS.cf hHeld.2.2.2.2.2.1), (GS.cf hHeld.2.2.2.2.2.2)⟩ (fun hHeld => ?_)
         clear hK K
         refine pure_ (i := 6) (N := some 85) (v := ?_) (a' := ?_) #[true, true, true, true, true, true, true, false] rfl rfl (any_of HT_.out (by kernel_rfl)) (fun _ _ _ h => h) (Or.inl ⟨by rfl, ?_⟩) ?_ ?_
         rotate_left
         ·intro w'
          go_simp
          with_reducible rfl
         rotate_left
         ·simp only [Act.put, List.setIfInBounds_toArray, List.set_cons_zero, List.set_cons_succ, i64_w, i32_w]
          rfl
         refine one_ (i := 7) (N := none) #[true, true, true, true, true, true, true, true] rfl rfl (one_of HT_.out (by kernel_rfl)) (by decide) (fun K hK => ?_)
         have hs71 : w69.cell? ⟨gb104, 5, none⟩ = some (.int .i64 0) := (bqC BK104.out 5).trans rfl
         have hfs71 := bqF BK104.out 5
         have hns71_0 := NB103_104.out
         have hms71_0 := NB104_103.out
         refine skip_ (w1 := ?_) (by rfl) rfl ?_ ?_
         rotate_left
         ·go_simp
          rfl
         refine hK.out _ _ ⟨(GS.cf hHeld.1), (GS.cf hHeld.2.1), (GS.cf hHeld.2.2.1), (GS.cf hHeld.2.2.2.1), (GS.cf hHeld.2.2.2.2.1), (GS.cf hHeld.2.2.2.2.2.1), (GS.cf hHeld.2.2.2.2.2.2)⟩ (fun hHeld => ?_)
         clear hK K
         refine done_ (done_of HT_.out (by kernel_rfl)) ?_
         have hnb72 := NB103_104.out
         have hnc72 := NB104_103.out
         obtain ⟨hcz73_0, hcz73_1, hcz73_2, hcz73_3, hcz73_4, hcz73_5, hcz73_6, hfz73_0, hfz73_1, hfz73_2, hfz73_3, hfz73_4, hfz73_5, hfz73_6⟩ := GS.c7 BK103.out
         try go_wp2_with (first | (go_at_call 57; (with_reducible refine (document_node.calls a0_5 t107 _ A67.out).mono ?_); rintro e w' ⟨rfl, ⟨nd, rfl⟩⟩))
         go_meet
         case rel => exact ⟨_, (t107), (a0_2), (0), (a0_5), (0), (by first | rfl | (simp; done) | (simp [*]; done)), H', ⟨by have := HJ1.out; first | omega | exact Nat.le_refl _⟩, ⟨GS.bqX BK103.out⟩, ⟨GS.bqZ BK104.out⟩, ⟨GS.lB HB.out⟩⟩
        ·rw [if_neg c66] at H
         have c66b0 : decide (a0_2 ≤ 64) = false := decide_eq_false c66
         clear c66
         have H' := Aside0.mk H
         clear H
         try go_wp2
         have n0_ : Aside0 ((((((((w18.setCell ⟨gb104, 0, none⟩ (.int .i64 a0_0)).setCell ⟨gb104, 1, none⟩ (.int .i64 a0_1)).setCell ⟨gb104, 2, none⟩ (.int .i64 0)).setCell ⟨gb104, 3, none⟩ (.int .i64 a0_3)).setCell ⟨gb104, 4, none⟩ (.int .i64 0)).setCell ⟨gb104, 5, none⟩ (.int .i64 0)).setCell ⟨gb104, 6, none⟩ (.int .i64 0)).heap[gb103]? = some (.cells #[.int .i64 a0_0, .int .i64 a0_1, .int .i64 a0_2, .int .i64 a0_3, .int .i64 a0_4, .int .i64 a0_5, .int .i64 a0_6] 26 (0, 0))) := ⟨GS.bqX BK103.out⟩
         have n1_ : Aside0 ((((((((w18.setCell ⟨gb104, 0, none⟩ (.int .i64 a0_0)).setCell ⟨gb104, 1, none⟩ (.int .i64 a0_1)).setCell ⟨gb104, 2, none⟩ (.int .i64 0)).setCell ⟨gb104, 3, none⟩ (.int .i64 a0_3)).setCell ⟨gb104, 4, none⟩ (.int .i64 0)).setCell ⟨gb104, 5, none⟩ (.int .i64 0)).setCell ⟨gb104, 6, none⟩ (.int .i64 0)).heap[gb104]? = some (.cells #[.int .i64 a0_0, .int .i64 a0_1, .int .i64 0, .int .i64 a0_3, .int .i64 0, .int .i64 0, .int .i64 0] 26 (0, 0))) := ⟨GS.bqZ BK104.out⟩
         have n2_ : Aside0 (Below w.heap.size w (((((((w18.setCell ⟨gb104, 0, none⟩ (.int .i64 a0_0)).setCell ⟨gb104, 1, none⟩ (.int .i64 a0_1)).setCell ⟨gb104, 2, none⟩ (.int .i64 0)).setCell ⟨gb104, 3, none⟩ (.int .i64 a0_3)).setCell ⟨gb104, 4, none⟩ (.int .i64 0)).setCell ⟨gb104, 5, none⟩ (.int .i64 0)).setCell ⟨gb104, 6, none⟩ (.int .i64 0))) := ⟨GS.lB HB.out⟩
         (try clear BK103)
         (try clear BK104)
         (try clear HB)
         generalize (((((((w18.setCell ⟨gb104, 0, none⟩ (.int .i64 a0_0)).setCell ⟨gb104, 1, none⟩ (.int .i64 a0_1)).setCell ⟨gb104, 2, none⟩ (.int .i64 0)).setCell ⟨gb104, 3, none⟩ (.int .i64 a0_3)).setCell ⟨gb104, 4, none⟩ (.int .i64 0)).setCell ⟨gb104, 5, none⟩ (.int .i64 0)).setCell ⟨gb104, 6, none⟩ (.int .i64 0)) = w74 at n0_ n1_ n2_ ⊢
         have BK103 := n0_
         have BK104 := n1_
         have HB := n2_
         clear n0_ n1_ n2_
         have n0_ := Aside0.mk (bqD BK103.out)
         have n1_ := Aside0.mk (bqD BK104.out)
         have n2_ := Aside0.mk (lqD HB.out)
         clear BK103
         clear BK104
         clear HB
         have BK103 := n0_
         have BK104 := n1_
         have HB := n2_
         clear n0_ n1_ n2_
         refine start_ (n := 8) (S := fun w' => w'.cell? ⟨gb103, 0, none⟩ = some (.int .i64 a0_0) ∧ w'.cell? ⟨gb103, 1, none⟩ = some (.int .i64 a0_1) ∧ w'.cell? ⟨gb103, 2, none⟩ = some (.int .i64 a0_2) ∧ w'.cell? ⟨gb103, 3, none⟩ = some (.int .i64 a0_3) ∧ w'.cell? ⟨gb103, 4, none⟩ = some (.int .i64 a0_4) ∧ w'.cell? ⟨gb103, 5, none⟩ = some (.int .i64 a0_5) ∧ w'.cell? ⟨gb103, 6, none⟩ = some (.int .i64 a0_6)) (ds := []) #[false, false, false, false, false, false, false, false] (by kernel_rfl) rfl rfl ⟨(bqC BK103.out 0).trans rfl, (bqC BK103.out 1).trans rfl, (bqC BK103.out 2).trans rfl, (bqC BK103.out 3).trans rfl, (bqC BK103.out 4).trans rfl, (bqC BK103.out 5).trans rfl, (bqC BK103.out 6).trans rfl⟩ (fun hHeld => ?_); refine with_tabW document_Check.tab10 document_Check.bits10 (fun HT_ HW_ => ?_)
         generalize w74.drew = w75 at BK103 BK104 HB hHeld ⊢
         refine pure_ (i := 0) (N := some 80) (v := ?_) (a' := ?_) #[true, false, false, false, false, false, false, false] rfl rfl (any_of HT_.out (by kernel_rfl)) (fun _ _ _ h => h) (Or.inl ⟨by rfl, ?_⟩) ?_ ?_
         rotate_left
         ·intro w'
          go_simp
          with_reducible rfl
         rotate_left
         ·simp only [Act.put, List.setIfInBounds_toArray, List.set_cons_zero, List.set_cons_succ, i64_w, i32_w]
          rfl
         refine pure_ (i := 2) (N := some 82) (v := ?_) (a' := ?_) #[true, false, true, false, false, false, false, false] rfl rfl (any_of HT_.out (by kernel_rfl)) (fun _ _ _ h => h) (Or.inl ⟨by rfl, ?_⟩) ?_ ?_
         rotate_left
         ·intro w'
          go_simp
          with_reducible rfl
         rotate_left
         ·simp only [Act.put, List.setIfInBounds_toArray, List.set_cons_zero, List.set_cons_succ, i64_w, i32_w]
          rfl
         refine take_ (i := 1) (N := some 81) (v := ?_) (a' := ?_) #[true, true, true, false, false, false, false, false] rfl rfl (take_ofW HT_.out HW_.out (by kernel_rfl)) (fun _ _ _ h => h) (Or.inl ⟨by rfl, ?_⟩) hHeld ?_ ?_
         rotate_left
         ·rintro w' ⟨s0, s1, s2, s3, s4, s5, s6⟩
          go_simp
          with_reducible rfl
         rotate_left
         ·simp only [Act.put, List.setIfInBounds_toArray, List.set_cons_zero, List.set_cons_succ, i64_w, i32_w]
          rfl
         refine pure_ (i := 4) (N := some 84) (v := ?_) (a' := ?_) #[true, true, true, false, true, false, false, false] rfl rfl (any_of HT_.out (by kernel_rfl)) (fun _ _ _ h => h) (Or.inl ⟨by rfl, ?_⟩) ?_ ?_
         rotate_left
         ·intro w'
          go_simp
          with_reducible rfl
         rotate_left
         ·simp only [Act.put, List.setIfInBounds_toArray, List.set_cons_zero, List.set_cons_succ, i64_w, i32_w]
          rfl
         refine take_ (i := 3) (N := some 83) (v := ?_) (a' := ?_) #[true, true, true, true, true, false, false, false] rfl rfl (take_ofW HT_.out HW_.out (by kernel_rfl)) (fun _ _ _ h => h) (Or.inl ⟨by rfl, ?_⟩) hHeld ?_ ?_
         rotate_left
         ·rintro w' ⟨s0, s1, s2, s3, s4, s5, s6⟩
          go_simp
          with_reducible rfl
         rotate_left
         ·simp only [Act.put, List.setIfInBounds_toArray, List.set_cons_zero, List.set_cons_succ, i64_w, i32_w]
          rfl
         refine one_ (i := 5) (N := none) #[true, true, true, true, true, true, false, false] rfl rfl (one_of HT_.out (by kernel_rfl)) (by decide) (fun K hK => ?_)
         have hs76 : w75.cell? ⟨gb104, 2, none⟩ = some (.int .i64 0) := (bqC BK104.out 2).trans rfl
         have hfs76 := bqF BK104.out 2
         have hns76_0 := NB103_104.out
         have hms76_0 := NB104_103.out
         refine skip_ (w1 := ?_) (by rfl) rfl ?_ ?_
         rotate_left
         ·go_simp
          rfl
         refine hK.out _ _ ⟨(GS.cf hHeld.1), (GS.cf hHeld.2.1), (GS.cf hHeld.2.2.1), (GS.cf hHeld.2.2.2.1), (GS.cf hHeld.2.2.2.2.1), (GS.cf hHeld.2.2.2.2.2.1), (GS.cf hHeld.2.2.2.2.2.2)⟩ (fun hHeld => ?_)
         clear hK K
         refine pure_ (i := 6) (N := some 85) (v := ?_) (a' := ?_) #[true, true, true, true, true, true, true, false] rfl rfl (any_of HT_.out (by kernel_rfl)) (fun _ _ _ h => h) (Or.inl ⟨by rfl, ?_⟩) ?_ ?_
         rotate_left
         ·intro w'
          go_simp
          with_reducible rfl
         rotate_left
         ·simp only [Act.put, List.setIfInBounds_toArray, List.set_cons_zero, List.set_cons_succ, i64_w, i32_w]
          rfl
         refine one_ (i := 7) (N := none) #[true, true, true, true, true, true, true, true] rfl rfl (one_of HT_.out (by kernel_rfl)) (by decide) (fun K hK => ?_)
         have hs77 : w75.cell? ⟨gb104, 5, none⟩ = some (.int .i64 0) := (bqC BK104.out 5).trans rfl
         have hfs77 := bqF BK104.out 5
         have hns77_0 := NB103_104.out
         have hms77_0 := NB104_103.out
         refine skip_ (w1 := ?_) (by rfl) rfl ?_ ?_
         rotate_left
         ·go_simp
          rfl
         refine hK.out _ _ ⟨(GS.cf hHeld.1), (GS.cf hHeld.2.1), (GS.cf hHeld.2.2.1), (GS.cf hHeld.2.2.2.1), (GS.cf hHeld.2.2.2.2.1), (GS.cf hHeld.2.2.2.2.2.1), (GS.cf hHeld.2.2.2.2.2.2)⟩ (fun hHeld => ?_)
         clear hK K
         refine done_ (done_of HT_.out (by kernel_rfl)) ?_
         have hnb78 := NB103_104.out
         have hnc78 := NB104_103.out
         obtain ⟨hcz79_0, hcz79_1, hcz79_2, hcz79_3, hcz79_4, hcz79_5, hcz79_6, hfz79_0, hfz79_1, hfz79_2, hfz79_3, hfz79_4, hfz79_5, hfz79_6⟩ := GS.c7 BK103.out
         try go_wp2
         go_meet
         case rel => exact ⟨_, (false), (a0_2), (0), (a0_5), (0), (by first | rfl | (simp; done) | (simp [*]; done)), H', ⟨by have := HJ1.out; first | omega | exact Nat.le_refl _⟩, ⟨GS.bqX BK103.out⟩, ⟨GS.bqZ BK104.out⟩, ⟨GS.lB HB.out⟩⟩
       ·rw [if_neg c65] at H
        have c65b0 : decide (1 ≤ a0_2) = false := decide_eq_false c65
        clear c65
        have H' := Aside0.mk H
        clear H
        try go_wp2
        have n0_ : Aside0 ((((((((w18.setCell ⟨gb104, 0, none⟩ (.int .i64 a0_0)).setCell ⟨gb104, 1, none⟩ (.int .i64 a0_1)).setCell ⟨gb104, 2, none⟩ (.int .i64 0)).setCell ⟨gb104, 3, none⟩ (.int .i64 a0_3)).setCell ⟨gb104, 4, none⟩ (.int .i64 0)).setCell ⟨gb104, 5, none⟩ (.int .i64 0)).setCell ⟨gb104, 6, none⟩ (.int .i64 0)).heap[gb103]? = some (.cells #[.int .i64 a0_0, .int .i64 a0_1, .int .i64 a0_2, .int .i64 a0_3, .int .i64 a0_4, .int .i64 a0_5, .int .i64 a0_6] 26 (0, 0))) := ⟨GS.bqX BK103.out⟩
        have n1_ : Aside0 ((((((((w18.setCell ⟨gb104, 0, none⟩ (.int .i64 a0_0)).setCell ⟨gb104, 1, none⟩ (.int .i64 a0_1)).setCell ⟨gb104, 2, none⟩ (.int .i64 0)).setCell ⟨gb104, 3, none⟩ (.int .i64 a0_3)).setCell ⟨gb104, 4, none⟩ (.int .i64 0)).setCell ⟨gb104, 5, none⟩ (.int .i64 0)).setCell ⟨gb104, 6, none⟩ (.int .i64 0)).heap[gb104]? = some (.cells #[.int .i64 a0_0, .int .i64 a0_1, .int .i64 0, .int .i64 a0_3, .int .i64 0, .int .i64 0, .int .i64 0] 26 (0, 0))) := ⟨GS.bqZ BK104.out⟩
        have n2_ : Aside0 (Below w.heap.size w (((((((w18.setCell ⟨gb104, 0, none⟩ (.int .i64 a0_0)).setCell ⟨gb104, 1, none⟩ (.int .i64 a0_1)).setCell ⟨gb104, 2, none⟩ (.int .i64 0)).setCell ⟨gb104, 3, none⟩ (.int .i64 a0_3)).setCell ⟨gb104, 4, none⟩ (.int .i64 0)).setCell ⟨gb104, 5, none⟩ (.int .i64 0)).setCell ⟨gb104, 6, none⟩ (.int .i64 0))) := ⟨GS.lB HB.out⟩
        (try clear BK103)
        (try clear BK104)
        (try clear HB)
        generalize (((((((w18.setCell ⟨gb104, 0, none⟩ (.int .i64 a0_0)).setCell ⟨gb104, 1, none⟩ (.int .i64 a0_1)).setCell ⟨gb104, 2, none⟩ (.int .i64 0)).setCell ⟨gb104, 3, none⟩ (.int .i64 a0_3)).setCell ⟨gb104, 4, none⟩ (.int .i64 0)).setCell ⟨gb104, 5, none⟩ (.int .i64 0)).setCell ⟨gb104, 6, none⟩ (.int .i64 0)) = w80 at n0_ n1_ n2_ ⊢
        have BK103 := n0_
        have BK104 := n1_
        have HB := n2_
        clear n0_ n1_ n2_
        have n0_ := Aside0.mk (bqD BK103.out)
        have n1_ := Aside0.mk (bqD BK104.out)
        have n2_ := Aside0.mk (lqD HB.out)
        clear BK103
        clear BK104
        clear HB
        have BK103 := n0_
        have BK104 := n1_
        have HB := n2_
        clear n0_ n1_ n2_
        refine start_ (n := 8) (S := fun w' => w'.cell? ⟨gb103, 0, none⟩ = some (.int .i64 a0_0) ∧ w'.cell? ⟨gb103, 1, none⟩ = some (.int .i64 a0_1) ∧ w'.cell? ⟨gb103, 2, none⟩ = some (.int .i64 a0_2) ∧ w'.cell? ⟨gb103, 3, none⟩ = some (.int .i64 a0_3) ∧ w'.cell? ⟨gb103, 4, none⟩ = some (.int .i64 a0_4) ∧ w'.cell? ⟨gb103, 5, none⟩ = some (.int .i64 a0_5) ∧ w'.cell? ⟨gb103, 6, none⟩ = some (.int .i64 a0_6)) (ds := []) #[false, false, false, false, false, false, false, false] (by kernel_rfl) rfl rfl ⟨(bqC BK103.out 0).trans rfl, (bqC BK103.out 1).trans rfl, (bqC BK103.out 2).trans rfl, (bqC BK103.out 3).trans rfl, (bqC BK103.out 4).trans rfl, (bqC BK103.out 5).trans rfl, (bqC BK103.out 6).trans rfl⟩ (fun hHeld => ?_); refine with_tabW document_Check.tab10 document_Check.bits10 (fun HT_ HW_ => ?_)
        generalize w80.drew = w81 at BK103 BK104 HB hHeld ⊢
        refine pure_ (i := 0) (N := some 80) (v := ?_) (a' := ?_) #[true, false, false, false, false, false, false, false] rfl rfl (any_of HT_.out (by kernel_rfl)) (fun _ _ _ h => h) (Or.inl ⟨by rfl, ?_⟩) ?_ ?_
        rotate_left
        ·intro w'
         go_simp
         with_reducible rfl
        rotate_left
        ·simp only [Act.put, List.setIfInBounds_toArray, List.set_cons_zero, List.set_cons_succ, i64_w, i32_w]
         rfl
        refine pure_ (i := 2) (N := some 82) (v := ?_) (a' := ?_) #[true, false, true, false, false, false, false, false] rfl rfl (any_of HT_.out (by kernel_rfl)) (fun _ _ _ h => h) (Or.inl ⟨by rfl, ?_⟩) ?_ ?_
        rotate_left
        ·intro w'
         go_simp
         with_reducible rfl
        rotate_left
        ·simp only [Act.put, List.setIfInBounds_toArray, List.set_cons_zero, List.set_cons_succ, i64_w, i32_w]
         rfl
        refine take_ (i := 1) (N := some 81) (v := ?_) (a' := ?_) #[true, true, true, false, false, false, false, false] rfl rfl (take_ofW HT_.out HW_.out (by kernel_rfl)) (fun _ _ _ h => h) (Or.inl ⟨by rfl, ?_⟩) hHeld ?_ ?_
        rotate_left
        ·rintro w' ⟨s0, s1, s2, s3, s4, s5, s6⟩
         go_simp
         with_reducible rfl
        rotate_left
        ·simp only [Act.put, List.setIfInBounds_toArray, List.set_cons_zero, List.set_cons_succ, i64_w, i32_w]
         rfl
        refine pure_ (i := 4) (N := some 84) (v := ?_) (a' := ?_) #[true, true, true, false, true, false, false, false] rfl rfl (any_of HT_.out (by kernel_rfl)) (fun _ _ _ h => h) (Or.inl ⟨by rfl, ?_⟩) ?_ ?_
        rotate_left
        ·intro w'
         go_simp
         with_reducible rfl
        rotate_left
        ·simp only [Act.put, List.setIfInBounds_toArray, List.set_cons_zero, List.set_cons_succ, i64_w, i32_w]
         rfl
        refine take_ (i := 3) (N := some 83) (v := ?_) (a' := ?_) #[true, true, true, true, true, false, false, false] rfl rfl (take_ofW HT_.out HW_.out (by kernel_rfl)) (fun _ _ _ h => h) (Or.inl ⟨by rfl, ?_⟩) hHeld ?_ ?_
        rotate_left
        ·rintro w' ⟨s0, s1, s2, s3, s4, s5, s6⟩
         go_simp
         with_reducible rfl
        rotate_left
        ·simp only [Act.put, List.setIfInBounds_toArray, List.set_cons_zero, List.set_cons_succ, i64_w, i32_w]
         rfl
        refine one_ (i := 5) (N := none) #[true, true, true, true, true, true, false, false] rfl rfl (one_of HT_.out (by kernel_rfl)) (by decide) (fun K hK => ?_)
        have hs82 : w81.cell? ⟨gb104, 2, none⟩ = some (.int .i64 0) := (bqC BK104.out 2).trans rfl
        have hfs82 := bqF BK104.out 2
        have hns82_0 := NB103_104.out
        have hms82_0 := NB104_103.out
        refine skip_ (w1 := ?_) (by rfl) rfl ?_ ?_
        rotate_left
        ·go_simp
         rfl
        refine hK.out _ _ ⟨(GS.cf hHeld.1), (GS.cf hHeld.2.1), (GS.cf hHeld.2.2.1), (GS.cf hHeld.2.2.2.1), (GS.cf hHeld.2.2.2.2.1), (GS.cf hHeld.2.2.2.2.2.1), (GS.cf hHeld.2.2.2.2.2.2)⟩ (fun hHeld => ?_)
        clear hK K
        refine pure_ (i := 6) (N := some 85) (v := ?_) (a' := ?_) #[true, true, true, true, true, true, true, false] rfl rfl (any_of HT_.out (by kernel_rfl)) (fun _ _ _ h => h) (Or.inl ⟨by rfl, ?_⟩) ?_ ?_
        rotate_left
        ·intro w'
         go_simp
         with_reducible rfl
        rotate_left
        ·simp only [Act.put, List.setIfInBounds_toArray, List.set_cons_zero, List.set_cons_succ, i64_w, i32_w]
         rfl
        refine one_ (i := 7) (N := none) #[true, true, true, true, true, true, true, true] rfl rfl (one_of HT_.out (by kernel_rfl)) (by decide) (fun K hK => ?_)
        have hs83 : w81.cell? ⟨gb104, 5, none⟩ = some (.int .i64 0) := (bqC BK104.out 5).trans rfl
        have hfs83 := bqF BK104.out 5
        have hns83_0 := NB103_104.out
        have hms83_0 := NB104_103.out
        refine skip_ (w1 := ?_) (by rfl) rfl ?_ ?_
        rotate_left
        ·go_simp
         rfl
        refine hK.out _ _ ⟨(GS.cf hHeld.1), (GS.cf hHeld.2.1), (GS.cf hHeld.2.2.1), (GS.cf hHeld.2.2.2.1), (GS.cf hHeld.2.2.2.2.1), (GS.cf hHeld.2.2.2.2.2.1), (GS.cf hHeld.2.2.2.2.2.2)⟩ (fun hHeld => ?_)
        clear hK K
        refine done_ (done_of HT_.out (by kernel_rfl)) ?_
        have hnb84 := NB103_104.out
        have hnc84 := NB104_103.out
        obtain ⟨hcz85_0, hcz85_1, hcz85_2, hcz85_3, hcz85_4, hcz85_5, hcz85_6, hfz85_0, hfz85_1, hfz85_2, hfz85_3, hfz85_4, hfz85_5, hfz85_6⟩ := GS.c7 BK103.out
        try go_wp2
        go_meet
        case rel => exact ⟨_, (false), (a0_2), (0), (a0_5), (0), (by first | rfl | (simp; done) | (simp [*]; done)), H', ⟨by have := HJ1.out; first | omega | exact Nat.le_refl _⟩, ⟨GS.bqX BK103.out⟩, ⟨GS.bqZ BK104.out⟩, ⟨GS.lB HB.out⟩⟩
      ·rw [if_neg c64] at H
       have c64b0 : (a0_1 == 2) = false := beq_eq_false_iff_ne.mpr c64
       try simp only [beq_self_eq_true, Bool.not_true, Bool.false_or, Bool.true_and] at c64b0
       have c64b1 : (a0_1 != 2) = true := bne_iff_ne.mpr c64
       by_cases c86 : a0_1 = 3
       ·rw [if_pos c86] at H
        have c86b0 : (a0_1 == 3) = true := beq_iff_eq.mpr c86
        try simp only [beq_self_eq_true, Bool.not_true, Bool.false_or, Bool.true_and] at c86b0
        have c86b1 : (a0_1 != 3) = false := bne_eq_false_iff_eq.mpr c86
        clear c86
        by_cases c87 : a0_6 ≥ 0
        ·rw [if_pos c87] at H
         have c87b0 : decide (0 ≤ a0_6) = true := decide_eq_true c87
         clear c87
         have H' := Aside0.mk H
         clear H
         have hnb88 := NB103_104.out
         have hnc88 := NB104_103.out
         obtain ⟨hcz89_0, hcz89_1, hcz89_2, hcz89_3, hcz89_4, hcz89_5, hcz89_6, hfz89_0, hfz89_1, hfz89_2, hfz89_3, hfz89_4, hfz89_5, hfz89_6⟩ := GS.c7 BK103.out
         obtain ⟨hcz90_0, hcz90_1, hcz90_2, hcz90_3, hcz90_4, hcz90_5, hcz90_6, hfz90_0, hfz90_1, hfz90_2, hfz90_3, hfz90_4, hfz90_5, hfz90_6⟩ := GS.c7 BK104.out
         go_wp2
         go_meet
         case rel => exact ⟨_, (decide (a0_6 ≤ 10737418240000)), (0), (0), (0), (a0_6), (by first | rfl | (simp; done) | (simp [*]; done)), H', ⟨by have := HJ1.out; first | omega | exact Nat.le_refl _⟩, ⟨GS.bqX BK103.out⟩, ⟨GS.bqZ BK104.out⟩, ⟨GS.lB HB.out⟩⟩
        ·rw [if_neg c87] at H
         have c87b0 : decide (0 ≤ a0_6) = false := decide_eq_false c87
         clear c87
         have H' := Aside0.mk H
         clear H
         have hnb91 := NB103_104.out
         have hnc91 := NB104_103.out
         obtain ⟨hcz92_0, hcz92_1, hcz92_2, hcz92_3, hcz92_4, hcz92_5, hcz92_6, hfz92_0, hfz92_1, hfz92_2, hfz92_3, hfz92_4, hfz92_5, hfz92_6⟩ := GS.c7 BK103.out
         obtain ⟨hcz93_0, hcz93_1, hcz93_2, hcz93_3, hcz93_4, hcz93_5, hcz93_6, hfz93_0, hfz93_1, hfz93_2, hfz93_3, hfz93_4, hfz93_5, hfz93_6⟩ := GS.c7 BK104.out
         go_wp2
         go_meet
         case rel => exact ⟨_, (false), (0), (0), (0), (a0_6), (by first | rfl | (simp; done) | (simp [*]; done)), H', ⟨by have := HJ1.out; first | omega | exact Nat.le_refl _⟩, ⟨GS.bqX BK103.out⟩, ⟨GS.bqZ BK104.out⟩, ⟨GS.lB HB.out⟩⟩
       ·rw [if_neg c86] at H
        have c86b0 : (a0_1 == 3) = false := beq_eq_false_iff_ne.mpr c86
        try simp only [beq_self_eq_true, Bool.not_true, Bool.false_or, Bool.true_and] at c86b0
        have c86b1 : (a0_1 != 3) = true := bne_iff_ne.mpr c86
        have H' := Aside0.mk H
        clear H
        go_wp2
        go_meet
        case rel => exact ⟨_, (true), (0), (0), (0), (0), (by first | rfl | (simp; done) | (simp [*]; done)), H', ⟨by have := HJ1.out; first | omega | exact Nat.le_refl _⟩, ⟨GS.bqX BK103.out⟩, ⟨GS.bqZ BK104.out⟩, ⟨GS.lB HB.out⟩⟩
    case rest =>
     clear HC16
     try clear c2
     try clear p2
     try clear c5
     try clear c6
     try clear c7
     try clear c8
     try clear c9
     try clear c22
     try clear c22b0
     try clear c22b1
     try clear c57
     try clear c62
     try clear c64
     try clear c64b0
     try clear c64b1
     try clear c65
     try clear c65b0
     try clear c66
     try clear c66b0
     try clear c72
     try clear c78
     try clear c84
     try clear c86
     try clear c86b0
     try clear c86b1
     try clear c87
     try clear c87b0
     try clear c88
     try clear c91
     try clear hcz63_0
     try clear hcz63_1
     try clear hcz63_2
     try clear hcz63_3
     try clear hcz63_4
     try clear hcz63_5
     try clear hcz63_6
     try clear hcz73_0
     try clear hcz73_1
     try clear hcz73_2
     try clear hcz73_3
     try clear hcz73_4
     try clear hcz73_5
     try clear hcz73_6
     try clear hcz79_0
     try clear hcz79_1
     try clear hcz79_2
     try clear hcz79_3
     try clear hcz79_4
     try clear hcz79_5
     try clear hcz79_6
     try clear hcz85_0
     try clear hcz85_1
     try clear hcz85_2
     try clear hcz85_3
     try clear hcz85_4
     try clear hcz85_5
     try clear hcz85_6
     try clear hcz89_0
     try clear hcz89_1
     try clear hcz89_2
     try clear hcz89_3
     try clear hcz89_4
     try clear hcz89_5
     try clear hcz89_6
     try clear hcz90_0
     try clear hcz90_1
     try clear hcz90_2
     try clear hcz90_3
     try clear hcz90_4
     try clear hcz90_5
     try clear hcz90_6
     try clear hcz92_0
     try clear hcz92_1
     try clear hcz92_2
     try clear hcz92_3
     try clear hcz92_4
     try clear hcz92_5
     try clear hcz92_6
     try clear hcz93_0
     try clear hcz93_1
     try clear hcz93_2
     try clear hcz93_3
     try clear hcz93_4
     try clear hcz93_5
     try clear hcz93_6
     try clear hfz63_0
     try clear hfz63_1
     try clear hfz63_2
     try clear hfz63_3
     try clear hfz63_4
     try clear hfz63_5
     try clear hfz63_6
     try clear hfz73_0
     try clear hfz73_1
     try clear hfz73_2
     try clear hfz73_3
     try clear hfz73_4
     try clear hfz73_5
     try clear hfz73_6
     try clear hfz79_0
     try clear hfz79_1
     try clear hfz79_2
     try clear hfz79_3
     try clear hfz79_4
     try clear hfz79_5
     try clear hfz79_6
     try clear hfz85_0
     try clear hfz85_1
     try clear hfz85_2
     try clear hfz85_3
     try clear hfz85_4
     try clear hfz85_5
     try clear hfz85_6
     try clear hfz89_0
     try clear hfz89_1
     try clear hfz89_2
     try clear hfz89_3
     try clear hfz89_4
     try clear hfz89_5
     try clear hfz89_6
     try clear hfz90_0
     try clear hfz90_1
     try clear hfz90_2
     try clear hfz90_3
     try clear hfz90_4
     try clear hfz90_5
     try clear hfz90_6
     try clear hfz92_0
     try clear hfz92_1
     try clear hfz92_2
     try clear hfz92_3
     try clear hfz92_4
     try clear hfz92_5
     try clear hfz92_6
     try clear hfz93_0
     try clear hfz93_1
     try clear hfz93_2
     try clear hfz93_3
     try clear hfz93_4
     try clear hfz93_5
     try clear hfz93_6
     obtain ⟨kq, x4_15, x105002_15, x105004_15, x105005_15, x105006_15, rfl, HA, HJ15, BK103, BK104, HB⟩ := hcut
     cases kq with
     | zero => exact absurd HA.out (by simp [document_Check.j1])
     | succ kj15 =>
      have H := HA.out
      clear HA
      simp only [document_Check.j1] at H
      by_cases c94 : x4_15 = true
      ·subst c94
       have H1 : (if (!(a0_0 == a0_0) || (!(a0_1 == a0_1) || (!(a0_2 == x105002_15) || (!(a0_3 == a0_3) || (!(a0_4 == x105004_15) || (!(a0_5 == x105005_15) || (!(a0_6 == x105006_15)))))))) = true then (some 1) else (some 0)) = some r := by rw [if_pos rfl] at H; exact H
       clear H
       have H := H1
       clear H1
       by_cases c95 : (!(a0_0 == a0_0) || (!(a0_1 == a0_1) || (!(a0_2 == x105002_15) || (!(a0_3 == a0_3) || (!(a0_4 == x105004_15) || (!(a0_5 == x105005_15) || (!(a0_6 == x105006_15)))))))) = true
       ·rw [if_pos c95] at H
        have c95b0 : (!(a0_0 == a0_0) || (!(a0_1 == a0_1) || (!(a0_2 == x105002_15) || (!(a0_3 == a0_3) || (!(a0_4 == x105004_15) || (!(a0_5 == x105005_15) || (!(a0_6 == x105006_15)))))))) = true := c95
        try simp only [beq_self_eq_true, Bool.not_true, Bool.false_or, Bool.true_and] at c95b0
        clear c95
        obtain rfl := Option.some.inj H
        have hnb96 := NB103_104.out
        have hnc96 := NB104_103.out
        obtain ⟨hcz97_0, hcz97_1, hcz97_2, hcz97_3, hcz97_4, hcz97_5, hcz97_6, hfz97_0, hfz97_1, hfz97_2, hfz97_3, hfz97_4, hfz97_5, hfz97_6⟩ := GS.c7 BK103.out
        obtain ⟨hcz98_0, hcz98_1, hcz98_2, hcz98_3, hcz98_4, hcz98_5, hcz98_6, hfz98_0, hfz98_1, hfz98_2, hfz98_3, hfz98_4, hfz98_5, hfz98_6⟩ := GS.c7 BK104.out
        go_wp2
        go_ret
        exact ⟨by first | rfl | (simp [errW_none, errW_some] <;> rfl) | (simp [*, errW_none, errW_some] <;> rfl), GS.lB HB.out⟩
       ·rw [if_neg c95] at H
        have c95b0 : (!(a0_0 == a0_0) || (!(a0_1 == a0_1) || (!(a0_2 == x105002_15) || (!(a0_3 == a0_3) || (!(a0_4 == x105004_15) || (!(a0_5 == x105005_15) || (!(a0_6 == x105006_15)))))))) = false := by simpa using c95
        try simp only [beq_self_eq_true, Bool.not_true, Bool.false_or, Bool.true_and] at c95b0
        clear c95
        obtain rfl := Option.some.inj H
        have hnb99 := NB103_104.out
        have hnc99 := NB104_103.out
        obtain ⟨hcz100_0, hcz100_1, hcz100_2, hcz100_3, hcz100_4, hcz100_5, hcz100_6, hfz100_0, hfz100_1, hfz100_2, hfz100_3, hfz100_4, hfz100_5, hfz100_6⟩ := GS.c7 BK103.out
        obtain ⟨hcz101_0, hcz101_1, hcz101_2, hcz101_3, hcz101_4, hcz101_5, hcz101_6, hfz101_0, hfz101_1, hfz101_2, hfz101_3, hfz101_4, hfz101_5, hfz101_6⟩ := GS.c7 BK104.out
        go_wp2
        go_ret
        exact ⟨by first | rfl | (simp [errW_none, errW_some] <;> rfl) | (simp [*, errW_none, errW_some] <;> rfl), GS.lB HB.out⟩
      ·replace c94 := Bool.eq_false_iff.mpr c94
       subst c94
       have H1 : (some 1) = some r := by rw [if_neg (show ¬ (false = true) by decide)] at H; exact H
       clear H
       have H := H1
       clear H1
       obtain rfl := Option.some.inj H
       go_wp2
       go_ret
       exact ⟨by first | rfl | (simp [errW_none, errW_some] <;> rfl) | (simp [*, errW_none, errW_some] <;> rfl), GS.lB HB.out⟩

end Go.Proofs.Ytfafeeobjlkjnaa.K
