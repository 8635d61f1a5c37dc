-- PRINTED by print.py (a twelfth state) out of the translation. Not trusted: Lean checks it.
import Derived.Test.YtfafeeobjlkjnaaK0
import Derived.Test.YtfafeeobjlkjnaaGShort
import Derived.Test.YtfafeeobjlkjnaaGSym
import Derived.Test.YtfafeeobjlkjnaaK3
import Derived.Test.YtfafeeobjlkjnaaK6
import Derived.Test.YtfafeeobjlkjnaaK7
import Derived.Test.YtfafeeobjlkjnaaK8
import Derived.Test.YtfafeeobjlkjnaaGHeard
namespace Go.Proofs.Ytfafeeobjlkjnaa.K
open Go.RowKit Go.Proofs.YtfafeeobjlkjnaaW.PrintWords Go.Proofs.YtfafeeobjlkjnaaW.PrintLast Go.Proofs.YtfafeeobjlkjnaaW.PrintMore
attribute [local go_sem] max2_int min2_int max_two min_two max_three min_three max_four min_four   -- for this text's walks alone
set_option linter.unusedVariables false
set_option linter.unusedSimpArgs false

/-! ### spilelaw42_SenderCounts: function 6 -/
mutual
def spilelaw42_SenderCounts.j0 : Nat → Int → Int → List Bool → Bool → Option (Bool)
 | 0, _, _, _, _ => none
 | k + 1, x0, x1, x2, x40 => if x40 = true then (some true) else ((sender_New.f x0).bind fun bt378 => (if bt378.2.2.2 = 0 then (spilelaw42_SenderCounts.l0 k x0 x1 x2 0 x2 (x2.length : Int) 0 bt378.1 bt378.2.1 bt378.2.2.1) else (none)))
def spilelaw42_SenderCounts.l0 : Nat → Int → Int → List Bool → Int → List Bool → Int → Int → Int → Int → List (S33) → Option (Bool)
 | 0, _, _, _, _, _, _, _, _, _, _ => none
 | k + 1, x0, x1, x2, x9, x48, x49, x50, x385000, x385001, x385002 => if x50 < x49 then (if 0 ≤ x50 then (if x50 < (x48.length : Int) then ((spilelaw42_message.f (wrap64 (x50 + 1))).bind fun bt386 => ((sender_Send.f k x385000 x385001 x385002 x1 bt386.1 bt386.2.1 bt386.2.2.1 bt386.2.2.2.1 bt386.2.2.2.2.1 bt386.2.2.2.2.2.1 bt386.2.2.2.2.2.2).bind fun bt393 => (if bt393.2.2.2.2.2.2.2.2.2.2.2.2.2 = 0 then (spilelaw42_SenderCounts.j2 k x0 x1 x2 x9 (rdOf false x48 x50) bt393.2.2.2.2.2.2.2.2.2.2.2.2.2 x48 x49 x50 (bt393.2.2.2.2.2.1 != (wrap64 (x50 + 1))) bt393.1 bt393.2.1 bt393.2.2.1 bt393.2.2.2.1 bt393.2.2.2.2.1 bt393.2.2.2.2.2.1 bt393.2.2.2.2.2.2.1 bt393.2.2.2.2.2.2.2.1 bt393.2.2.2.2.2.2.2.2.1 bt393.2.2.2.2.2.2.2.2.2.1 bt393.2.2.2.2.2.2.2.2.2.2.1 bt393.2.2.2.2.2.2.2.2.2.2.2.1 bt393.2.2.2.2.2.2.2.2.2.2.2.2.1) else (none)))) else (none)) else (none)) else (some (x385001 == (wrap64 ((x2.length : Int) + 1))))
def spilelaw42_SenderCounts.j2 : Nat → Int → Int → List Bool → Int → Bool → Int → List Bool → Int → Int → Bool → Int → Int → List (S33) → Int → Int → Int → Int → Int → Int → Int → Int → Int → Int → Option (Bool)
 | 0, _, _, _, _, _, _, _, _, _, _, _, _, _, _, _, _, _, _, _, _, _, _, _ => none
 | k + 1, x0, x1, x2, x9, x11, x14, x48, x49, x50, x73, x410000, x410001, x410002, x411000, x411001, x411002, x411003, x411004, x411005, x411006, x411007, x411008, x411009 => if x73 = true then (none) else (if x11 = true then ((sender_Heard.f k x410000 x410001 x410002 x0 x411002).bind fun bt411 => (spilelaw42_SenderCounts.j3 k x0 x1 x2 (wrap64 ((wrap64 (x9 + 1)) - 1)) bt411.2.2.2 x48 x49 x50 bt411.1 bt411.2.1 bt411.2.2.1)) else (spilelaw42_SenderCounts.j3 k x0 x1 x2 (wrap64 (x9 + 1)) x14 x48 x49 x50 x410000 x410001 x410002))
def spilelaw42_SenderCounts.j3 : Nat → Int → Int → List Bool → Int → Int → List Bool → Int → Int → Int → Int → List (S33) → Option (Bool)
 | 0, _, _, _, _, _, _, _, _, _, _, _ => none
 | k + 1, x0, x1, x2, x9, x14, x48, x49, x50, x410000, x410001, x410002 => if x14 = 0 then (if (x410002.length : Int) = x9 then (spilelaw42_SenderCounts.l0 k x0 x1 x2 x9 x48 x49 (wrap64 (x50 + 1)) x410000 x410001 x410002) else (none)) else (none)
end
def spilelaw42_SenderCounts.f (k : Nat) (a0 : Int) (a1 : Int) (l2 : List Bool) : Option (Bool) := (spilelaw42_awake.f k).bind fun t377 => (if t377 = true then (if (l2.length : Int) > 10 then (spilelaw42_SenderCounts.j0 k a0 a1 l2 true) else (if a0 < 1 then (spilelaw42_SenderCounts.j0 k a0 a1 l2 true) else (if a0 > 99 then (spilelaw42_SenderCounts.j0 k a0 a1 l2 true) else (if a1 < 1 then (spilelaw42_SenderCounts.j0 k a0 a1 l2 true) else (if a1 > 99 then (spilelaw42_SenderCounts.j0 k a0 a1 l2 true) else (spilelaw42_SenderCounts.j0 k a0 a1 l2 (a1 == a0))))))) else (none))
theorem spilelaw42_SenderCounts.mono_l : ∀ k, (∀ y0 y1 y2 y3, LeO (spilelaw42_SenderCounts.j0 k y0 y1 y2 y3) (spilelaw42_SenderCounts.j0 (k + 1) y0 y1 y2 y3)) ∧ (∀ y0 y1 y2 y3 y4 y5 y6 y7 y8 y9, LeO (spilelaw42_SenderCounts.l0 k y0 y1 y2 y3 y4 y5 y6 y7 y8 y9) (spilelaw42_SenderCounts.l0 (k + 1) y0 y1 y2 y3 y4 y5 y6 y7 y8 y9)) ∧ (∀ y0 y1 y2 y3 y4 y5 y6 y7 y8 y9 y10 y11 y12 y13 y14 y15 y16 y17 y18 y19 y20 y21 y22, LeO (spilelaw42_SenderCounts.j2 k y0 y1 y2 y3 y4 y5 y6 y7 y8 y9 y10 y11 y12 y13 y14 y15 y16 y17 y18 y19 y20 y21 y22) (spilelaw42_SenderCounts.j2 (k + 1) y0 y1 y2 y3 y4 y5 y6 y7 y8 y9 y10 y11 y12 y13 y14 y15 y16 y17 y18 y19 y20 y21 y22)) ∧ (∀ y0 y1 y2 y3 y4 y5 y6 y7 y8 y9 y10, LeO (spilelaw42_SenderCounts.j3 k y0 y1 y2 y3 y4 y5 y6 y7 y8 y9 y10) (spilelaw42_SenderCounts.j3 (k + 1) y0 y1 y2 y3 y4 y5 y6 y7 y8 y9 y10))
 | 0 => ⟨fun _ _ _ _ r h => by simp [spilelaw42_SenderCounts.j0] at h, fun _ _ _ _ _ _ _ _ _ _ r h => by simp [spilelaw42_SenderCounts.l0] at h, fun _ _ _ _ _ _ _ _ _ _ _ _ _ _ _ _ _ _ _ _ _ _ _ r h => by simp [spilelaw42_SenderCounts.j2] at h, fun _ _ _ _ _ _ _ _ _ _ _ r h => by simp [spilelaw42_SenderCounts.j3] at h⟩
 | k + 1 => by
  obtain ⟨ih0, ih1, ih2, ih3⟩ := spilelaw42_SenderCounts.mono_l k
  refine ⟨?_, ?_, ?_, ?_⟩
  ·intro y0 y1 y2 y3
   unfold spilelaw42_SenderCounts.j0
   repeat' first
   | (with_reducible exact ih0 _ _ _ _)
   | (with_reducible exact ih1 _ _ _ _ _ _ _ _ _ _)
   | (with_reducible exact ih2 _ _ _ _ _ _ _ _ _ _ _ _ _ _ _ _ _ _ _ _ _ _ _)
   | (with_reducible exact ih3 _ _ _ _ _ _ _ _ _ _ _)
   | (with_reducible exact sender_Heard.mono _ _ _ _ _ _)
   | (with_reducible exact sender_Send.mono _ _ _ _ _ _ _ _ _ _ _ _)
   | (with_reducible exact spilelaw42_awake.mono _)
   | (with_reducible exact LeO.refl _)
   | (with_reducible exact LeO.none _)
   | (with_reducible refine LeO.ite ?_ ?_)
   | (with_reducible refine LeO.bind ?_ (fun _ => ?_))
   | exact ih0 _ _ _ _
   | exact ih1 _ _ _ _ _ _ _ _ _ _
   | exact ih2 _ _ _ _ _ _ _ _ _ _ _ _ _ _ _ _ _ _ _ _ _ _ _
   | exact ih3 _ _ _ _ _ _ _ _ _ _ _
   | exact sender_Heard.mono _ _ _ _ _ _
   | exact sender_Send.mono _ _ _ _ _ _ _ _ _ _ _ _
   | exact spilelaw42_awake.mono _
   | exact LeO.none _
   | refine LeO.ite ?_ ?_
   | refine LeO.bind ?_ (fun _ => ?_)
  ·intro y0 y1 y2 y3 y4 y5 y6 y7 y8 y9
   unfold spilelaw42_SenderCounts.l0
   repeat' first
   | (with_reducible exact ih0 _ _ _ _)
   | (with_reducible exact ih1 _ _ _ _ _ _ _ _ _ _)
   | (with_reducible exact ih2 _ _ _ _ _ _ _ _ _ _ _ _ _ _ _ _ _ _ _ _ _ _ _)
   | (with_reducible exact ih3 _ _ _ _ _ _ _ _ _ _ _)
   | (with_reducible exact sender_Heard.mono _ _ _ _ _ _)
   | (with_reducible exact sender_Send.mono _ _ _ _ _ _ _ _ _ _ _ _)
   | (with_reducible exact spilelaw42_awake.mono _)
   | (with_reducible exact LeO.refl _)
   | (with_reducible exact LeO.none _)
   | (with_reducible refine LeO.ite ?_ ?_)
   | (with_reducible refine LeO.bind ?_ (fun _ => ?_))
   | exact ih0 _ _ _ _
   | exact ih1 _ _ _ _ _ _ _ _ _ _
   | exact ih2 _ _ _ _ _ _ _ _ _ _ _ _ _ _ _ _ _ _ _ _ _ _ _
   | exact ih3 _ _ _ _ _ _ _ _ _ _ _
   | exact sender_Heard.mono _ _ _ _ _ _
   | exact sender_Send.mono _ _ _ _ _ _ _ _ _ _ _ _
   | exact spilelaw42_awake.mono _
   | exact LeO.none _
   | refine LeO.ite ?_ ?_
   | refine LeO.bind ?_ (fun _ => ?_)
  ·intro y0 y1 y2 y3 y4 y5 y6 y7 y8 y9 y10 y11 y12 y13 y14 y15 y16 y17 y18 y19 y20 y21 y22
   unfold spilelaw42_SenderCounts.j2
   repeat' first
   | (with_reducible exact ih0 _ _ _ _)
   | (with_reducible exact ih1 _ _ _ _ _ _ _ _ _ _)
   | (with_reducible exact ih2 _ _ _ _ _ _ _ _ _ _ _ _ _ _ _ _ _ _ _ _ _ _ _)
   | (with_reducible exact ih3 _ _ _ _ _ _ _ _ _ _ _)
   | (with_reducible exact sender_Heard.mono _ _ _ _ _ _)
   | (with_reducible exact sender_Send.mono _ _ _ _ _ _ _ _ _ _ _ _)
   | (with_reducible exact spilelaw42_awake.mono _)
   | (with_reducible exact LeO.refl _)
   | (with_reducible exact LeO.none _)
   | (with_reducible refine LeO.ite ?_ ?_)
   | (with_reducible refine LeO.bind ?_ (fun _ => ?_))
   | exact ih0 _ _ _ _
   | exact ih1 _ _ _ _ _ _ _ _ _ _
   | exact ih2 _ _ _ _ _ _ _ _ _ _ _ _ _ _ _ _ _ _ _ _ _ _ _
   | exact ih3 _ _ _ _ _ _ _ _ _ _ _
   | exact sender_Heard.mono _ _ _ _ _ _
   | exact sender_Send.mono _ _ _ _ _ _ _ _ _ _ _ _
   | exact spilelaw42_awake.mono _
   | exact LeO.none _
   | refine LeO.ite ?_ ?_
   | refine LeO.bind ?_ (fun _ => ?_)
  ·intro y0 y1 y2 y3 y4 y5 y6 y7 y8 y9 y10
   unfold spilelaw42_SenderCounts.j3
   repeat' first
   | (with_reducible exact ih0 _ _ _ _)
   | (with_reducible exact ih1 _ _ _ _ _ _ _ _ _ _)
   | (with_reducible exact ih2 _ _ _ _ _ _ _ _ _ _ _ _ _ _ _ _ _ _ _ _ _ _ _)
   | (with_reducible exact ih3 _ _ _ _ _ _ _ _ _ _ _)
   | (with_reducible exact sender_Heard.mono _ _ _ _ _ _)
   | (with_reducible exact sender_Send.mono _ _ _ _ _ _ _ _ _ _ _ _)
   | (with_reducible exact spilelaw42_awake.mono _)
   | (with_reducible exact LeO.refl _)
   | (with_reducible exact LeO.none _)
   | (with_reducible refine LeO.ite ?_ ?_)
   | (with_reducible refine LeO.bind ?_ (fun _ => ?_))
   | exact ih0 _ _ _ _
   | exact ih1 _ _ _ _ _ _ _ _ _ _
   | exact ih2 _ _ _ _ _ _ _ _ _ _ _ _ _ _ _ _ _ _ _ _ _ _ _
   | exact ih3 _ _ _ _ _ _ _ _ _ _ _
   | exact sender_Heard.mono _ _ _ _ _ _
   | exact sender_Send.mono _ _ _ _ _ _ _ _ _ _ _ _
   | exact spilelaw42_awake.mono _
   | exact LeO.none _
   | refine LeO.ite ?_ ?_
   | refine LeO.bind ?_ (fun _ => ?_)
theorem spilelaw42_SenderCounts.mono : ∀ a0 a1 a2 k, LeO (spilelaw42_SenderCounts.f k a0 a1 a2) (spilelaw42_SenderCounts.f (k + 1) a0 a1 a2) := by
 intro a0 a1 a2 k
 obtain ⟨ih0, ih1, ih2, ih3⟩ := spilelaw42_SenderCounts.mono_l k
 unfold spilelaw42_SenderCounts.f
 repeat' first
   | (with_reducible exact ih0 _ _ _ _)
   | (with_reducible exact ih1 _ _ _ _ _ _ _ _ _ _)
   | (with_reducible exact ih2 _ _ _ _ _ _ _ _ _ _ _ _ _ _ _ _ _ _ _ _ _ _ _)
   | (with_reducible exact ih3 _ _ _ _ _ _ _ _ _ _ _)
   | (with_reducible exact sender_Heard.mono _ _ _ _ _ _)
   | (with_reducible exact sender_Send.mono _ _ _ _ _ _ _ _ _ _ _ _)
   | (with_reducible exact spilelaw42_awake.mono _)
   | (with_reducible exact LeO.refl _)
   | (with_reducible exact LeO.none _)
   | (with_reducible refine LeO.ite ?_ ?_)
   | (with_reducible refine LeO.bind ?_ (fun _ => ?_))
   | exact ih0 _ _ _ _
   | exact ih1 _ _ _ _ _ _ _ _ _ _
   | exact ih2 _ _ _ _ _ _ _ _ _ _ _ _ _ _ _ _ _ _ _ _ _ _ _
   | exact ih3 _ _ _ _ _ _ _ _ _ _ _
   | exact sender_Heard.mono _ _ _ _ _ _
   | exact sender_Send.mono _ _ _ _ _ _ _ _ _ _ _ _
   | exact spilelaw42_awake.mono _
   | exact LeO.none _
   | refine LeO.ite ?_ ?_
   | refine LeO.bind ?_ (fun _ => ?_)
def spilelaw42_SenderCounts.T12 : Bool × List (List Nat × List Nat) := (true, [([], []), ([], []), ([], []), ([2], [2]), ([3], [3]), ([0, 1, 4, 4], [0, 1, 4]), ([5], [5]), ([6], [6]), ([6], [6]), ([6], [6]), ([], []), ([], []), ([10, 7, 5, 0, 1, 2, 3, 4, 5, 6, 7, 10, 11], [7, 10]), ([11, 8, 12, 0, 1, 2, 3, 4, 5, 6, 7, 8, 10, 11, 12], [8, 11]), ([9, 13, 0, 1, 2, 3, 4, 5, 6, 7, 8, 9, 10, 11, 12, 13], [9])])
def spilelaw42_SenderCounts.B12 : List Nat := [0, 0, 0, 4, 12, 31, 63, 127, 127, 127, 0, 0, 3327, 7679, 16383]
theorem spilelaw42_SenderCounts.tab12 : rtab .any (opsOf Try.f6 12) = spilelaw42_SenderCounts.T12 := by kernel_rfl
theorem spilelaw42_SenderCounts.bits12 : waitsOk spilelaw42_SenderCounts.T12.2 spilelaw42_SenderCounts.B12 = true := by kernel_rfl
set_option maxHeartbeats 8000000 in
set_option maxRecDepth 100000 in
theorem spilelaw42_SenderCounts.calls (k : Nat) (a0 : Int) (a1 : Int) (A2 : Option Addr) (c2 : Nat) (l2 : List Bool) (r : Bool) (w : World) (hr2 : Kd.C Kd.bool w A2 l2.length l2) (hc2 : l2.length ≤ c2) (h : spilelaw42_SenderCounts.f k a0 a1 l2 = some r) :
  Calls Try.prog 6 #[.int .i64 a0, .int .i64 a1, .slice A2 l2.length c2] w fun e w' => e = .returned (.bool r) ∧ Below w.heap.size w w' := by
 have hu24 := Try.underlying24
 have hu33 := Try.underlying33
 have hu44 := Try.underlying44
 have HR2 := Aside0.mk hr2
 have HC2 := Aside0.mk hc2
 clear hr2 hc2
 have HB := Aside0.mk (Below.refl w.heap.size w)
 have H : ((spilelaw42_awake.f k).bind fun t377 => (if t377 = true then (if (l2.length : Int) > 10 then (spilelaw42_SenderCounts.j0 k a0 a1 l2 true) else (if a0 < 1 then (spilelaw42_SenderCounts.j0 k a0 a1 l2 true) else (if a0 > 99 then (spilelaw42_SenderCounts.j0 k a0 a1 l2 true) else (if a1 < 1 then (spilelaw42_SenderCounts.j0 k a0 a1 l2 true) else (if a1 > 99 then (spilelaw42_SenderCounts.j0 k a0 a1 l2 true) else (spilelaw42_SenderCounts.j0 k a0 a1 l2 (a1 == a0))))))) else (none))) = some r := h
 clear h
 replace H := Option.bind_eq_some_iff.mp H
 obtain ⟨t377, A40, H⟩ := H
 replace H : (if t377 = true then (if (l2.length : Int) > 10 then (spilelaw42_SenderCounts.j0 k a0 a1 l2 true) else (if a0 < 1 then (spilelaw42_SenderCounts.j0 k a0 a1 l2 true) else (if a0 > 99 then (spilelaw42_SenderCounts.j0 k a0 a1 l2 true) else (if a1 < 1 then (spilelaw42_SenderCounts.j0 k a0 a1 l2 true) else (if a1 > 99 then (spilelaw42_SenderCounts.j0 k a0 a1 l2 true) else (spilelaw42_SenderCounts.j0 k a0 a1 l2 (a1 == a0))))))) else (none)) = some r := H
 have A4 := Aside0.mk A40
 clear A40
 by_cases c5 : t377 = true
 ·subst c5
  have H1 : (if (l2.length : Int) > 10 then (spilelaw42_SenderCounts.j0 k a0 a1 l2 true) else (if a0 < 1 then (spilelaw42_SenderCounts.j0 k a0 a1 l2 true) else (if a0 > 99 then (spilelaw42_SenderCounts.j0 k a0 a1 l2 true) else (if a1 < 1 then (spilelaw42_SenderCounts.j0 k a0 a1 l2 true) else (if a1 > 99 then (spilelaw42_SenderCounts.j0 k a0 a1 l2 true) else (spilelaw42_SenderCounts.j0 k a0 a1 l2 (a1 == a0))))))) = some r := by rw [if_pos rfl] at H; exact H
  clear H
  have H := H1
  clear H1
  have HC6 := Aside0.mk H
  clear H
  go_enter Try.func6, Try.ntmps6
  go_upto_region 3 with (first | ((with_reducible refine gqC (f := 10) rfl ?_); refine goesL_ (some 15) rfl rfl Try.func10 (by kernel_rfl) rfl #[] rfl (by (try simp only [List.map_toArray, List.map_cons, List.map_nil]); first | done | rfl | (simp only [List.length_drop, List.length_take]; rfl)) ?_; (with_reducible refine (spilelaw42_awake.calls k  true _ A4.out).mono ?_); rintro e w7 ⟨rfl, hb⟩; refine ⟨_, rfl, ?_⟩; have n0_ := Aside0.mk (lqT (by repeat (first | (with_reducible first | exact HB.out | apply lqA | apply lqN | apply lqD) | exact HB.out)) hb); clear HB; have HB := n0_; clear n0_; (try clear hb); (try clear hb2); (try clear hk); (try clear hi)))
  (try simp only [Act.put, List.setIfInBounds_toArray, List.set_cons_zero, List.set_cons_succ])
  go_cut [40] (fun v40 wc => ∃ (kq : Nat) (x40_5 : Bool), v40 = .bool x40_5 ∧ Aside0 (spilelaw42_SenderCounts.j0 kq a0 a1 l2 x40_5 = some r) ∧ Aside0 (kq ≤ k) ∧ Aside0 (Below w.heap.size w wc))
  case first =>
   have H := HC6.out
   clear HC6
   by_cases c8 : (l2.length : Int) > 10
   ·rw [if_pos c8] at H
    have c8b0 : decide (10 < (l2.length : Int)) = true := decide_eq_true c8
    have c8b1 : decide (10 < l2.length) = true := decide_eq_true (by omega)
    clear c8
    (first | rw [c8b0] | (simp only [i64_w, i32_w]; rw [c8b0]) | skip)
    have H' := Aside0.mk H
    clear H
    go_wp2
    go_meet
    case rel => exact ⟨_, (true), (by first | rfl | (simp; done) | (simp [*]; done)), H', ⟨by first | omega | exact Nat.le_refl _⟩, ⟨by repeat (first | (with_reducible first | exact HB.out | apply lqA | apply lqN | apply lqD) | exact HB.out)⟩⟩
   ·rw [if_neg c8] at H
    have c8b0 : decide (10 < (l2.length : Int)) = false := decide_eq_false c8
    have c8b1 : decide (10 < l2.length) = false := decide_eq_false (by omega)
    clear c8
    (first | rw [c8b0] | (simp only [i64_w, i32_w]; rw [c8b0]) | skip)
    by_cases c9 : a0 < 1
    ·rw [if_pos c9] at H
     have c9b0 : decide (a0 < 1) = true := decide_eq_true c9
     clear c9
     have H' := Aside0.mk H
     clear H
     go_wp2
     go_meet
     case rel => exact ⟨_, (true), (by first | rfl | (simp; done) | (simp [*]; done)), H', ⟨by first | omega | exact Nat.le_refl _⟩, ⟨by repeat (first | (with_reducible first | exact HB.out | apply lqA | apply lqN | apply lqD) | exact HB.out)⟩⟩
    ·rw [if_neg c9] at H
     have c9b0 : decide (a0 < 1) = false := decide_eq_false c9
     clear c9
     by_cases c10 : a0 > 99
     ·rw [if_pos c10] at H
      have c10b0 : decide (99 < a0) = true := decide_eq_true c10
      clear c10
      have H' := Aside0.mk H
      clear H
      go_wp2
      go_meet
      case rel => exact ⟨_, (true), (by first | rfl | (simp; done) | (simp [*]; done)), H', ⟨by first | omega | exact Nat.le_refl _⟩, ⟨by repeat (first | (with_reducible first | exact HB.out | apply lqA | apply lqN | apply lqD) | exact HB.out)⟩⟩
     ·rw [if_neg c10] at H
      have c10b0 : decide (99 < a0) = false := decide_eq_false c10
      clear c10
      by_cases c11 : a1 < 1
      ·rw [if_pos c11] at H
       have c11b0 : decide (a1 < 1) = true := decide_eq_true c11
       clear c11
       have H' := Aside0.mk H
       clear H
       go_wp2
       go_meet
       case rel => exact ⟨_, (true), (by first | rfl | (simp; done) | (simp [*]; done)), H', ⟨by first | omega | exact Nat.le_refl _⟩, ⟨by repeat (first | (with_reducible first | exact HB.out | apply lqA | apply lqN | apply lqD) | exact HB.out)⟩⟩
      ·rw [if_neg c11] at H
       have c11b0 : decide (a1 < 1) = false := decide_eq_false c11
       clear c11
       by_cases c12 : a1 > 99
       ·rw [if_pos c12] at H
        have c12b0 : decide (99 < a1) = true := decide_eq_true c12
        clear c12
        have H' := Aside0.mk H
        clear H
        go_wp2
        go_meet
        case rel => exact ⟨_, (true), (by first | rfl | (simp; done) | (simp [*]; done)), H', ⟨by first | omega | exact Nat.le_refl _⟩, ⟨by repeat (first | (with_reducible first | exact HB.out | apply lqA | apply lqN | apply lqD) | exact HB.out)⟩⟩
       ·rw [if_neg c12] at H
        have c12b0 : decide (99 < a1) = false := decide_eq_false c12
        clear c12
        have H' := Aside0.mk H
        clear H
        go_wp2
        go_meet
        case rel => exact ⟨_, ((a1 == a0)), (by first | rfl | (simp; done) | (simp [*]; done)), H', ⟨by first | omega | exact Nat.le_refl _⟩, ⟨by repeat (first | (with_reducible first | exact HB.out | apply lqA | apply lqN | apply lqD) | exact HB.out)⟩⟩
  case rest =>
   clear HC6
   try clear c1
   try clear c2
   try clear p2
   try clear c5
   try clear c6
   try clear c8
   try clear c8b0
   try clear c8b1
   try clear c9
   try clear c9b0
   try clear c10
   try clear c10b0
   try clear c11
   try clear c11b0
   try clear c12
   try clear c12b0
   obtain ⟨kq, x40_5, rfl, HA, HJ5, HB⟩ := hcut
   cases kq with
   | zero => exact absurd HA.out (by simp [spilelaw42_SenderCounts.j0])
   | succ kj5 =>
    have H := HA.out
    clear HA
    simp only [spilelaw42_SenderCounts.j0] at H
    by_cases c13 : x40_5 = true
    ·subst c13
     have H1 : (some true) = some r := by rw [if_pos rfl] at H; exact H
     clear H
     have H := H1
     clear H1
     obtain rfl := Option.some.inj H
     go_wp2
     go_ret
     exact ⟨by first | rfl | (simp [errW_none, errW_some] <;> rfl) | (simp [*, errW_none, errW_some] <;> rfl), by repeat (first | (with_reducible first | exact HB.out | apply lqA | apply lqN | apply lqD) | exact HB.out)⟩
    ·replace c13 := Bool.eq_false_iff.mpr c13
     subst c13
     have H1 : ((sender_New.f a0).bind fun bt378 => (if bt378.2.2.2 = 0 then (spilelaw42_SenderCounts.l0 kj5 a0 a1 l2 0 l2 (l2.length : Int) 0 bt378.1 bt378.2.1 bt378.2.2.1) else (none))) = some r := by rw [if_neg (show ¬ (false = true) by decide)] at H; exact H
     clear H
     have H := H1
     clear H1
     replace H := Option.bind_eq_some_iff.mp H
     obtain ⟨⟨t378, t379, t380, t383⟩, A140, H⟩ := H
     replace H : (if t383 = 0 then (spilelaw42_SenderCounts.l0 kj5 a0 a1 l2 0 l2 (l2.length : Int) 0 t378 t379 t380) else (none)) = some r := H
     have A14 := Aside0.mk A140
     clear A140
     by_cases c15 : t383 = 0
     ·rw [if_pos c15] at H
      have c15b0 : (t383 == 0) = true := beq_iff_eq.mpr c15
      try simp only [beq_self_eq_true, Bool.not_true, Bool.false_or, Bool.true_and] at c15b0
      have c15b1 : (t383 != 0) = false := bne_eq_false_iff_eq.mpr c15
      clear c15
      have H' := Aside0.mk H
      clear H
      go_wp2_with (first | ((with_reducible refine gqC (f := 12) rfl ?_); refine goesL_ (some 43) rfl rfl Try.func12 (by kernel_rfl) rfl #[.int .i64 a0] rfl (by (try simp only [List.map_toArray, List.map_cons, List.map_nil]); first | done | rfl | (simp only [List.length_drop, List.length_take]; rfl)) ?_; (with_reducible refine (sender_New.calls a0 t378 t379 t380 t383 _ A14.out).mono ?_); rintro e w16 ⟨v381, rfl, ho0, hb⟩; refine ⟨_, rfl, ?_⟩; have n0_ := Aside0.mk (Kd.R_lower ho0 (lqZ (by repeat (first | (with_reducible first | exact HB.out | apply lqA | apply lqN | apply lqD) | exact HB.out)))); have n1_ := Aside0.mk (lqT (by repeat (first | (with_reducible first | exact HB.out | apply lqA | apply lqN | apply lqD) | exact HB.out)) hb); clear HB; have HO382 := n0_; have HB := n1_; clear n0_ n1_; (try clear hb); (try clear hb2); (try clear hk); (try clear hi); (try clear ho0)) | ((with_reducible refine gqD (N := 7) rfl ?_); (try (refine gate_guard (by rfl) ?_; dsimp only)); refine box_event ?hg (N := 7) ?hd (cs := #[.int .i64 0, .int .i64 0, .slice none 0 0]) (t := 24) ?hr ?_; (case hd => rfl); (case hg => rfl); (case hr => first | (go_simp; done) | (go_simp; rfl)); intro gb384 hg w17 hbox hb; have n0_ := Aside0.mk (Kd.R_below (by (with_reducible repeat (first | apply Kd.R_alloc | apply Kd.R_drewN | apply Kd.R_drew)); exact HO382.out) hb); have n1_ := Aside0.mk (lqT (by repeat (first | (with_reducible first | exact HB.out | apply lqA | apply lqN | apply lqD) | exact HB.out)) hb); have n2_ := Aside0.mk (hbox); have n3_ := Aside0.mk ((by rw [hg]; exact (lqZ (by repeat (first | (with_reducible first | exact HB.out | apply lqA | apply lqN | apply lqD) | exact HB.out))) : w.heap.size ≤ gb384)); have n4_ := Aside0.mk ((by rw [hg]; exact (lqZ (by repeat (first | (with_reducible first | exact HB.out | apply lqA | apply lqN | apply lqD) | exact HB.out))) : w.heap.size ≤ gb384)); clear HO382; clear HB; have HO382 := n0_; have HB := n1_; have BK384 := n2_; have GW384 := n3_; have GE384 := n4_; clear n0_ n1_ n2_ n3_ n4_; clear hb hbox hg; have hcz18_0 : w17.cell? ⟨gb384, 0, none⟩ = some (.int .i64 0) := (bqC BK384.out 0).trans rfl; have hcz18_1 : w17.cell? ⟨gb384, 1, none⟩ = some (.int .i64 0) := (bqC BK384.out 1).trans rfl; have hcz18_2 : w17.cell? ⟨gb384, 2, none⟩ = some (.slice none 0 0) := (bqC BK384.out 2).trans rfl; have hfz18_0 := bqF BK384.out 0; have hfz18_1 := bqF BK384.out 1; have hfz18_2 := bqF BK384.out 2; obtain ⟨Ao19, co19, eo19⟩ := Kd.R_slice HO382.out; subst eo19))
      go_loopg [9, 50] kj5 (fun kq v9 v50 w' => ∃ (x9_2 : Int) (x50_2 : Int) (x385000_2 : Int) (x385001_2 : Int) (x385002_2 : List (S33)) (u385002 : Value), v9 = .int .i64 x9_2 ∧ v50 = .int .i64 x50_2 ∧ Aside0 (spilelaw42_SenderCounts.l0 kq a0 a1 l2 x9_2 l2 (l2.length : Int) x50_2 x385000_2 x385001_2 x385002_2 = some r) ∧ Aside0 (kq ≤ kj5) ∧ Aside0 (Kd.R k33 33 w' w.heap.size (fun _ => True) u385002 x385002_2) ∧ Aside0 (w'.heap[gb384]? = some (.cells #[.int .i64 x385000_2, .int .i64 x385001_2, u385002] 24 (0, 0))) ∧ Aside0 (Below w.heap.size w w'))
      case atStart => exact ⟨(0), (0), (t378), (t379), (t380), (.slice Ao19 t380.length co19), (by first | rfl | (simp; done) | (simp [*]; done)), (by first | rfl | (simp; done) | (simp [*]; done)), H', ⟨Nat.le_refl _⟩, ⟨by (with_reducible repeat (first | apply Kd.R_alloc | apply Kd.R_drewN | apply Kd.R_drew)); exact Kd.R_mono (Kd.R_far (p := ⟨gb384, 2, none⟩) (Kd.R_far (p := ⟨gb384, 1, none⟩) (Kd.R_far (p := ⟨gb384, 0, none⟩) (Kd.R_types HO382.out BK384.out (by decide)) (fun _ hk => hk.2) (.int .i64 t378)) (fun _ hk => hk.2) (.int .i64 t379)) (fun _ hk => hk.2) (.slice Ao19 t380.length co19)) (fun _ hk => trivial)⟩, ⟨GS.bqZ BK384.out⟩, ⟨by repeat (first | (with_reducible first | exact HB.out | apply lqA | apply lqN | apply lqD | refine lqS ?_ GE384.out) | exact HB.out)⟩⟩
      case round =>
       clear H'
       try clear c1
       try clear c2
       try clear p2
       try clear c5
       try clear c6
       try clear c8
       try clear c8b0
       try clear c8b1
       try clear c9
       try clear c9b0
       try clear c10
       try clear c10b0
       try clear c11
       try clear c11b0
       try clear c12
       try clear c12b0
       try clear c13
       try clear c15
       try clear c15b0
       try clear c15b1
       try clear hcz18_0
       try clear hcz18_1
       try clear hcz18_2
       try clear hfz18_0
       try clear hfz18_1
       try clear hfz18_2
       try clear p2
       obtain ⟨x9_2, x50_2, x385000_2, x385001_2, x385002_2, u385002, rfl, rfl, HA, HK2, HO_385002, BK384, HB⟩ := hrel
       cases gk with
       | zero => exact absurd HA.out (by simp [spilelaw42_SenderCounts.l0])
       | succ k2 =>
        have H := HA.out
        clear HA
        simp only [spilelaw42_SenderCounts.l0] at H
        by_cases c20 : x50_2 < (l2.length : Int)
        ·rw [if_pos c20] at H
         have c20b0 : decide (x50_2 < (l2.length : Int)) = true := decide_eq_true c20
         clear c20
         by_cases c21 : 0 ≤ x50_2
         ·rw [if_pos c21] at H
          have c21b0 : decide (0 ≤ x50_2) = true := decide_eq_true c21
          clear c21
          by_cases c22 : x50_2 < (l2.length : Int)
          ·rw [if_pos c22] at H
           have c22b0 : decide (x50_2 < (l2.length : Int)) = true := decide_eq_true c22
           clear c22
           replace H := Option.bind_eq_some_iff.mp H
           obtain ⟨⟨t386, t387, t388, t389, t390, t391, t392⟩, A230, H⟩ := H
           replace H : ((sender_Send.f k2 x385000_2 x385001_2 x385002_2 a1 t386 t387 t388 t389 t390 t391 t392).bind fun bt393 => (if bt393.2.2.2.2.2.2.2.2.2.2.2.2.2 = 0 then (spilelaw42_SenderCounts.j2 k2 a0 a1 l2 x9_2 (rdOf false l2 x50_2) bt393.2.2.2.2.2.2.2.2.2.2.2.2.2 l2 (l2.length : Int) x50_2 (bt393.2.2.2.2.2.1 != (wrap64 (x50_2 + 1))) bt393.1 bt393.2.1 bt393.2.2.1 bt393.2.2.2.1 bt393.2.2.2.2.1 bt393.2.2.2.2.2.1 bt393.2.2.2.2.2.2.1 bt393.2.2.2.2.2.2.2.1 bt393.2.2.2.2.2.2.2.2.1 bt393.2.2.2.2.2.2.2.2.2.1 bt393.2.2.2.2.2.2.2.2.2.2.1 bt393.2.2.2.2.2.2.2.2.2.2.2.1 bt393.2.2.2.2.2.2.2.2.2.2.2.2.1) else (none))) = some r := H
           have A23 := Aside0.mk A230
           clear A230
           replace H := Option.bind_eq_some_iff.mp H
           obtain ⟨⟨t393, t394, t395, t398, t399, t400, t401, t402, t403, t404, t405, t406, t407, t408⟩, A240, H⟩ := H
           replace H : (if t408 = 0 then (spilelaw42_SenderCounts.j2 k2 a0 a1 l2 x9_2 (rdOf false l2 x50_2) t408 l2 (l2.length : Int) x50_2 (t400 != (wrap64 (x50_2 + 1))) t393 t394 t395 t398 t399 t400 t401 t402 t403 t404 t405 t406 t407) else (none)) = some r := H
           have A24 := Aside0.mk A240
           clear A240
           have HC25 := Aside0.mk H
           clear H
           have p385 : 0 ≤ (x50_2 : Int) := of_decide_eq_true (by first | (with_reducible assumption) | assumption)
           have q385 : x50_2 < (l2.length : Int) := of_decide_eq_true (by first | (with_reducible assumption) | assumption)
           obtain ⟨ad385, e385, hx385_0⟩ := Kd.at_bool HR2.out x50_2 p385 q385
           cases e385
           replace hx385_0 := (HB.out.cell (World.block_lt_of_cell? w _ hx385_0)).trans hx385_0
           replace p385 := eq_true p385
           replace q385 := eq_true q385
           obtain ⟨Ao26, co26, eo26⟩ := Kd.R_slice HO_385002.out
           subst eo26
           try go_wp2
           have n0_ := Aside0.mk (Kd.R_drew HO_385002.out)
           have n1_ := Aside0.mk (bqD BK384.out)
           have n2_ := Aside0.mk (lqD HB.out)
           clear HO_385002
           clear BK384
           clear HB
           have HO_385002 := n0_
           have BK384 := n1_
           have HB := n2_
           clear n0_ n1_ n2_
           refine start_ (n := 15) (S := fun w' => True) (ds := []) #[false, false, false, false, false, false, false, false, false, false, false, false, false, false, false] (by kernel_rfl) rfl rfl trivial (fun hHeld => ?_); refine with_tabW spilelaw42_SenderCounts.tab12 spilelaw42_SenderCounts.bits12 (fun HT_ HW_ => ?_)
           generalize wr.drew = w27 at HO_385002 BK384 HB hHeld ⊢
           refine pure_ (i := 1) (N := some 57) (v := ?_) (a' := ?_) #[false, true, false, false, false, false, false, false, false, false, false, false, false, false, false] rfl rfl (any_of HT_.out (by kernel_rfl)) (fun _ _ _ h => h) (Or.inl ⟨by rfl, ?_⟩) ?_ ?_
           rotate_left
           ·intro w'
            go_simp
            with_reducible rfl
           rotate_left
           ·simp only [Act.put, List.setIfInBounds_toArray, List.set_cons_zero, List.set_cons_succ, i64_w, i32_w]
            rfl
           refine pure_ (i := 2) (N := some 58) (v := ?_) (a' := ?_) #[false, true, true, false, false, false, false, false, false, false, false, false, false, false, false] rfl rfl (any_of HT_.out (by kernel_rfl)) (fun _ _ _ h => h) (Or.inl ⟨by rfl, ?_⟩) ?_ ?_
           rotate_left
           ·intro w'
            go_simp
            with_reducible rfl
           rotate_left
           ·simp only [Act.put, List.setIfInBounds_toArray, List.set_cons_zero, List.set_cons_succ, i64_w, i32_w]
            rfl
           refine inv_at [0, 3, 4, 5, 6, 7, 8, 9, 10, 11, 12, 13, 14] (fun a0_ b a w' => ∃ (v396 : Value) (gb409 : Nat) (gb410 : Nat) (m5_ : Value) (m6_ : Value) (m7_ : Value) (m10_ : Value) (m11_ : Value), a = putSel a0_ b [(0, 56, .agg #[.int .i64 x385000_2, .int .i64 x385001_2, .slice Ao26 x385002_2.length co26]), (3, 59, .int .i64 (wrap64 (x50_2 + 1))), (4, 60, .agg #[.int .i64 t386, .int .i64 t387, .int .i64 t388, .int .i64 t389, .int .i64 t390, .int .i64 t391, .int .i64 t392]), (5, 61, m5_), (6, 55, m6_), (7, 62, m7_), (8, 63, .agg #[.int .i64 t398, .int .i64 t399, .int .i64 t400, .int .i64 t401, .int .i64 t402, .int .i64 t403, .int .i64 t404, .int .i64 t405, .int .i64 t406, .int .i64 t407]), (9, 64, .int .i64 t408), (10, 12, m10_), (11, 13, m11_), (14, 14, .int .i64 t408)] ∧ (Kd.R k33 33 w' w.heap.size (fun _ => True) (.slice Ao26 x385002_2.length co26) x385002_2) ∧ (w'.heap[gb384]? = some (.cells #[.int .i64 x385000_2, .int .i64 x385001_2, .slice Ao26 x385002_2.length co26] 24 (0, 0))) ∧ (Below w.heap.size w w') ∧ (b 10 = true → b 11 = true → gb410 ≠ gb409) ∧ (b 10 = true → b 11 = true → gb409 ≠ gb410) ∧ (b 10 = true → b 12 = false → w'.heap[gb409]? = some (.cells #[.int .i64 0, .int .i64 0, .slice none 0 0] 24 (0, 0))) ∧ (b 10 = true → w.heap.size ≤ gb409) ∧ (b 10 = true → w.heap.size ≤ gb409) ∧ (b 10 = true → gb384 ≠ gb409) ∧ (b 10 = true → gb409 ≠ gb384) ∧ (b 11 = true → b 13 = false → w'.heap[gb410]? = some (.cells #[.int .i64 0, .int .i64 0, .int .i64 0, .int .i64 0, .int .i64 0, .int .i64 0, .int .i64 0, .int .i64 0, .int .i64 0, .int .i64 0] 33 (0, 0))) ∧ (b 11 = true → w.heap.size ≤ gb410) ∧ (b 11 = true → w.heap.size ≤ gb410) ∧ (b 11 = true → gb384 ≠ gb410) ∧ (b 11 = true → gb410 ≠ gb384) ∧ (b 12 = true → w'.heap[gb409]? = some (.cells #[.int .i64 t393, .int .i64 t394, v396] 24 (0, 0))) ∧ (b 13 = true → w'.heap[gb410]? = some (.cells #[.int .i64 t398, .int .i64 t399, .int .i64 t400, .int .i64 t401, .int .i64 t402, .int .i64 t403, .int .i64 t404, .int .i64 t405, .int .i64 t406, .int .i64 t407] 33 (0, 0))) ∧ (b 5 = true → Kd.R k33 33 w' w.heap.size (fun k_ => some k_ ≠ (.slice Ao26 x385002_2.length co26 : Value).ownBlock) v396 t395) ∧ (b 11 = true → Kd.R k33 33 w' w.heap.size (fun k_ => k_ ≠ gb410) (.slice Ao26 x385002_2.length co26) x385002_2) ∧ (b 5 = true → b 11 = true → Kd.R k33 33 w' w.heap.size (fun k_ => some k_ ≠ (.slice Ao26 x385002_2.length co26 : Value).ownBlock ∧ k_ ≠ gb410) v396 t395) ∧ (b 5 = true → (m5_ : Value) = .tuple #[.agg #[.int .i64 t393, .int .i64 t394, v396], .agg #[.int .i64 t398, .int .i64 t399, .int .i64 t400, .int .i64 t401, .int .i64 t402, .int .i64 t403, .int .i64 t404, .int .i64 t405, .int .i64 t406, .int .i64 t407], .int .i64 t408]) ∧ (b 6 = true → (m6_ : Value) = .tuple #[.agg #[.int .i64 t393, .int .i64 t394, v396], .agg #[.int .i64 t398, .int .i64 t399, .int .i64 t400, .int .i64 t401, .int .i64 t402, .int .i64 t403, .int .i64 t404, .int .i64 t405, .int .i64 t406, .int .i64 t407], .int .i64 t408]) ∧ (b 7 = true → (m7_ : Value) = .agg #[.int .i64 t393, .int .i64 t394, v396]) ∧ (b 10 = true → (m10_ : Value) = .pointer (some ⟨gb409, 0, none⟩)) ∧ (b 11 = true → (m11_ : Value) = .pointer (some ⟨gb410, 0, none⟩))) HT_.out HW_.out (by kernel_rfl) (by kernel_rfl) ?_ ?_ ?_
           ·exact ⟨.bool false, 0, 0, .bool false, .bool false, .bool false, .bool false, .bool false, by simp only [putSel, Bool.false_eq_true, if_false], HO_385002.out, BK384.out, HB.out, fun h_ => absurd h_ (by decide), fun h_ => absurd h_ (by decide), fun h_ => absurd h_ (by decide), fun h_ => absurd h_ (by decide), fun h_ => absurd h_ (by decide), fun h_ => absurd h_ (by decide), fun h_ => absurd h_ (by decide), fun h_ => absurd h_ (by decide), fun h_ => absurd h_ (by decide), fun h_ => absurd h_ (by decide), fun h_ => absurd h_ (by decide), fun h_ => absurd h_ (by decide), fun h_ => absurd h_ (by decide), fun h_ => absurd h_ (by decide), fun h_ => absurd h_ (by decide), fun h_ => absurd h_ (by decide), fun h_ => absurd h_ (by decide), fun h_ => absurd h_ (by decide), fun h_ => absurd h_ (by decide), fun h_ => absurd h_ (by decide), fun h_ => absurd h_ (by decide), fun h_ => absurd h_ (by decide)⟩
           ·skip
            clear BK384 HB HO_385002
            refine steps_cons ?_ ?_
            ·rintro b a w' ⟨v396, gb409, gb410, m5_, m6_, m7_, m10_, m11_, ha, Q_HO_385002, Q_BK384, Q_HB, Q_NB410_409, Q_NB409_410, Q_BK409, Q_GW409, Q_GE409, Q_NB384_409, Q_NB409_384, Q_BK410, Q_GW410, Q_GE410, Q_NB384_410, Q_NB410_384, Q_BK409_e12, Q_BK410_e13, Q_HO397_e5, Q_HO_385002_e11, Q_HO397_p5_11, Q_X5_, Q_X6_, Q_X7_, Q_X10_, Q_X11_⟩ hb_ hon hoff
             refine ⟨_, rfl, fun K hK => ?_⟩
             have e7 : a.tmps[7]? = some (.pointer (some ⟨gb384, 0, none⟩)) := by rw [ha]; exact (putSel_off rfl).trans rfl
             replace ha := Aside0.mk ha
             have HO_385002 := Aside0.mk Q_HO_385002
             have BK384 := Aside0.mk Q_BK384
             have HB := Aside0.mk Q_HB
             have hc0_ : w'.cell? ⟨gb384, 0, none⟩ = some (.int .i64 x385000_2) := (bqC BK384.out 0).trans rfl
             have hc1_ : w'.cell? ⟨gb384, 1, none⟩ = some (.int .i64 x385001_2) := (bqC BK384.out 1).trans rfl
             have hc2_ : w'.cell? ⟨gb384, 2, none⟩ = some (.slice Ao26 x385002_2.length co26) := (bqC BK384.out 2).trans rfl
             refine value_ (w1 := w') (v := .agg #[.int .i64 x385000_2, .int .i64 x385001_2, .slice Ao26 x385002_2.length co26]) (by rfl) rfl ?_ ?_
             ·go_simp
              (try simp only [i64_w])
              try rfl
             refine hK.out _ _ ⟨v396, gb409, gb410, m5_, m6_, m7_, m10_, m11_, (by rw [ha.out]; exact putSel_upk 0 hb_ rfl rfl rfl), Q_HO_385002, Q_BK384, Q_HB, Q_NB410_409, Q_NB409_410, Q_BK409, Q_GW409, Q_GE409, Q_NB384_409, Q_NB409_384, Q_BK410, Q_GW410, Q_GE410, Q_NB384_410, Q_NB410_384, fun h0_ => absurd ((hoff 12 (by kernel_rfl)).symm.trans h0_) (by decide), fun h0_ => absurd ((hoff 13 (by kernel_rfl)).symm.trans h0_) (by decide), fun h0_ => absurd ((hoff 5 (by kernel_rfl)).symm.trans h0_) (by decide), Q_HO_385002_e11, fun h0_ _ => absurd ((hoff 5 (by kernel_rfl)).symm.trans h0_) (by decide), fun h0_ => absurd ((hoff 5 (by kernel_rfl)).symm.trans h0_) (by decide), fun h0_ => absurd ((hoff 6 (by kernel_rfl)).symm.trans h0_) (by decide), fun h0_ => absurd ((hoff 7 (by kernel_rfl)).symm.trans h0_) (by decide), Q_X10_, Q_X11_⟩
            refine steps_cons ?_ ?_
            ·rintro b a w' ⟨v396, gb409, gb410, m5_, m6_, m7_, m10_, m11_, ha, Q_HO_385002, Q_BK384, Q_HB, Q_NB410_409, Q_NB409_410, Q_BK409, Q_GW409, Q_GE409, Q_NB384_409, Q_NB409_384, Q_BK410, Q_GW410, Q_GE410, Q_NB384_410, Q_NB410_384, Q_BK409_e12, Q_BK410_e13, Q_HO397_e5, Q_HO_385002_e11, Q_HO397_p5_11, Q_X5_, Q_X6_, Q_X7_, Q_X10_, Q_X11_⟩ hb_ hon hoff
             refine ⟨_, rfl, fun K hK => ?_⟩
             have e58 : a.tmps[58]? = some (.int .i64 x50_2) := by rw [ha]; exact (putSel_off rfl).trans rfl
             replace ha := Aside0.mk ha
             have HO_385002 := Aside0.mk Q_HO_385002
             have BK384 := Aside0.mk Q_BK384
             have HB := Aside0.mk Q_HB
             refine value_ (w1 := w') (v := .int .i64 (wrap64 (x50_2 + 1))) (by rfl) rfl ?_ ?_
             ·go_simp
              (try simp only [i64_w])
              try rfl
             refine hK.out _ _ ⟨v396, gb409, gb410, m5_, m6_, m7_, m10_, m11_, (by rw [ha.out]; exact putSel_upk 1 hb_ rfl rfl rfl), Q_HO_385002, Q_BK384, Q_HB, Q_NB410_409, Q_NB409_410, Q_BK409, Q_GW409, Q_GE409, Q_NB384_409, Q_NB409_384, Q_BK410, Q_GW410, Q_GE410, Q_NB384_410, Q_NB410_384, fun h0_ => absurd ((hoff 12 (by kernel_rfl)).symm.trans h0_) (by decide), fun h0_ => absurd ((hoff 13 (by kernel_rfl)).symm.trans h0_) (by decide), fun h0_ => absurd ((hoff 5 (by kernel_rfl)).symm.trans h0_) (by decide), Q_HO_385002_e11, fun h0_ _ => absurd ((hoff 5 (by kernel_rfl)).symm.trans h0_) (by decide), fun h0_ => absurd ((hoff 5 (by kernel_rfl)).symm.trans h0_) (by decide), fun h0_ => absurd ((hoff 6 (by kernel_rfl)).symm.trans h0_) (by decide), fun h0_ => absurd ((hoff 7 (by kernel_rfl)).symm.trans h0_) (by decide), Q_X10_, Q_X11_⟩
            refine steps_cons ?_ ?_
            ·rintro b a w' ⟨v396, gb409, gb410, m5_, m6_, m7_, m10_, m11_, ha, Q_HO_385002, Q_BK384, Q_HB, Q_NB410_409, Q_NB409_410, Q_BK409, Q_GW409, Q_GE409, Q_NB384_409, Q_NB409_384, Q_BK410, Q_GW410, Q_GE410, Q_NB384_410, Q_NB410_384, Q_BK409_e12, Q_BK410_e13, Q_HO397_e5, Q_HO_385002_e11, Q_HO397_p5_11, Q_X5_, Q_X6_, Q_X7_, Q_X10_, Q_X11_⟩ hb_ hon hoff
             refine ⟨_, rfl, fun K hK => ?_⟩
             have e59 : a.tmps[59]? = some (.int .i64 (wrap64 (x50_2 + 1))) := by rw [ha]; exact putSel_on (e := (3, 59, .int .i64 (wrap64 (x50_2 + 1)))) 1 rfl rfl (hon 3 (by kernel_rfl)) rfl
             replace ha := Aside0.mk ha
             have HO_385002 := Aside0.mk Q_HO_385002
             have BK384 := Aside0.mk Q_BK384
             have HB := Aside0.mk Q_HB
             refine goes_ Try.func25 (by kernel_rfl) rfl #[.int .i64 (wrap64 (x50_2 + 1))] (by rfl) rfl rfl (by first | (simp only [List.map_toArray, List.map_cons, List.map_nil, Act.eval, Array.getD_eq_getD_getElem?, Option.getD_some, e59]; done) | (simp only [List.map_toArray, List.map_cons, List.map_nil, Act.eval, Array.getD_eq_getD_getElem?, Option.getD_some, e59]; rfl)) ?_
             with_reducible refine (spilelaw42_message.calls (wrap64 (x50_2 + 1)) t386 t387 t388 t389 t390 t391 t392 _ A23.out).mono ?_
             rintro e w28 ⟨rfl, hb⟩
             refine ⟨_, rfl, ?_⟩
             have n0_ := Aside0.mk (Kd.R_below (by (with_reducible repeat (first | apply Kd.R_alloc | apply Kd.R_drewN | apply Kd.R_drew)); exact HO_385002.out) hb)
             have n1_ := Aside0.mk (bqB (GS.bqX BK384.out) hb)
             have n2_ := Aside0.mk (lqT (by repeat (first | (with_reducible first | exact HB.out | apply lqA | apply lqN | apply lqD | refine lqS ?_ GE384.out) | exact HB.out)) hb)
             have z_BK409 := fun (h0_ : b 10 = true) (h1_ : b 12 = false) => (show w28.heap[gb409]? = some (.cells #[.int .i64 0, .int .i64 0, .slice none 0 0] 24 (0, 0)) from by first | exact (bqB (GS.bqX (Q_BK409 h0_ h1_)) hb))
             have z_BK410 := fun (h0_ : b 11 = true) (h1_ : b 13 = false) => (show w28.heap[gb410]? = some (.cells #[.int .i64 0, .int .i64 0, .int .i64 0, .int .i64 0, .int .i64 0, .int .i64 0, .int .i64 0, .int .i64 0, .int .i64 0, .int .i64 0] 33 (0, 0)) from by first | exact (bqB (GS.bqX (Q_BK410 h0_ h1_)) hb))
             have z_HO_385002_e11 := fun (h0_ : b 11 = true) => (show Kd.R k33 33 w28 w.heap.size (fun k_ => k_ ≠ gb410) (.slice Ao26 x385002_2.length co26) x385002_2 from by first | exact (Kd.R_below (by (with_reducible repeat (first | apply Kd.R_alloc | apply Kd.R_drewN | apply Kd.R_drew)); exact (Q_HO_385002_e11 h0_)) hb) | exact Kd.R_mono (Kd.R_below (by (with_reducible repeat (first | apply Kd.R_alloc | apply Kd.R_drewN | apply Kd.R_drew)); exact (Q_HO_385002_e11 h0_)) hb) (fun _ hk => GS.cj hk))
             clear HO_385002
             clear BK384
             clear HB
             have HO_385002 := n0_
             have BK384 := n1_
             have HB := n2_
             clear n0_ n1_ n2_
             (try clear hb)
             (try clear hb2)
             (try clear hk)
             (try clear hi)
             refine hK.out _ _ ⟨v396, gb409, gb410, m5_, m6_, m7_, m10_, m11_, (by rw [ha.out]; exact putSel_upk 2 hb_ rfl rfl rfl), (by (with_reducible repeat (first | apply Kd.R_alloc | apply Kd.R_drewN | apply Kd.R_drew)); exact HO_385002.out), (GS.bqX BK384.out), (by repeat (first | (with_reducible first | exact HB.out | apply lqA | apply lqN | apply lqD | refine lqS ?_ GE384.out) | exact HB.out)), Q_NB410_409, Q_NB409_410, z_BK409, Q_GW409, Q_GE409, Q_NB384_409, Q_NB409_384, z_BK410, Q_GW410, Q_GE410, Q_NB384_410, Q_NB410_384, fun h0_ => absurd ((hoff 12 (by kernel_rfl)).symm.trans h0_) (by decide), fun h0_ => absurd ((hoff 13 (by kernel_rfl)).symm.trans h0_) (by decide), fun h0_ => absurd ((hoff 5 (by kernel_rfl)).symm.trans h0_) (by decide), z_HO_385002_e11, fun h0_ _ => absurd ((hoff 5 (by kernel_rfl)).symm.trans h0_) (by decide), fun h0_ => absurd ((hoff 5 (by kernel_rfl)).symm.trans h0_) (by decide), fun h0_ => absurd ((hoff 6 (by kernel_rfl)).symm.trans h0_) (by decide), fun h0_ => absurd ((hoff 7 (by kernel_rfl)).symm.trans h0_) (by decide), Q_X10_, Q_X11_⟩
            refine steps_cons ?_ ?_
            ·rintro b a w' ⟨v396, gb409, gb410, m5_, m6_, m7_, m10_, m11_, ha, Q_HO_385002, Q_BK384, Q_HB, Q_NB410_409, Q_NB409_410, Q_BK409, Q_GW409, Q_GE409, Q_NB384_409, Q_NB409_384, Q_BK410, Q_GW410, Q_GE410, Q_NB384_410, Q_NB410_384, Q_BK409_e12, Q_BK410_e13, Q_HO397_e5, Q_HO_385002_e11, Q_HO397_p5_11, Q_X5_, Q_X6_, Q_X7_, Q_X10_, Q_X11_⟩ hb_ hon hoff
             refine ⟨_, rfl, fun K hK => ?_⟩
             have e56 : a.tmps[56]? = some (.agg #[.int .i64 x385000_2, .int .i64 x385001_2, .slice Ao26 x385002_2.length co26]) := by rw [ha]; exact putSel_on (e := (0, 56, .agg #[.int .i64 x385000_2, .int .i64 x385001_2, .slice Ao26 x385002_2.length co26])) 0 rfl rfl (hon 0 (by kernel_rfl)) rfl
             have e57 : a.tmps[57]? = some (.int .i64 a1) := by rw [ha]; exact (putSel_off rfl).trans rfl
             have e60 : a.tmps[60]? = some (.agg #[.int .i64 t386, .int .i64 t387, .int .i64 t388, .int .i64 t389, .int .i64 t390, .int .i64 t391, .int .i64 t392]) := by rw [ha]; exact putSel_on (e := (4, 60, .agg #[.int .i64 t386, .int .i64 t387, .int .i64 t388, .int .i64 t389, .int .i64 t390, .int .i64 t391, .int .i64 t392])) 2 rfl rfl (hon 4 (by kernel_rfl)) rfl
             replace ha := Aside0.mk ha
             have HO_385002 := Aside0.mk Q_HO_385002
             have BK384 := Aside0.mk Q_BK384
             have HB := Aside0.mk Q_HB
             refine goes_ Try.func14 (by kernel_rfl) rfl #[.agg #[.int .i64 x385000_2, .int .i64 x385001_2, .slice Ao26 x385002_2.length co26], .int .i64 a1, .agg #[.int .i64 t386, .int .i64 t387, .int .i64 t388, .int .i64 t389, .int .i64 t390, .int .i64 t391, .int .i64 t392]] (by rfl) rfl rfl (by first | (simp only [List.map_toArray, List.map_cons, List.map_nil, Act.eval, Array.getD_eq_getD_getElem?, Option.getD_some, e56, e57, e60]; done) | (simp only [List.map_toArray, List.map_cons, List.map_nil, Act.eval, Array.getD_eq_getD_getElem?, Option.getD_some, e56, e57, e60]; rfl)) ?_
             with_reducible refine (sender_Send.calls k2 x385000_2 x385001_2 _ _ x385002_2 a1 t386 t387 t388 t389 t390 t391 t392 t393 t394 t395 t398 t399 t400 t401 t402 t403 t404 t405 t406 t407 t408 _ ?side1 ?side2 A24.out).mono ?_
             (case side1 => repeat (first | exact (Kd.R_reads' HO_385002.out).2.2 | (with_reducible refine Kd.C_alloc ?_ _) | (with_reducible refine Kd.C_drewN ?_ _) | (with_reducible refine Kd.C_drew ?_)))
             (case side2 => exact (Kd.R_reads' HO_385002.out).2.1)
             rintro e w30 ⟨v396, rfl, ho0, hb⟩
             refine ⟨_, rfl, ?_⟩
             have n0_ := Aside0.mk (Kd.R_elder' (by (with_reducible repeat (first | apply Kd.R_alloc | apply Kd.R_drewN | apply Kd.R_drew)); exact HO_385002.out) (Kd.R_base ho0) hb)
             have n1_ := Aside0.mk (Kd.R_lower (Kd.R_new' ho0 (Kd.R_lt (by (with_reducible repeat (first | apply Kd.R_alloc | apply Kd.R_drewN | apply Kd.R_drew)); exact HO_385002.out))) (lqZ (by repeat (first | (with_reducible first | exact HB.out | apply lqA | apply lqN | apply lqD | refine lqS ?_ GE384.out) | exact HB.out))))
             have n2_ := Aside0.mk (bqB (GS.bqX BK384.out) hb)
             have n3_ := Aside0.mk (lqT (by repeat (first | (with_reducible first | exact HB.out | apply lqA | apply lqN | apply lqD | refine lqS ?_ GE384.out) | exact HB.out)) hb)
             have z_BK409 := fun (h0_ : b 10 = true) (h1_ : b 12 = false) => (show w30.heap[gb409]? = some (.cells #[.int .i64 0, .int .i64 0, .slice none 0 0] 24 (0, 0)) from by first | exact (bqB (GS.bqX (Q_BK409 h0_ h1_)) hb))
             have z_BK410 := fun (h0_ : b 11 = true) (h1_ : b 13 = false) => (show w30.heap[gb410]? = some (.cells #[.int .i64 0, .int .i64 0, .int .i64 0, .int .i64 0, .int .i64 0, .int .i64 0, .int .i64 0, .int .i64 0, .int .i64 0, .int .i64 0] 33 (0, 0)) from by first | exact (bqB (GS.bqX (Q_BK410 h0_ h1_)) hb))
             have z_HO_385002_e11 := fun (h0_ : b 11 = true) => (show Kd.R k33 33 w30 w.heap.size (fun k_ => k_ ≠ gb410) (.slice Ao26 x385002_2.length co26) x385002_2 from by first | exact (Kd.R_elder' (by (with_reducible repeat (first | apply Kd.R_alloc | apply Kd.R_drewN | apply Kd.R_drew)); exact (Q_HO_385002_e11 h0_)) (Kd.R_base ho0) hb) | exact Kd.R_mono (Kd.R_elder' (by (with_reducible repeat (first | apply Kd.R_alloc | apply Kd.R_drewN | apply Kd.R_drew)); exact (Q_HO_385002_e11 h0_)) (Kd.R_base ho0) hb) (fun _ hk => GS.cj hk))
             have z_HO397_p5_11 := fun (h0_ : up b 5 5 = true) (h1_ : up b 5 11 = true) => (show Kd.R k33 33 w30 w.heap.size (fun k_ => some k_ ≠ (.slice Ao26 x385002_2.length co26 : Value).ownBlock ∧ k_ ≠ gb410) v396 t395 from (Kd.R_mono (Kd.R_lower (Kd.R_newB (Kd.R_new' ho0 (Kd.R_lt (by (with_reducible repeat (first | apply Kd.R_alloc | apply Kd.R_drewN | apply Kd.R_drew)); exact (Q_HO_385002_e11 h1_)))) (GS.bqX (Q_BK410 h1_ (hoff 13 (by kernel_rfl))))) (lqZ (by repeat (first | (with_reducible first | exact HB.out | apply lqA | apply lqN | apply lqD | refine lqS ?_ GE384.out | refine lqS ?_ (Q_GE410 h1_)) | exact HB.out)))) (fun _ hk => GS.cj hk)))
             clear HO_385002
             clear BK384
             clear HB
             have HO_385002 := n0_
             have HO397 := n1_
             have BK384 := n2_
             have HB := n3_
             clear n0_ n1_ n2_ n3_
             (try clear hb)
             (try clear hb2)
             (try clear hk)
             (try clear hi)
             (try clear ho0)
             refine hK.out _ _ ⟨v396, gb409, gb410, (.tuple #[.agg #[.int .i64 t393, .int .i64 t394, v396], .agg #[.int .i64 t398, .int .i64 t399, .int .i64 t400, .int .i64 t401, .int .i64 t402, .int .i64 t403, .int .i64 t404, .int .i64 t405, .int .i64 t406, .int .i64 t407], .int .i64 t408]), m6_, m7_, m10_, m11_, (by rw [ha.out]; exact putSel_upk 3 hb_ rfl rfl rfl), (by (with_reducible repeat (first | apply Kd.R_alloc | apply Kd.R_drewN | apply Kd.R_drew)); exact Kd.R_mono HO_385002.out (fun _ hk => GS.cj hk)), (GS.bqX BK384.out), (by repeat (first | (with_reducible first | exact HB.out | apply lqA | apply lqN | apply lqD | refine lqS ?_ GE384.out) | exact HB.out)), Q_NB410_409, Q_NB409_410, z_BK409, Q_GW409, Q_GE409, Q_NB384_409, Q_NB409_384, z_BK410, Q_GW410, Q_GE410, Q_NB384_410, Q_NB410_384, fun h0_ => absurd ((hoff 12 (by kernel_rfl)).symm.trans h0_) (by decide), fun h0_ => absurd ((hoff 13 (by kernel_rfl)).symm.trans h0_) (by decide), fun _ => (by (with_reducible repeat (first | apply Kd.R_alloc | apply Kd.R_drewN | apply Kd.R_drew)); exact Kd.R_mono HO397.out (fun _ hk => GS.cj hk)), z_HO_385002_e11, z_HO397_p5_11, fun _ => rfl, fun h0_ => absurd ((hoff 6 (by kernel_rfl)).symm.trans h0_) (by decide), fun h0_ => absurd ((hoff 7 (by kernel_rfl)).symm.trans h0_) (by decide), Q_X10_, Q_X11_⟩
            refine steps_cons ?_ ?_
            ·rintro b a w' ⟨v396, gb409, gb410, m5_, m6_, m7_, m10_, m11_, ha, Q_HO_385002, Q_BK384, Q_HB, Q_NB410_409, Q_NB409_410, Q_BK409, Q_GW409, Q_GE409, Q_NB384_409, Q_NB409_384, Q_BK410, Q_GW410, Q_GE410, Q_NB384_410, Q_NB410_384, Q_BK409_e12, Q_BK410_e13, Q_HO397_e5, Q_HO_385002_e11, Q_HO397_p5_11, Q_X5_, Q_X6_, Q_X7_, Q_X10_, Q_X11_⟩ hb_ hon hoff
             refine ⟨_, rfl, fun K hK => ?_⟩
             have e61 : a.tmps[61]? = some (m5_) := by rw [ha]; exact putSel_on (e := (5, 61, m5_)) 3 rfl rfl (hon 5 (by kernel_rfl)) rfl
             rw [Q_X5_ (hon 5 (by kernel_rfl))] at e61
             replace ha := Aside0.mk ha
             have HO_385002 := Aside0.mk Q_HO_385002
             have BK384 := Aside0.mk Q_BK384
             have HB := Aside0.mk Q_HB
             have HO397 := Aside0.mk (Q_HO397_e5 (hon 5 (by kernel_rfl)))
             refine value_ (w1 := w') (v := .tuple #[.agg #[.int .i64 t393, .int .i64 t394, v396], .agg #[.int .i64 t398, .int .i64 t399, .int .i64 t400, .int .i64 t401, .int .i64 t402, .int .i64 t403, .int .i64 t404, .int .i64 t405, .int .i64 t406, .int .i64 t407], .int .i64 t408]) (by rfl) rfl ?_ ?_
             ·go_simp
              (try simp only [i64_w])
              try rfl
             refine hK.out _ _ ⟨v396, gb409, gb410, m5_, (.tuple #[.agg #[.int .i64 t393, .int .i64 t394, v396], .agg #[.int .i64 t398, .int .i64 t399, .int .i64 t400, .int .i64 t401, .int .i64 t402, .int .i64 t403, .int .i64 t404, .int .i64 t405, .int .i64 t406, .int .i64 t407], .int .i64 t408]), m7_, m10_, m11_, (by rw [ha.out]; exact putSel_upk 4 hb_ rfl rfl rfl), Q_HO_385002, Q_BK384, Q_HB, Q_NB410_409, Q_NB409_410, Q_BK409, Q_GW409, Q_GE409, Q_NB384_409, Q_NB409_384, Q_BK410, Q_GW410, Q_GE410, Q_NB384_410, Q_NB410_384, fun h0_ => absurd ((hoff 12 (by kernel_rfl)).symm.trans h0_) (by decide), fun h0_ => absurd ((hoff 13 (by kernel_rfl)).symm.trans h0_) (by decide), Q_HO397_e5, Q_HO_385002_e11, Q_HO397_p5_11, Q_X5_, fun _ => rfl, fun h0_ => absurd ((hoff 7 (by kernel_rfl)).symm.trans h0_) (by decide), Q_X10_, Q_X11_⟩
            refine steps_cons ?_ ?_
            ·rintro b a w' ⟨v396, gb409, gb410, m5_, m6_, m7_, m10_, m11_, ha, Q_HO_385002, Q_BK384, Q_HB, Q_NB410_409, Q_NB409_410, Q_BK409, Q_GW409, Q_GE409, Q_NB384_409, Q_NB409_384, Q_BK410, Q_GW410, Q_GE410, Q_NB384_410, Q_NB410_384, Q_BK409_e12, Q_BK410_e13, Q_HO397_e5, Q_HO_385002_e11, Q_HO397_p5_11, Q_X5_, Q_X6_, Q_X7_, Q_X10_, Q_X11_⟩ hb_ hon hoff
             refine ⟨_, rfl, fun K hK => ?_⟩
             have e55 : a.tmps[55]? = some (m6_) := by rw [ha]; exact putSel_on (e := (6, 55, m6_)) 4 rfl rfl (hon 6 (by kernel_rfl)) rfl
             rw [Q_X6_ (hon 6 (by kernel_rfl))] at e55
             replace ha := Aside0.mk ha
             have HO_385002 := Aside0.mk Q_HO_385002
             have BK384 := Aside0.mk Q_BK384
             have HB := Aside0.mk Q_HB
             have HO397 := Aside0.mk (Q_HO397_e5 (hon 5 (by kernel_rfl)))
             refine value_ (w1 := w') (v := .agg #[.int .i64 t393, .int .i64 t394, v396]) (by rfl) rfl ?_ ?_
             ·go_simp
              (try simp only [i64_w])
              try rfl
             refine hK.out _ _ ⟨v396, gb409, gb410, m5_, m6_, (.agg #[.int .i64 t393, .int .i64 t394, v396]), m10_, m11_, (by rw [ha.out]; exact putSel_upk 5 hb_ rfl rfl rfl), Q_HO_385002, Q_BK384, Q_HB, Q_NB410_409, Q_NB409_410, Q_BK409, Q_GW409, Q_GE409, Q_NB384_409, Q_NB409_384, Q_BK410, Q_GW410, Q_GE410, Q_NB384_410, Q_NB410_384, fun h0_ => absurd ((hoff 12 (by kernel_rfl)).symm.trans h0_) (by decide), fun h0_ => absurd ((hoff 13 (by kernel_rfl)).symm.trans h0_) (by decide), Q_HO397_e5, Q_HO_385002_e11, Q_HO397_p5_11, Q_X5_, Q_X6_, fun _ => rfl, Q_X10_, Q_X11_⟩
            refine steps_cons ?_ ?_
            ·rintro b a w' ⟨v396, gb409, gb410, m5_, m6_, m7_, m10_, m11_, ha, Q_HO_385002, Q_BK384, Q_HB, Q_NB410_409, Q_NB409_410, Q_BK409, Q_GW409, Q_GE409, Q_NB384_409, Q_NB409_384, Q_BK410, Q_GW410, Q_GE410, Q_NB384_410, Q_NB410_384, Q_BK409_e12, Q_BK410_e13, Q_HO397_e5, Q_HO_385002_e11, Q_HO397_p5_11, Q_X5_, Q_X6_, Q_X7_, Q_X10_, Q_X11_⟩ hb_ hon hoff
             refine ⟨_, rfl, fun K hK => ?_⟩
             have e55 : a.tmps[55]? = some (m6_) := by rw [ha]; exact putSel_on (e := (6, 55, m6_)) 4 rfl rfl (hon 6 (by kernel_rfl)) rfl
             rw [Q_X6_ (hon 6 (by kernel_rfl))] at e55
             replace ha := Aside0.mk ha
             have HO_385002 := Aside0.mk Q_HO_385002
             have BK384 := Aside0.mk Q_BK384
             have HB := Aside0.mk Q_HB
             have HO397 := Aside0.mk (Q_HO397_e5 (hon 5 (by kernel_rfl)))
             refine value_ (w1 := w') (v := .agg #[.int .i64 t398, .int .i64 t399, .int .i64 t400, .int .i64 t401, .int .i64 t402, .int .i64 t403, .int .i64 t404, .int .i64 t405, .int .i64 t406, .int .i64 t407]) (by rfl) rfl ?_ ?_
             ·go_simp
              (try simp only [i64_w])
              try rfl
             refine hK.out _ _ ⟨v396, gb409, gb410, m5_, m6_, m7_, m10_, m11_, (by rw [ha.out]; exact putSel_upk 6 hb_ rfl rfl rfl), Q_HO_385002, Q_BK384, Q_HB, Q_NB410_409, Q_NB409_410, Q_BK409, Q_GW409, Q_GE409, Q_NB384_409, Q_NB409_384, Q_BK410, Q_GW410, Q_GE410, Q_NB384_410, Q_NB410_384, Q_BK409_e12, fun h0_ => absurd ((hoff 13 (by kernel_rfl)).symm.trans h0_) (by decide), Q_HO397_e5, Q_HO_385002_e11, Q_HO397_p5_11, Q_X5_, Q_X6_, Q_X7_, Q_X10_, Q_X11_⟩
            refine steps_cons ?_ ?_
            ·rintro b a w' ⟨v396, gb409, gb410, m5_, m6_, m7_, m10_, m11_, ha, Q_HO_385002, Q_BK384, Q_HB, Q_NB410_409, Q_NB409_410, Q_BK409, Q_GW409, Q_GE409, Q_NB384_409, Q_NB409_384, Q_BK410, Q_GW410, Q_GE410, Q_NB384_410, Q_NB410_384, Q_BK409_e12, Q_BK410_e13, Q_HO397_e5, Q_HO_385002_e11, Q_HO397_p5_11, Q_X5_, Q_X6_, Q_X7_, Q_X10_, Q_X11_⟩ hb_ hon hoff
             refine ⟨_, rfl, fun K hK => ?_⟩
             have e55 : a.tmps[55]? = some (m6_) := by rw [ha]; exact putSel_on (e := (6, 55, m6_)) 4 rfl rfl (hon 6 (by kernel_rfl)) rfl
             rw [Q_X6_ (hon 6 (by kernel_rfl))] at e55
             replace ha := Aside0.mk ha
             have HO_385002 := Aside0.mk Q_HO_385002
             have BK384 := Aside0.mk Q_BK384
             have HB := Aside0.mk Q_HB
             have HO397 := Aside0.mk (Q_HO397_e5 (hon 5 (by kernel_rfl)))
             refine value_ (w1 := w') (v := .int .i64 t408) (by rfl) rfl ?_ ?_
             ·go_simp
              (try simp only [i64_w])
              try rfl
             refine hK.out _ _ ⟨v396, gb409, gb410, m5_, m6_, m7_, m10_, m11_, (by rw [ha.out]; exact putSel_upk 7 hb_ rfl rfl rfl), Q_HO_385002, Q_BK384, Q_HB, Q_NB410_409, Q_NB409_410, Q_BK409, Q_GW409, Q_GE409, Q_NB384_409, Q_NB409_384, Q_BK410, Q_GW410, Q_GE410, Q_NB384_410, Q_NB410_384, Q_BK409_e12, Q_BK410_e13, Q_HO397_e5, Q_HO_385002_e11, Q_HO397_p5_11, Q_X5_, Q_X6_, Q_X7_, Q_X10_, Q_X11_⟩
            refine steps_cons ?_ ?_
            ·rintro b a w' ⟨v396, gb409, gb410, m5_, m6_, m7_, m10_, m11_, ha, Q_HO_385002, Q_BK384, Q_HB, Q_NB410_409, Q_NB409_410, Q_BK409, Q_GW409, Q_GE409, Q_NB384_409, Q_NB409_384, Q_BK410, Q_GW410, Q_GE410, Q_NB384_410, Q_NB410_384, Q_BK409_e12, Q_BK410_e13, Q_HO397_e5, Q_HO_385002_e11, Q_HO397_p5_11, Q_X5_, Q_X6_, Q_X7_, Q_X10_, Q_X11_⟩ hb_ hon hoff
             refine ⟨_, rfl, fun K hK => ?_⟩
             replace ha := Aside0.mk ha
             have HO_385002 := Aside0.mk Q_HO_385002
             have BK384 := Aside0.mk Q_BK384
             have HB := Aside0.mk Q_HB
             refine box_step ?hg (N := 12) ?hd (cs := #[.int .i64 0, .int .i64 0, .slice none 0 0]) (t := 24) ?hr ?_; (case hd => rfl); (case hg => rfl); (case hr => first | (go_simp; done) | (go_simp; rfl))
             intro gb409 hg w28 hbox hb
             have n0_ := Aside0.mk (Kd.R_below (by (with_reducible repeat (first | apply Kd.R_alloc | apply Kd.R_drewN | apply Kd.R_drew)); exact HO_385002.out) hb)
             have n1_ := Aside0.mk (bqB (GS.bqX BK384.out) hb)
             have n2_ := Aside0.mk (lqT (by repeat (first | (with_reducible first | exact HB.out | apply lqA | apply lqN | apply lqD | refine lqS ?_ GE384.out) | exact HB.out)) hb)
             have n3_ := Aside0.mk (hbox)
             have n4_ := Aside0.mk ((by rw [hg]; exact (lqZ (by repeat (first | (with_reducible first | exact HB.out | apply lqA | apply lqN | apply lqD | refine lqS ?_ GE384.out) | exact HB.out))) : w.heap.size ≤ gb409))
             have n5_ := Aside0.mk ((by rw [hg]; exact (lqZ (by repeat (first | (with_reducible first | exact HB.out | apply lqA | apply lqN | apply lqD | refine lqS ?_ GE384.out) | exact HB.out))) : w.heap.size ≤ gb409))
             have n6_ := Aside0.mk ((by rw [hg]; exact Nat.ne_of_lt (blk_lt (GS.bqX BK384.out)) : gb384 ≠ gb409))
             have n7_ := Aside0.mk ((by rw [hg]; exact Nat.ne_of_gt (blk_lt (GS.bqX BK384.out)) : gb409 ≠ gb384))
             have z_NB410_409 := fun (h0_ : up b 10 10 = true) (h1_ : up b 10 11 = true) => (show gb410 ≠ gb409 from ((by rw [hg]; exact Nat.ne_of_lt (blk_lt (GS.bqX (Q_BK410 h1_ (hoff 13 (by kernel_rfl))))) : gb410 ≠ gb409)))
             have z_NB409_410 := fun (h0_ : up b 10 10 = true) (h1_ : up b 10 11 = true) => (show gb409 ≠ gb410 from ((by rw [hg]; exact Nat.ne_of_gt (blk_lt (GS.bqX (Q_BK410 h1_ (hoff 13 (by kernel_rfl))))) : gb409 ≠ gb410)))
             have z_BK410 := fun (h0_ : b 11 = true) (h1_ : b 13 = false) => (show w28.heap[gb410]? = some (.cells #[.int .i64 0, .int .i64 0, .int .i64 0, .int .i64 0, .int .i64 0, .int .i64 0, .int .i64 0, .int .i64 0, .int .i64 0, .int .i64 0] 33 (0, 0)) from by first | exact (bqB (GS.bqX (Q_BK410 h0_ h1_)) hb))
             have z_HO397_e5 := fun (h0_ : b 5 = true) => (show Kd.R k33 33 w28 w.heap.size (fun k_ => some k_ ≠ (.slice Ao26 x385002_2.length co26 : Value).ownBlock) v396 t395 from by first | exact (Kd.R_below (by (with_reducible repeat (first | apply Kd.R_alloc | apply Kd.R_drewN | apply Kd.R_drew)); exact (Q_HO397_e5 h0_)) hb) | exact Kd.R_mono (Kd.R_below (by (with_reducible repeat (first | apply Kd.R_alloc | apply Kd.R_drewN | apply Kd.R_drew)); exact (Q_HO397_e5 h0_)) hb) (fun _ hk => GS.cj hk))
             have z_HO_385002_e11 := fun (h0_ : b 11 = true) => (show Kd.R k33 33 w28 w.heap.size (fun k_ => k_ ≠ gb410) (.slice Ao26 x385002_2.length co26) x385002_2 from by first | exact (Kd.R_below (by (with_reducible repeat (first | apply Kd.R_alloc | apply Kd.R_drewN | apply Kd.R_drew)); exact (Q_HO_385002_e11 h0_)) hb) | exact Kd.R_mono (Kd.R_below (by (with_reducible repeat (first | apply Kd.R_alloc | apply Kd.R_drewN | apply Kd.R_drew)); exact (Q_HO_385002_e11 h0_)) hb) (fun _ hk => GS.cj hk))
             have z_HO397_p5_11 := fun (h0_ : b 5 = true) (h1_ : b 11 = true) => (show Kd.R k33 33 w28 w.heap.size (fun k_ => some k_ ≠ (.slice Ao26 x385002_2.length co26 : Value).ownBlock ∧ k_ ≠ gb410) v396 t395 from by first | exact (Kd.R_below (by (with_reducible repeat (first | apply Kd.R_alloc | apply Kd.R_drewN | apply Kd.R_drew)); exact (Q_HO397_p5_11 h0_ h1_)) hb) | exact Kd.R_mono (Kd.R_below (by (with_reducible repeat (first | apply Kd.R_alloc | apply Kd.R_drewN | apply Kd.R_drew)); exact (Q_HO397_p5_11 h0_ h1_)) hb) (fun _ hk => GS.cj hk))
             clear HO_385002
             clear BK384
             clear HB
             have HO_385002 := n0_
             have BK384 := n1_
             have HB := n2_
             have BK409 := n3_
             have GW409 := n4_
             have GE409 := n5_
             have NB384_409 := n6_
             have NB409_384 := n7_
             clear n0_ n1_ n2_ n3_ n4_ n5_ n6_ n7_
             clear hb hbox hg
             refine hK.out _ _ ⟨v396, gb409, gb410, m5_, m6_, m7_, (.pointer (some ⟨gb409, 0, none⟩)), m11_, (by rw [ha.out]; exact putSel_upk 8 hb_ rfl rfl rfl), (by (with_reducible repeat (first | apply Kd.R_alloc | apply Kd.R_drewN | apply Kd.R_drew)); exact HO_385002.out), (GS.bqX BK384.out), (by repeat (first | (with_reducible first | exact HB.out | apply lqA | apply lqN | apply lqD | refine lqS ?_ GE384.out | refine lqS ?_ GE409.out) | exact HB.out)), z_NB410_409, z_NB409_410, fun _ _ => (GS.bqX BK409.out), fun _ => GW409.out, fun _ => GE409.out, fun _ => NB384_409.out, fun _ => NB409_384.out, z_BK410, Q_GW410, Q_GE410, Q_NB384_410, Q_NB410_384, fun h0_ => absurd ((hoff 12 (by kernel_rfl)).symm.trans h0_) (by decide), fun h0_ => absurd ((hoff 13 (by kernel_rfl)).symm.trans h0_) (by decide), z_HO397_e5, z_HO_385002_e11, z_HO397_p5_11, Q_X5_, Q_X6_, Q_X7_, fun _ => rfl, Q_X11_⟩
            refine steps_cons ?_ ?_
            ·rintro b a w' ⟨v396, gb409, gb410, m5_, m6_, m7_, m10_, m11_, ha, Q_HO_385002, Q_BK384, Q_HB, Q_NB410_409, Q_NB409_410, Q_BK409, Q_GW409, Q_GE409, Q_NB384_409, Q_NB409_384, Q_BK410, Q_GW410, Q_GE410, Q_NB384_410, Q_NB410_384, Q_BK409_e12, Q_BK410_e13, Q_HO397_e5, Q_HO_385002_e11, Q_HO397_p5_11, Q_X5_, Q_X6_, Q_X7_, Q_X10_, Q_X11_⟩ hb_ hon hoff
             refine ⟨_, rfl, fun K hK => ?_⟩
             replace ha := Aside0.mk ha
             have HO_385002 := Aside0.mk Q_HO_385002
             have BK384 := Aside0.mk Q_BK384
             have HB := Aside0.mk Q_HB
             refine box_step ?hg (N := 13) ?hd (cs := #[.int .i64 0, .int .i64 0, .int .i64 0, .int .i64 0, .int .i64 0, .int .i64 0, .int .i64 0, .int .i64 0, .int .i64 0, .int .i64 0]) (t := 33) ?hr ?_; (case hd => rfl); (case hg => rfl); (case hr => first | (go_simp; done) | (go_simp; rfl))
             intro gb410 hg w28 hbox hb
             have n0_ := Aside0.mk (Kd.R_below (Kd.R_elderB (by (with_reducible repeat (first | apply Kd.R_alloc | apply Kd.R_drewN | apply Kd.R_drew)); exact HO_385002.out) gb410 (Nat.le_of_eq hg.symm)) hb)
             have n1_ := Aside0.mk (bqB (GS.bqX BK384.out) hb)
             have n2_ := Aside0.mk (lqT (by repeat (first | (with_reducible first | exact HB.out | apply lqA | apply lqN | apply lqD | refine lqS ?_ GE384.out) | exact HB.out)) hb)
             have n3_ := Aside0.mk (hbox)
             have n4_ := Aside0.mk ((by rw [hg]; exact (lqZ (by repeat (first | (with_reducible first | exact HB.out | apply lqA | apply lqN | apply lqD | refine lqS ?_ GE384.out) | exact HB.out))) : w.heap.size ≤ gb410))
             have n5_ := Aside0.mk ((by rw [hg]; exact (lqZ (by repeat (first | (with_reducible first | exact HB.out | apply lqA | apply lqN | apply lqD | refine lqS ?_ GE384.out) | exact HB.out))) : w.heap.size ≤ gb410))
             have n6_ := Aside0.mk ((by rw [hg]; exact Nat.ne_of_lt (blk_lt (GS.bqX BK384.out)) : gb384 ≠ gb410))
             have n7_ := Aside0.mk ((by rw [hg]; exact Nat.ne_of_gt (blk_lt (GS.bqX BK384.out)) : gb410 ≠ gb384))
             have z_NB410_409 := fun (h0_ : up b 11 10 = true) (h1_ : up b 11 11 = true) => (show gb410 ≠ gb409 from ((by rw [hg]; exact Nat.ne_of_gt (blk_lt (GS.bqX (Q_BK409 h0_ (hoff 12 (by kernel_rfl))))) : gb410 ≠ gb409)))
             have z_NB409_410 := fun (h0_ : up b 11 10 = true) (h1_ : up b 11 11 = true) => (show gb409 ≠ gb410 from ((by rw [hg]; exact Nat.ne_of_lt (blk_lt (GS.bqX (Q_BK409 h0_ (hoff 12 (by kernel_rfl))))) : gb409 ≠ gb410)))
             have z_BK409 := fun (h0_ : b 10 = true) (h1_ : b 12 = false) => (show w28.heap[gb409]? = some (.cells #[.int .i64 0, .int .i64 0, .slice none 0 0] 24 (0, 0)) from by first | exact (bqB (GS.bqX (Q_BK409 h0_ h1_)) hb))
             have z_HO397_e5 := fun (h0_ : b 5 = true) => (show Kd.R k33 33 w28 w.heap.size (fun k_ => some k_ ≠ (.slice Ao26 x385002_2.length co26 : Value).ownBlock) v396 t395 from by first | exact (Kd.R_below (Kd.R_elderB (by (with_reducible repeat (first | apply Kd.R_alloc | apply Kd.R_drewN | apply Kd.R_drew)); exact (Q_HO397_e5 h0_)) gb410 (Nat.le_of_eq hg.symm)) hb) | exact Kd.R_mono (Kd.R_below (Kd.R_elderB (by (with_reducible repeat (first | apply Kd.R_alloc | apply Kd.R_drewN | apply Kd.R_drew)); exact (Q_HO397_e5 h0_)) gb410 (Nat.le_of_eq hg.symm)) hb) (fun _ hk => GS.cj hk))
             have z_HO397_p5_11 := fun (h0_ : up b 11 5 = true) (h1_ : up b 11 11 = true) => (show Kd.R k33 33 w28 w.heap.size (fun k_ => some k_ ≠ (.slice Ao26 x385002_2.length co26 : Value).ownBlock ∧ k_ ≠ gb410) v396 t395 from (Kd.R_mono (Kd.R_below (Kd.R_elderB (by (with_reducible repeat (first | apply Kd.R_alloc | apply Kd.R_drewN | apply Kd.R_drew)); exact (Q_HO397_e5 h0_)) gb410 (Nat.le_of_eq hg.symm)) hb) (fun _ hk => GS.cj hk)))
             clear HO_385002
             clear BK384
             clear HB
             have HO_385002 := n0_
             have BK384 := n1_
             have HB := n2_
             have BK410 := n3_
             have GW410 := n4_
             have GE410 := n5_
             have NB384_410 := n6_
             have NB410_384 := n7_
             clear n0_ n1_ n2_ n3_ n4_ n5_ n6_ n7_
             clear hb hbox hg
             refine hK.out _ _ ⟨v396, gb409, gb410, m5_, m6_, m7_, m10_, (.pointer (some ⟨gb410, 0, none⟩)), (by rw [ha.out]; exact putSel_upk 9 hb_ rfl rfl rfl), Kd.R_mono ((by (with_reducible repeat (first | apply Kd.R_alloc | apply Kd.R_drewN | apply Kd.R_drew)); exact Kd.R_mono HO_385002.out (fun _ hk => hk))) (fun _ hk => GS.cj hk), (GS.bqX BK384.out), (by repeat (first | (with_reducible first | exact HB.out | apply lqA | apply lqN | apply lqD | refine lqS ?_ GE384.out | refine lqS ?_ GE410.out) | exact HB.out)), z_NB410_409, z_NB409_410, z_BK409, Q_GW409, Q_GE409, Q_NB384_409, Q_NB409_384, fun _ _ => (GS.bqX BK410.out), fun _ => GW410.out, fun _ => GE410.out, fun _ => NB384_410.out, fun _ => NB410_384.out, fun h0_ => absurd ((hoff 12 (by kernel_rfl)).symm.trans h0_) (by decide), fun h0_ => absurd ((hoff 13 (by kernel_rfl)).symm.trans h0_) (by decide), z_HO397_e5, fun _ => (by (with_reducible repeat (first | apply Kd.R_alloc | apply Kd.R_drewN | apply Kd.R_drew)); exact Kd.R_mono HO_385002.out (fun _ hk => GS.cj hk)), z_HO397_p5_11, Q_X5_, Q_X6_, Q_X7_, Q_X10_, fun _ => rfl⟩
            refine steps_cons ?_ ?_
            ·rintro b a w' ⟨v396, gb409, gb410, m5_, m6_, m7_, m10_, m11_, ha, Q_HO_385002, Q_BK384, Q_HB, Q_NB410_409, Q_NB409_410, Q_BK409, Q_GW409, Q_GE409, Q_NB384_409, Q_NB409_384, Q_BK410, Q_GW410, Q_GE410, Q_NB384_410, Q_NB410_384, Q_BK409_e12, Q_BK410_e13, Q_HO397_e5, Q_HO_385002_e11, Q_HO397_p5_11, Q_X5_, Q_X6_, Q_X7_, Q_X10_, Q_X11_⟩ hb_ hon hoff
             refine ⟨_, rfl, fun K hK => ?_⟩
             have e12 : a.tmps[12]? = some (m10_) := by rw [ha]; exact putSel_on (e := (10, 12, m10_)) 8 rfl rfl (hon 10 (by kernel_rfl)) rfl
             rw [Q_X10_ (hon 10 (by kernel_rfl))] at e12
             have e62 : a.tmps[62]? = some (m7_) := by rw [ha]; exact putSel_on (e := (7, 62, m7_)) 5 rfl rfl (hon 7 (by kernel_rfl)) rfl
             rw [Q_X7_ (hon 7 (by kernel_rfl))] at e62
             replace ha := Aside0.mk ha
             have HO_385002 := Aside0.mk Q_HO_385002
             have BK384 := Aside0.mk Q_BK384
             have HB := Aside0.mk Q_HB
             have NB410_409 := Aside0.mk (Q_NB410_409 (hon 10 (by kernel_rfl)) (hon 11 (by kernel_rfl)))
             have NB409_410 := Aside0.mk (Q_NB409_410 (hon 10 (by kernel_rfl)) (hon 11 (by kernel_rfl)))
             have BK409 := Aside0.mk (Q_BK409 (hon 10 (by kernel_rfl)) hb_)
             have GW409 := Aside0.mk (Q_GW409 (hon 10 (by kernel_rfl)))
             have GE409 := Aside0.mk (Q_GE409 (hon 10 (by kernel_rfl)))
             have NB384_409 := Aside0.mk (Q_NB384_409 (hon 10 (by kernel_rfl)))
             have NB409_384 := Aside0.mk (Q_NB409_384 (hon 10 (by kernel_rfl)))
             have BK410 := Aside0.mk (Q_BK410 (hon 11 (by kernel_rfl)) (hoff 13 (by kernel_rfl)))
             have GW410 := Aside0.mk (Q_GW410 (hon 11 (by kernel_rfl)))
             have GE410 := Aside0.mk (Q_GE410 (hon 11 (by kernel_rfl)))
             have NB384_410 := Aside0.mk (Q_NB384_410 (hon 11 (by kernel_rfl)))
             have NB410_384 := Aside0.mk (Q_NB410_384 (hon 11 (by kernel_rfl)))
             have HO397 := Aside0.mk (Q_HO397_e5 (hon 5 (by kernel_rfl)))
             have HO_385002 := Aside0.mk (Q_HO_385002_e11 (hon 11 (by kernel_rfl)))
             have HO397 := Aside0.mk (Q_HO397_p5_11 (hon 5 (by kernel_rfl)) (hon 11 (by kernel_rfl)))
             obtain ⟨Ao35, co35, eo35⟩ := Kd.R_slice HO397.out
             (first | subst eo35 | (injection eo35 with f1_ f2_ f3_; have f4_ := f1_.symm; have f5_ := f3_.symm; clear f1_ f2_ f3_; subst f4_; subst f5_))
             have hs33 : w'.cell? ⟨gb409, 0, none⟩ = some (.int .i64 0) := (bqC BK409.out 0).trans rfl
             have hfs33 := bqF BK409.out 0
             have hns33_0 := NB384_409.out
             have hns33_2 := NB410_409.out
             have hms33_0 := NB409_384.out
             have hms33_2 := NB409_410.out
             have hs34 : w'.cell? ⟨gb409, 1, none⟩ = some (.int .i64 0) := (bqC BK409.out 1).trans rfl
             have hfs34 := bqF BK409.out 1
             have hns34_0 := NB384_409.out
             have hns34_2 := NB410_409.out
             have hms34_0 := NB409_384.out
             have hms34_2 := NB409_410.out
             have hs36 : w'.cell? ⟨gb409, 2, none⟩ = some (.slice none 0 0) := (bqC BK409.out 2).trans rfl
             have hfs36 := bqF BK409.out 2
             have hns36_0 := NB384_409.out
             have hns36_2 := NB410_409.out
             have hms36_0 := NB409_384.out
             have hms36_2 := NB409_410.out
             refine skip_ (w1 := ?_) (by rfl) rfl ?_ ?_
             rotate_left
             ·go_simp
              rfl
             refine hK.out _ _ ⟨.slice Ao35 t395.length co35, gb409, gb410, m5_, m6_, m7_, m10_, m11_, (by rw [ha.out]; exact putSel_none (v := undef) rfl), Kd.R_mono ((by (with_reducible repeat (first | apply Kd.R_alloc | apply Kd.R_drewN | apply Kd.R_drew)); exact Kd.R_mono (Kd.R_far (p := ⟨gb409, 2, none⟩) (Kd.R_far (p := ⟨gb409, 1, none⟩) (Kd.R_far (p := ⟨gb409, 0, none⟩) (Kd.R_types HO_385002.out BK409.out (by decide)) (fun _ hk => hk.2) (.int .i64 t393)) (fun _ hk => hk.2) (.int .i64 t394)) (fun _ hk => hk.2) (.slice Ao35 t395.length co35)) (fun _ hk => hk))) (fun _ hk => GS.cj hk), (GS.bqX BK384.out), (by repeat (first | (with_reducible first | exact HB.out | apply lqA | apply lqN | apply lqD | refine lqS ?_ GE384.out | refine lqS ?_ GE409.out | refine lqS ?_ GE410.out) | exact HB.out)), fun _ _ => NB410_409.out, fun _ _ => NB409_410.out, fun _ h1_ => absurd ((up_self b 12).symm.trans h1_) (by decide), fun _ => GW409.out, fun _ => GE409.out, fun _ => NB384_409.out, fun _ => NB409_384.out, fun _ _ => (GS.bqX BK410.out), fun _ => GW410.out, fun _ => GE410.out, fun _ => NB384_410.out, fun _ => NB410_384.out, fun _ => (GS.bqZ BK409.out), fun h0_ => absurd ((hoff 13 (by kernel_rfl)).symm.trans h0_) (by decide), fun _ => Kd.R_mono ((by (with_reducible repeat (first | apply Kd.R_alloc | apply Kd.R_drewN | apply Kd.R_drew)); exact Kd.R_mono (Kd.R_far (p := ⟨gb409, 2, none⟩) (Kd.R_far (p := ⟨gb409, 1, none⟩) (Kd.R_far (p := ⟨gb409, 0, none⟩) (Kd.R_types HO397.out BK409.out (by decide)) (fun _ hk => hk.2) (.int .i64 t393)) (fun _ hk => hk.2) (.int .i64 t394)) (fun _ hk => hk.2) (.slice Ao35 t395.length co35)) (fun _ hk => hk))) (fun _ hk => GS.cj hk), fun _ => (by (with_reducible repeat (first | apply Kd.R_alloc | apply Kd.R_drewN | apply Kd.R_drew)); exact Kd.R_mono (Kd.R_far (p := ⟨gb409, 2, none⟩) (Kd.R_far (p := ⟨gb409, 1, none⟩) (Kd.R_far (p := ⟨gb409, 0, none⟩) (Kd.R_types HO_385002.out BK409.out (by decide)) (fun _ hk => hk.2) (.int .i64 t393)) (fun _ hk => hk.2) (.int .i64 t394)) (fun _ hk => hk.2) (.slice Ao35 t395.length co35)) (fun _ hk => GS.cj hk)), fun _ _ => (by (with_reducible repeat (first | apply Kd.R_alloc | apply Kd.R_drewN | apply Kd.R_drew)); exact Kd.R_mono (Kd.R_far (p := ⟨gb409, 2, none⟩) (Kd.R_far (p := ⟨gb409, 1, none⟩) (Kd.R_far (p := ⟨gb409, 0, none⟩) (Kd.R_types HO397.out BK409.out (by decide)) (fun _ hk => hk.2) (.int .i64 t393)) (fun _ hk => hk.2) (.int .i64 t394)) (fun _ hk => hk.2) (.slice Ao35 t395.length co35)) (fun _ hk => GS.cj hk)), Q_X5_, Q_X6_, Q_X7_, Q_X10_, Q_X11_⟩
            refine steps_cons ?_ ?_
            ·rintro b a w' ⟨v396, gb409, gb410, m5_, m6_, m7_, m10_, m11_, ha, Q_HO_385002, Q_BK384, Q_HB, Q_NB410_409, Q_NB409_410, Q_BK409, Q_GW409, Q_GE409, Q_NB384_409, Q_NB409_384, Q_BK410, Q_GW410, Q_GE410, Q_NB384_410, Q_NB410_384, Q_BK409_e12, Q_BK410_e13, Q_HO397_e5, Q_HO_385002_e11, Q_HO397_p5_11, Q_X5_, Q_X6_, Q_X7_, Q_X10_, Q_X11_⟩ hb_ hon hoff
             refine ⟨_, rfl, fun K hK => ?_⟩
             have e13 : a.tmps[13]? = some (m11_) := by rw [ha]; exact putSel_on (e := (11, 13, m11_)) 9 rfl rfl (hon 11 (by kernel_rfl)) rfl
             rw [Q_X11_ (hon 11 (by kernel_rfl))] at e13
             have e63 : a.tmps[63]? = some (.agg #[.int .i64 t398, .int .i64 t399, .int .i64 t400, .int .i64 t401, .int .i64 t402, .int .i64 t403, .int .i64 t404, .int .i64 t405, .int .i64 t406, .int .i64 t407]) := by rw [ha]; exact putSel_on (e := (8, 63, .agg #[.int .i64 t398, .int .i64 t399, .int .i64 t400, .int .i64 t401, .int .i64 t402, .int .i64 t403, .int .i64 t404, .int .i64 t405, .int .i64 t406, .int .i64 t407])) 6 rfl rfl (hon 8 (by kernel_rfl)) rfl
             replace ha := Aside0.mk ha
             have HO_385002 := Aside0.mk Q_HO_385002
             have BK384 := Aside0.mk Q_BK384
             have HB := Aside0.mk Q_HB
             have NB410_409 := Aside0.mk (Q_NB410_409 (hon 10 (by kernel_rfl)) (hon 11 (by kernel_rfl)))
             have NB409_410 := Aside0.mk (Q_NB409_410 (hon 10 (by kernel_rfl)) (hon 11 (by kernel_rfl)))
             have GW409 := Aside0.mk (Q_GW409 (hon 10 (by kernel_rfl)))
             have GE409 := Aside0.mk (Q_GE409 (hon 10 (by kernel_rfl)))
             have NB384_409 := Aside0.mk (Q_NB384_409 (hon 10 (by kernel_rfl)))
             have NB409_384 := Aside0.mk (Q_NB409_384 (hon 10 (by kernel_rfl)))
             have BK410 := Aside0.mk (Q_BK410 (hon 11 (by kernel_rfl)) hb_)
             have GW410 := Aside0.mk (Q_GW410 (hon 11 (by kernel_rfl)))
             have GE410 := Aside0.mk (Q_GE410 (hon 11 (by kernel_rfl)))
             have NB384_410 := Aside0.mk (Q_NB384_410 (hon 11 (by kernel_rfl)))
             have NB410_384 := Aside0.mk (Q_NB410_384 (hon 11 (by kernel_rfl)))
             have BK409 := Aside0.mk (Q_BK409_e12 (hon 12 (by kernel_rfl)))
             have HO397 := Aside0.mk (Q_HO397_e5 (hon 5 (by kernel_rfl)))
             have HO_385002 := Aside0.mk (Q_HO_385002_e11 (hon 11 (by kernel_rfl)))
             have HO397 := Aside0.mk (Q_HO397_p5_11 (hon 5 (by kernel_rfl)) (hon 11 (by kernel_rfl)))
             have hs37 : w'.cell? ⟨gb410, 0, none⟩ = some (.int .i64 0) := (bqC BK410.out 0).trans rfl
             have hfs37 := bqF BK410.out 0
             have hns37_0 := NB384_410.out
             have hns37_1 := NB409_410.out
             have hms37_0 := NB410_384.out
             have hms37_1 := NB410_409.out
             have hs38 : w'.cell? ⟨gb410, 1, none⟩ = some (.int .i64 0) := (bqC BK410.out 1).trans rfl
             have hfs38 := bqF BK410.out 1
             have hns38_0 := NB384_410.out
             have hns38_1 := NB409_410.out
             have hms38_0 := NB410_384.out
             have hms38_1 := NB410_409.out
             have hs39 : w'.cell? ⟨gb410, 2, none⟩ = some (.int .i64 0) := (bqC BK410.out 2).trans rfl
             have hfs39 := bqF BK410.out 2
             have hns39_0 := NB384_410.out
             have hns39_1 := NB409_410.out
             have hms39_0 := NB410_384.out
             have hms39_1 := NB410_409.out
             have hs40 : w'.cell? ⟨gb410, 3, none⟩ = some (.int .i64 0) := (bqC BK410.out 3).trans rfl
             have hfs40 := bqF BK410.out 3
             have hns40_0 := NB384_410.out
             have hns40_1 := NB409_410.out
             have hms40_0 := NB410_384.out
             have hms40_1 := NB410_409.out
             have hs41 : w'.cell? ⟨gb410, 4, none⟩ = some (.int .i64 0) := (bqC BK410.out 4).trans rfl
             have hfs41 := bqF BK410.out 4
             have hns41_0 := NB384_410.out
             have hns41_1 := NB409_410.out
             have hms41_0 := NB410_384.out
             have hms41_1 := NB410_409.out
             have hs42 : w'.cell? ⟨gb410, 5, none⟩ = some (.int .i64 0) := (bqC BK410.out 5).trans rfl
             have hfs42 := bqF BK410.out 5
             have hns42_0 := NB384_410.out
             have hns42_1 := NB409_410.out
             have hms42_0 := NB410_384.out
             have hms42_1 := NB410_409.out
             have hs43 : w'.cell? ⟨gb410, 6, none⟩ = some (.int .i64 0) := (bqC BK410.out 6).trans rfl
             have hfs43 := bqF BK410.out 6
             have hns43_0 := NB384_410.out
             have hns43_1 := NB409_410.out
             have hms43_0 := NB410_384.out
             have hms43_1 := NB410_409.out
             have hs44 : w'.cell? ⟨gb410, 7, none⟩ = some (.int .i64 0) := (bqC BK410.out 7).trans rfl
             have hfs44 := bqF BK410.out 7
             have hns44_0 := NB384_410.out
             have hns44_1 := NB409_410.out
             have hms44_0 := NB410_384.out
             have hms44_1 := NB410_409.out
             have hs45 : w'.cell? ⟨gb410, 8, none⟩ = some (.int .i64 0) := (bqC BK410.out 8).trans rfl
             have hfs45 := bqF BK410.out 8
             have hns45_0 := NB384_410.out
             have hns45_1 := NB409_410.out
             have hms45_0 := NB410_384.out
             have hms45_1 := NB410_409.out
             have hs46 : w'.cell? ⟨gb410, 9, none⟩ = some (.int .i64 0) := (bqC BK410.out 9).trans rfl
             have hfs46 := bqF BK410.out 9
             have hns46_0 := NB384_410.out
             have hns46_1 := NB409_410.out
             have hms46_0 := NB410_384.out
             have hms46_1 := NB410_409.out
             refine skip_ (w1 := ?_) (by rfl) rfl ?_ ?_
             rotate_left
             ·go_simp
              rfl
             refine hK.out _ _ ⟨v396, gb409, gb410, m5_, m6_, m7_, m10_, m11_, (by rw [ha.out]; exact putSel_none (v := undef) rfl), Kd.R_mono ((by (with_reducible repeat (first | apply Kd.R_alloc | apply Kd.R_drewN | apply Kd.R_drew)); exact Kd.R_mono (Kd.R_far (p := ⟨gb410, 9, none⟩) (Kd.R_far (p := ⟨gb410, 8, none⟩) (Kd.R_far (p := ⟨gb410, 7, none⟩) (Kd.R_far (p := ⟨gb410, 6, none⟩) (Kd.R_far (p := ⟨gb410, 5, none⟩) (Kd.R_far (p := ⟨gb410, 4, none⟩) (Kd.R_far (p := ⟨gb410, 3, none⟩) (Kd.R_far (p := ⟨gb410, 2, none⟩) (Kd.R_far (p := ⟨gb410, 1, none⟩) (Kd.R_far (p := ⟨gb410, 0, none⟩) (Kd.R_mono HO_385002.out (fun k_ hk => (⟨hk, GS.cj hk⟩ : _ ∧ k_ ≠ gb410))) (fun _ hk => hk.2) (.int .i64 t398)) (fun _ hk => hk.2) (.int .i64 t399)) (fun _ hk => hk.2) (.int .i64 t400)) (fun _ hk => hk.2) (.int .i64 t401)) (fun _ hk => hk.2) (.int .i64 t402)) (fun _ hk => hk.2) (.int .i64 t403)) (fun _ hk => hk.2) (.int .i64 t404)) (fun _ hk => hk.2) (.int .i64 t405)) (fun _ hk => hk.2) (.int .i64 t406)) (fun _ hk => hk.2) (.int .i64 t407)) (fun _ hk => hk))) (fun _ hk => GS.cj hk), (GS.bqX BK384.out), (by repeat (first | (with_reducible first | exact HB.out | apply lqA | apply lqN | apply lqD | refine lqS ?_ GE384.out | refine lqS ?_ GE409.out | refine lqS ?_ GE410.out) | exact HB.out)), fun _ _ => NB410_409.out, fun _ _ => NB409_410.out, fun _ h1_ => absurd ((hon 12 (by kernel_rfl)).symm.trans h1_) (by decide), fun _ => GW409.out, fun _ => GE409.out, fun _ => NB384_409.out, fun _ => NB409_384.out, fun _ h1_ => absurd ((up_self b 13).symm.trans h1_) (by decide), fun _ => GW410.out, fun _ => GE410.out, fun _ => NB384_410.out, fun _ => NB410_384.out, fun _ => (GS.bqX BK409.out), fun _ => (GS.bqZ BK410.out), fun _ => Kd.R_mono ((by (with_reducible repeat (first | apply Kd.R_alloc | apply Kd.R_drewN | apply Kd.R_drew)); exact Kd.R_mono (Kd.R_far (p := ⟨gb410, 9, none⟩) (Kd.R_far (p := ⟨gb410, 8, none⟩) (Kd.R_far (p := ⟨gb410, 7, none⟩) (Kd.R_far (p := ⟨gb410, 6, none⟩) (Kd.R_far (p := ⟨gb410, 5, none⟩) (Kd.R_far (p := ⟨gb410, 4, none⟩) (Kd.R_far (p := ⟨gb410, 3, none⟩) (Kd.R_far (p := ⟨gb410, 2, none⟩) (Kd.R_far (p := ⟨gb410, 1, none⟩) (Kd.R_far (p := ⟨gb410, 0, none⟩) (Kd.R_mono HO397.out (fun k_ hk => (⟨hk, GS.cj hk⟩ : _ ∧ k_ ≠ gb410))) (fun _ hk => hk.2) (.int .i64 t398)) (fun _ hk => hk.2) (.int .i64 t399)) (fun _ hk => hk.2) (.int .i64 t400)) (fun _ hk => hk.2) (.int .i64 t401)) (fun _ hk => hk.2) (.int .i64 t402)) (fun _ hk => hk.2) (.int .i64 t403)) (fun _ hk => hk.2) (.int .i64 t404)) (fun _ hk => hk.2) (.int .i64 t405)) (fun _ hk => hk.2) (.int .i64 t406)) (fun _ hk => hk.2) (.int .i64 t407)) (fun _ hk => hk))) (fun _ hk => GS.cj hk), fun _ => (by (with_reducible repeat (first | apply Kd.R_alloc | apply Kd.R_drewN | apply Kd.R_drew)); exact Kd.R_mono (Kd.R_far (p := ⟨gb410, 9, none⟩) (Kd.R_far (p := ⟨gb410, 8, none⟩) (Kd.R_far (p := ⟨gb410, 7, none⟩) (Kd.R_far (p := ⟨gb410, 6, none⟩) (Kd.R_far (p := ⟨gb410, 5, none⟩) (Kd.R_far (p := ⟨gb410, 4, none⟩) (Kd.R_far (p := ⟨gb410, 3, none⟩) (Kd.R_far (p := ⟨gb410, 2, none⟩) (Kd.R_far (p := ⟨gb410, 1, none⟩) (Kd.R_far (p := ⟨gb410, 0, none⟩) (Kd.R_mono HO_385002.out (fun k_ hk => (⟨hk, GS.cj hk⟩ : _ ∧ k_ ≠ gb410))) (fun _ hk => hk.2) (.int .i64 t398)) (fun _ hk => hk.2) (.int .i64 t399)) (fun _ hk => hk.2) (.int .i64 t400)) (fun _ hk => hk.2) (.int .i64 t401)) (fun _ hk => hk.2) (.int .i64 t402)) (fun _ hk => hk.2) (.int .i64 t403)) (fun _ hk => hk.2) (.int .i64 t404)) (fun _ hk => hk.2) (.int .i64 t405)) (fun _ hk => hk.2) (.int .i64 t406)) (fun _ hk => hk.2) (.int .i64 t407)) (fun _ hk => GS.cj hk)), fun _ _ => (by (with_reducible repeat (first | apply Kd.R_alloc | apply Kd.R_drewN | apply Kd.R_drew)); exact Kd.R_mono (Kd.R_far (p := ⟨gb410, 9, none⟩) (Kd.R_far (p := ⟨gb410, 8, none⟩) (Kd.R_far (p := ⟨gb410, 7, none⟩) (Kd.R_far (p := ⟨gb410, 6, none⟩) (Kd.R_far (p := ⟨gb410, 5, none⟩) (Kd.R_far (p := ⟨gb410, 4, none⟩) (Kd.R_far (p := ⟨gb410, 3, none⟩) (Kd.R_far (p := ⟨gb410, 2, none⟩) (Kd.R_far (p := ⟨gb410, 1, none⟩) (Kd.R_far (p := ⟨gb410, 0, none⟩) (Kd.R_mono HO397.out (fun k_ hk => (⟨hk, GS.cj hk⟩ : _ ∧ k_ ≠ gb410))) (fun _ hk => hk.2) (.int .i64 t398)) (fun _ hk => hk.2) (.int .i64 t399)) (fun _ hk => hk.2) (.int .i64 t400)) (fun _ hk => hk.2) (.int .i64 t401)) (fun _ hk => hk.2) (.int .i64 t402)) (fun _ hk => hk.2) (.int .i64 t403)) (fun _ hk => hk.2) (.int .i64 t404)) (fun _ hk => hk.2) (.int .i64 t405)) (fun _ hk => hk.2) (.int .i64 t406)) (fun _ hk => hk.2) (.int .i64 t407)) (fun _ hk => GS.cj hk)), Q_X5_, Q_X6_, Q_X7_, Q_X10_, Q_X11_⟩
            refine steps_cons ?_ ?_
            ·rintro b a w' ⟨v396, gb409, gb410, m5_, m6_, m7_, m10_, m11_, ha, Q_HO_385002, Q_BK384, Q_HB, Q_NB410_409, Q_NB409_410, Q_BK409, Q_GW409, Q_GE409, Q_NB384_409, Q_NB409_384, Q_BK410, Q_GW410, Q_GE410, Q_NB384_410, Q_NB410_384, Q_BK409_e12, Q_BK410_e13, Q_HO397_e5, Q_HO_385002_e11, Q_HO397_p5_11, Q_X5_, Q_X6_, Q_X7_, Q_X10_, Q_X11_⟩ hb_ hon hoff
             refine ⟨_, rfl, fun K hK => ?_⟩
             have e64 : a.tmps[64]? = some (.int .i64 t408) := by rw [ha]; exact putSel_on (e := (9, 64, .int .i64 t408)) 7 rfl rfl (hon 9 (by kernel_rfl)) rfl
             replace ha := Aside0.mk ha
             have HO_385002 := Aside0.mk Q_HO_385002
             have BK384 := Aside0.mk Q_BK384
             have HB := Aside0.mk Q_HB
             have NB410_409 := Aside0.mk (Q_NB410_409 (hon 10 (by kernel_rfl)) (hon 11 (by kernel_rfl)))
             have NB409_410 := Aside0.mk (Q_NB409_410 (hon 10 (by kernel_rfl)) (hon 11 (by kernel_rfl)))
             have GW409 := Aside0.mk (Q_GW409 (hon 10 (by kernel_rfl)))
             have GE409 := Aside0.mk (Q_GE409 (hon 10 (by kernel_rfl)))
             have NB384_409 := Aside0.mk (Q_NB384_409 (hon 10 (by kernel_rfl)))
             have NB409_384 := Aside0.mk (Q_NB409_384 (hon 10 (by kernel_rfl)))
             have GW410 := Aside0.mk (Q_GW410 (hon 11 (by kernel_rfl)))
             have GE410 := Aside0.mk (Q_GE410 (hon 11 (by kernel_rfl)))
             have NB384_410 := Aside0.mk (Q_NB384_410 (hon 11 (by kernel_rfl)))
             have NB410_384 := Aside0.mk (Q_NB410_384 (hon 11 (by kernel_rfl)))
             have BK409 := Aside0.mk (Q_BK409_e12 (hon 12 (by kernel_rfl)))
             have BK410 := Aside0.mk (Q_BK410_e13 (hon 13 (by kernel_rfl)))
             have HO397 := Aside0.mk (Q_HO397_e5 (hon 5 (by kernel_rfl)))
             have HO_385002 := Aside0.mk (Q_HO_385002_e11 (hon 11 (by kernel_rfl)))
             have HO397 := Aside0.mk (Q_HO397_p5_11 (hon 5 (by kernel_rfl)) (hon 11 (by kernel_rfl)))
             refine value_ (w1 := w') (v := .int .i64 t408) (by rfl) rfl ?_ ?_
             ·go_simp
              (try simp only [i64_w])
              try rfl
             refine hK.out _ _ ⟨v396, gb409, gb410, m5_, m6_, m7_, m10_, m11_, (by rw [ha.out]; exact putSel_upk 10 hb_ rfl rfl rfl), Q_HO_385002, Q_BK384, Q_HB, Q_NB410_409, Q_NB409_410, fun _ h1_ => absurd ((hon 12 (by kernel_rfl)).symm.trans h1_) (by decide), Q_GW409, Q_GE409, Q_NB384_409, Q_NB409_384, fun _ h1_ => absurd ((hon 13 (by kernel_rfl)).symm.trans h1_) (by decide), Q_GW410, Q_GE410, Q_NB384_410, Q_NB410_384, Q_BK409_e12, Q_BK410_e13, Q_HO397_e5, Q_HO_385002_e11, Q_HO397_p5_11, Q_X5_, Q_X6_, Q_X7_, Q_X10_, Q_X11_⟩
            exact steps_nil
           rintro b a w46 hall ⟨v396, gb409, gb410, m5_, m6_, m7_, m10_, m11_, ha, Q_HO_385002, Q_BK384, Q_HB, Q_NB410_409, Q_NB409_410, Q_BK409, Q_GW409, Q_GE409, Q_NB384_409, Q_NB409_384, Q_BK410, Q_GW410, Q_GE410, Q_NB384_410, Q_NB410_384, Q_BK409_e12, Q_BK410_e13, Q_HO397_e5, Q_HO_385002_e11, Q_HO397_p5_11, Q_X5_, Q_X6_, Q_X7_, Q_X10_, Q_X11_⟩
           clear BK384 HB HO_385002
           have hb0_ := hall 0 (by kernel_rfl)
           have hb3_ := hall 3 (by kernel_rfl)
           have hb4_ := hall 4 (by kernel_rfl)
           have hb5_ := hall 5 (by kernel_rfl)
           have hb6_ := hall 6 (by kernel_rfl)
           have hb7_ := hall 7 (by kernel_rfl)
           have hb8_ := hall 8 (by kernel_rfl)
           have hb9_ := hall 9 (by kernel_rfl)
           have hb10_ := hall 10 (by kernel_rfl)
           have hb11_ := hall 11 (by kernel_rfl)
           have hb12_ := hall 12 (by kernel_rfl)
           have hb13_ := hall 13 (by kernel_rfl)
           have hb14_ := hall 14 (by kernel_rfl)
           subst ha
           obtain rfl := Q_X5_ hb5_
           obtain rfl := Q_X6_ hb6_
           obtain rfl := Q_X7_ hb7_
           obtain rfl := Q_X10_ hb10_
           obtain rfl := Q_X11_ hb11_
           simp only [putSel, hb0_, hb3_, hb4_, hb5_, hb6_, hb7_, hb8_, hb9_, hb10_, hb11_, hb12_, hb13_, hb14_, if_true, Act.put, List.setIfInBounds_toArray, List.set_cons_zero, List.set_cons_succ]
           have HO_385002 := Aside0.mk Q_HO_385002
           clear Q_HO_385002
           have BK384 := Aside0.mk Q_BK384
           clear Q_BK384
           have HB := Aside0.mk Q_HB
           clear Q_HB
           have NB410_409 := Aside0.mk (Q_NB410_409 hb10_ hb11_)
           clear Q_NB410_409
           have NB409_410 := Aside0.mk (Q_NB409_410 hb10_ hb11_)
           clear Q_NB409_410
           clear Q_BK409
           have GW409 := Aside0.mk (Q_GW409 hb10_)
           clear Q_GW409
           have GE409 := Aside0.mk (Q_GE409 hb10_)
           clear Q_GE409
           have NB384_409 := Aside0.mk (Q_NB384_409 hb10_)
           clear Q_NB384_409
           have NB409_384 := Aside0.mk (Q_NB409_384 hb10_)
           clear Q_NB409_384
           clear Q_BK410
           have GW410 := Aside0.mk (Q_GW410 hb11_)
           clear Q_GW410
           have GE410 := Aside0.mk (Q_GE410 hb11_)
           clear Q_GE410
           have NB384_410 := Aside0.mk (Q_NB384_410 hb11_)
           clear Q_NB384_410
           have NB410_384 := Aside0.mk (Q_NB410_384 hb11_)
           clear Q_NB410_384
           have BK409 := Aside0.mk (Q_BK409_e12 hb12_)
           clear Q_BK409_e12
           have BK410 := Aside0.mk (Q_BK410_e13 hb13_)
           clear Q_BK410_e13
           have HO397 := Aside0.mk (Q_HO397_e5 hb5_)
           clear Q_HO397_e5
           have HO_385002 := Aside0.mk (Q_HO_385002_e11 hb11_)
           clear Q_HO_385002_e11
           have HO397 := Aside0.mk (Q_HO397_p5_11 hb5_ hb11_)
           have n_ := Aside0.mk (GW.R_sym (v' := v396) rfl HO_385002.out (fun k hk => (HO397.out.1 k hk).1)); clear HO_385002; have HO_385002 := n_; clear n_
           clear Q_HO397_p5_11
           clear hall hb0_ hb3_ hb4_ hb5_ hb6_ hb7_ hb8_ hb9_ hb10_ hb11_ hb12_ hb13_ hb14_
           go_upto_region 13 with (fail)
           go_cut [73] (fun v73 wc => ∃ (kq : Nat) (x73_24 : Bool), v73 = .bool x73_24 ∧ Aside0 (spilelaw42_SenderCounts.j2 kq a0 a1 l2 x9_2 (rdOf false l2 x50_2) t408 l2 (l2.length : Int) x50_2 x73_24 t393 t394 t395 t398 t399 t400 t401 t402 t403 t404 t405 t406 t407 = some r) ∧ Aside0 (kq ≤ k2) ∧ Aside0 (Kd.R k33 33 wc w.heap.size (fun k_ => some k_ ≠ (v396 : Value).ownBlock ∧ k_ ≠ gb410) (.slice Ao26 x385002_2.length co26) x385002_2) ∧ Aside0 (Kd.R k33 33 wc w.heap.size (fun k_ => some k_ ≠ ((.slice Ao26 x385002_2.length co26) : Value).ownBlock ∧ k_ ≠ gb410) v396 t395) ∧ Aside0 (wc.heap[gb384]? = some (.cells #[.int .i64 x385000_2, .int .i64 x385001_2, (.slice Ao26 x385002_2.length co26)] 24 (0, 0))) ∧ Aside0 (wc.heap[gb409]? = some (.cells #[.int .i64 t393, .int .i64 t394, v396] 24 (0, 0))) ∧ Aside0 (wc.heap[gb410]? = some (.cells #[.int .i64 t398, .int .i64 t399, .int .i64 t400, .int .i64 t401, .int .i64 t402, .int .i64 t403, .int .i64 t404, .int .i64 t405, .int .i64 t406, .int .i64 t407] 33 (0, 0))) ∧ Aside0 (Below w.heap.size w wc))
           case first =>
            have H := HC25.out
            clear HC25
            by_cases c47 : t408 = 0
            ·rw [if_pos c47] at H
             have c47b0 : (t408 == 0) = true := beq_iff_eq.mpr c47
             try simp only [beq_self_eq_true, Bool.not_true, Bool.false_or, Bool.true_and] at c47b0
             have c47b1 : (t408 != 0) = false := bne_eq_false_iff_eq.mpr c47
             clear c47
             (first | rw [c47b0] | (simp only [i64_w, i32_w]; rw [c47b0]) | skip)
             have H' := Aside0.mk H
             clear H
             have hnb48 := NB410_384.out
             have hnc48 := NB384_410.out
             have hnb49 := NB410_409.out
             have hnc49 := NB409_410.out
             have hcz50_0 : w46.cell? ⟨gb410, 0, none⟩ = some (.int .i64 t398) := (bqC BK410.out 0).trans rfl
             have hcz50_1 : w46.cell? ⟨gb410, 1, none⟩ = some (.int .i64 t399) := (bqC BK410.out 1).trans rfl
             have hcz50_2 : w46.cell? ⟨gb410, 2, none⟩ = some (.int .i64 t400) := (bqC BK410.out 2).trans rfl
             have hcz50_3 : w46.cell? ⟨gb410, 3, none⟩ = some (.int .i64 t401) := (bqC BK410.out 3).trans rfl
             have hcz50_4 : w46.cell? ⟨gb410, 4, none⟩ = some (.int .i64 t402) := (bqC BK410.out 4).trans rfl
             have hcz50_5 : w46.cell? ⟨gb410, 5, none⟩ = some (.int .i64 t403) := (bqC BK410.out 5).trans rfl
             have hcz50_6 : w46.cell? ⟨gb410, 6, none⟩ = some (.int .i64 t404) := (bqC BK410.out 6).trans rfl
             have hcz50_7 : w46.cell? ⟨gb410, 7, none⟩ = some (.int .i64 t405) := (bqC BK410.out 7).trans rfl
             have hcz50_8 : w46.cell? ⟨gb410, 8, none⟩ = some (.int .i64 t406) := (bqC BK410.out 8).trans rfl
             have hcz50_9 : w46.cell? ⟨gb410, 9, none⟩ = some (.int .i64 t407) := (bqC BK410.out 9).trans rfl
             have hfz50_0 := bqF BK410.out 0
             have hfz50_1 := bqF BK410.out 1
             have hfz50_2 := bqF BK410.out 2
             have hfz50_3 := bqF BK410.out 3
             have hfz50_4 := bqF BK410.out 4
             have hfz50_5 := bqF BK410.out 5
             have hfz50_6 := bqF BK410.out 6
             have hfz50_7 := bqF BK410.out 7
             have hfz50_8 := bqF BK410.out 8
             have hfz50_9 := bqF BK410.out 9
             go_wp2
             go_meet
             case rel => exact ⟨_, ((t400 != (wrap64 (x50_2 + 1)))), (by first | rfl | (simp; done) | (simp [*]; done)), H', ⟨by have := HJ5.out; have := HK2.out; first | omega | exact Nat.le_refl _⟩, ⟨by (with_reducible repeat (first | apply Kd.R_alloc | apply Kd.R_drewN | apply Kd.R_drew)); exact HO_385002.out⟩, ⟨by (with_reducible repeat (first | apply Kd.R_alloc | apply Kd.R_drewN | apply Kd.R_drew)); exact HO397.out⟩, ⟨GS.bqX BK384.out⟩, ⟨GS.bqX BK409.out⟩, ⟨GS.bqX BK410.out⟩, ⟨by repeat (first | (with_reducible first | exact HB.out | apply lqA | apply lqN | apply lqD | refine lqS ?_ GE384.out | refine lqS ?_ GE409.out | refine lqS ?_ GE410.out) | exact HB.out)⟩⟩
            ·rw [if_neg c47] at H
             exact absurd H (by simp)
           case rest =>
            clear HC25
            try clear c1
            try clear c2
            try clear p2
            try clear p3
            try clear q3
            try clear hx3
            try clear c4
            try clear p5
            try clear p6
            try clear c8
            try clear c8b0
            try clear c8b1
            try clear c9
            try clear c9b0
            try clear c10
            try clear c10b0
            try clear c11
            try clear c11b0
            try clear c12
            try clear c12b0
            try clear c13
            try clear c14
            try clear c15
            try clear c15b0
            try clear c15b1
            try clear c20
            try clear c20b0
            try clear c21
            try clear c21b0
            try clear c22
            try clear c22b0
            try clear c25
            try clear p38
            try clear q38
            try clear hx38
            try clear c47
            try clear c47b0
            try clear c47b1
            try clear c48
            try clear c49
            try clear hcz18_0
            try clear hcz18_1
            try clear hcz18_2
            try clear hcz50_0
            try clear hcz50_1
            try clear hcz50_2
            try clear hcz50_3
            try clear hcz50_4
            try clear hcz50_5
            try clear hcz50_6
            try clear hcz50_7
            try clear hcz50_8
            try clear hcz50_9
            try clear hfz18_0
            try clear hfz18_1
            try clear hfz18_2
            try clear hfz50_0
            try clear hfz50_1
            try clear hfz50_2
            try clear hfz50_3
            try clear hfz50_4
            try clear hfz50_5
            try clear hfz50_6
            try clear hfz50_7
            try clear hfz50_8
            try clear hfz50_9
            try clear hx385_0
            try clear p2
            try clear p385
            try clear q385
            obtain ⟨kq, x73_24, rfl, HA, HJ24, HO_385002, HO_410002, BK384, BK409, BK410, HB⟩ := hcut
            cases kq with
            | zero => exact absurd HA.out (by simp [spilelaw42_SenderCounts.j2])
            | succ kj24 =>
             have H := HA.out
             clear HA
             simp only [spilelaw42_SenderCounts.j2] at H
             by_cases c51 : x73_24 = true
             ·subst c51
              have H1 : (none) = some r := by rw [if_pos rfl] at H; exact H
              clear H
              have H := H1
              clear H1
              exact absurd H (by simp)
             ·replace c51 := Bool.eq_false_iff.mpr c51
              subst c51
              have H1 : (if (rdOf false l2 x50_2) = true then ((sender_Heard.f kj24 t393 t394 t395 a0 t400).bind fun bt411 => (spilelaw42_SenderCounts.j3 kj24 a0 a1 l2 (wrap64 ((wrap64 (x9_2 + 1)) - 1)) bt411.2.2.2 l2 (l2.length : Int) x50_2 bt411.1 bt411.2.1 bt411.2.2.1)) else (spilelaw42_SenderCounts.j3 kj24 a0 a1 l2 (wrap64 (x9_2 + 1)) t408 l2 (l2.length : Int) x50_2 t393 t394 t395)) = some r := by rw [if_neg (show ¬ (false = true) by decide)] at H; exact H
              clear H
              have H := H1
              clear H1
              have HC52 := Aside0.mk H
              clear H
              generalize hbq_ : rdOf false l2 x50_2 = bq53 at HC52 ⊢
              go_upto_if 76 with (fail)
              go_cut [9, 14] (fun v9 v14 wc => ∃ (kq : Nat) (x9_51 : Int) (x14_51 : Int) (x410000_51 : Int) (x410001_51 : Int) (x410002_51 : List (S33)) (u410002 : Value), v9 = .int .i64 x9_51 ∧ v14 = .int .i64 x14_51 ∧ Aside0 (spilelaw42_SenderCounts.j3 kq a0 a1 l2 x9_51 x14_51 l2 (l2.length : Int) x50_2 x410000_51 x410001_51 x410002_51 = some r) ∧ Aside0 (kq ≤ kj24) ∧ Aside0 (Kd.R k33 33 wc w.heap.size (fun k_ => some k_ ≠ (u410002 : Value).ownBlock ∧ k_ ≠ gb410) (.slice Ao26 x385002_2.length co26) x385002_2) ∧ Aside0 (Kd.R k33 33 wc w.heap.size (fun k_ => some k_ ≠ ((.slice Ao26 x385002_2.length co26) : Value).ownBlock ∧ k_ ≠ gb410) u410002 x410002_51) ∧ Aside0 (wc.heap[gb384]? = some (.cells #[.int .i64 x385000_2, .int .i64 x385001_2, (.slice Ao26 x385002_2.length co26)] 24 (0, 0))) ∧ Aside0 (wc.heap[gb409]? = some (.cells #[.int .i64 x410000_51, .int .i64 x410001_51, u410002] 24 (0, 0))) ∧ Aside0 (wc.heap[gb410]? = some (.cells #[.int .i64 t398, .int .i64 t399, .int .i64 t400, .int .i64 t401, .int .i64 t402, .int .i64 t403, .int .i64 t404, .int .i64 t405, .int .i64 t406, .int .i64 t407] 33 (0, 0))) ∧ Aside0 (Below w.heap.size w wc))
              case first =>
               have H := HC52.out
               clear HC52
               by_cases c54 : (bq53) = true
               ·rw [if_pos c54] at H
                subst c54
                skip
                skip
                replace H := Option.bind_eq_some_iff.mp H
                obtain ⟨⟨t411, t412, t413, t416⟩, A550, H⟩ := H
                replace H : (spilelaw42_SenderCounts.j3 kj24 a0 a1 l2 (wrap64 ((wrap64 (x9_2 + 1)) - 1)) t416 l2 (l2.length : Int) x50_2 t411 t412 t413) = some r := H
                have A55 := Aside0.mk A550
                clear A550
                have H' := Aside0.mk H
                clear H
                have hnb56 := NB409_384.out
                have hnc56 := NB384_409.out
                have hnb57 := NB409_410.out
                have hnc57 := NB410_409.out
                have hcz58_0 : wc.cell? ⟨gb409, 0, none⟩ = some (.int .i64 t393) := (bqC BK409.out 0).trans rfl
                have hcz58_1 : wc.cell? ⟨gb409, 1, none⟩ = some (.int .i64 t394) := (bqC BK409.out 1).trans rfl
                have hcz58_2 : wc.cell? ⟨gb409, 2, none⟩ = some (v396) := (bqC BK409.out 2).trans rfl
                have hfz58_0 := bqF BK409.out 0
                have hfz58_1 := bqF BK409.out 1
                have hfz58_2 := bqF BK409.out 2
                have hnb59 := NB410_384.out
                have hnc59 := NB384_410.out
                have hcz60_0 : wc.cell? ⟨gb410, 0, none⟩ = some (.int .i64 t398) := (bqC BK410.out 0).trans rfl
                have hcz60_1 : wc.cell? ⟨gb410, 1, none⟩ = some (.int .i64 t399) := (bqC BK410.out 1).trans rfl
                have hcz60_2 : wc.cell? ⟨gb410, 2, none⟩ = some (.int .i64 t400) := (bqC BK410.out 2).trans rfl
                have hcz60_3 : wc.cell? ⟨gb410, 3, none⟩ = some (.int .i64 t401) := (bqC BK410.out 3).trans rfl
                have hcz60_4 : wc.cell? ⟨gb410, 4, none⟩ = some (.int .i64 t402) := (bqC BK410.out 4).trans rfl
                have hcz60_5 : wc.cell? ⟨gb410, 5, none⟩ = some (.int .i64 t403) := (bqC BK410.out 5).trans rfl
                have hcz60_6 : wc.cell? ⟨gb410, 6, none⟩ = some (.int .i64 t404) := (bqC BK410.out 6).trans rfl
                have hcz60_7 : wc.cell? ⟨gb410, 7, none⟩ = some (.int .i64 t405) := (bqC BK410.out 7).trans rfl
                have hcz60_8 : wc.cell? ⟨gb410, 8, none⟩ = some (.int .i64 t406) := (bqC BK410.out 8).trans rfl
                have hcz60_9 : wc.cell? ⟨gb410, 9, none⟩ = some (.int .i64 t407) := (bqC BK410.out 9).trans rfl
                have hfz60_0 := bqF BK410.out 0
                have hfz60_1 := bqF BK410.out 1
                have hfz60_2 := bqF BK410.out 2
                have hfz60_3 := bqF BK410.out 3
                have hfz60_4 := bqF BK410.out 4
                have hfz60_5 := bqF BK410.out 5
                have hfz60_6 := bqF BK410.out 6
                have hfz60_7 := bqF BK410.out 7
                have hfz60_8 := bqF BK410.out 8
                have hfz60_9 := bqF BK410.out 9
                obtain ⟨Ao61, co61, eo61⟩ := Kd.R_slice HO_410002.out
                subst eo61
                go_wp2_with (first | ((with_reducible refine gqC (f := 22) rfl ?_); refine goesL_ (some 83) rfl rfl Try.func22 (by kernel_rfl) rfl #[.agg #[.int .i64 t393, .int .i64 t394, .slice Ao61 t395.length co61], .agg #[.int .i64 a0, .int .i64 t400]] rfl (by (try simp only [List.map_toArray, List.map_cons, List.map_nil]); first | done | rfl | (simp only [List.length_drop, List.length_take]; rfl)) ?_; (with_reducible refine (sender_Heard.calls kj24 t393 t394 _ _ t395 a0 t400 t411 t412 t413 t416 _ ?side1 ?side2 A55.out).mono ?_); (case side1 => repeat (first | exact (Kd.R_reads' HO_410002.out).2.2 | (with_reducible refine Kd.C_alloc ?_ _) | (with_reducible refine Kd.C_drewN ?_ _) | (with_reducible refine Kd.C_drew ?_))); (case side2 => exact (Kd.R_reads' HO_410002.out).2.1); rintro e w62 ⟨v414, rfl, ho0, hb⟩; refine ⟨_, rfl, ?_⟩; have n0_ := Aside0.mk (Kd.R_elder' (by (with_reducible repeat (first | apply Kd.R_alloc | apply Kd.R_drewN | apply Kd.R_drew)); exact HO_385002.out) (Kd.R_base ho0) hb); have n1_ := Aside0.mk (Kd.R_elder' (by (with_reducible repeat (first | apply Kd.R_alloc | apply Kd.R_drewN | apply Kd.R_drew)); exact HO_410002.out) (Kd.R_base ho0) hb); have n2_ := Aside0.mk (Kd.R_lower (Kd.R_newB (Kd.R_new' (Kd.R_new' ho0 (Kd.R_lt (by (with_reducible repeat (first | apply Kd.R_alloc | apply Kd.R_drewN | apply Kd.R_drew)); exact HO_385002.out))) (Kd.R_lt (by (with_reducible repeat (first | apply Kd.R_alloc | apply Kd.R_drewN | apply Kd.R_drew)); exact HO_410002.out))) (GS.bqX BK410.out)) (lqZ (by repeat (first | (with_reducible first | exact HB.out | apply lqA | apply lqN | apply lqD | refine lqS ?_ GE384.out | refine lqS ?_ GE409.out | refine lqS ?_ GE410.out) | exact HB.out)))); have n3_ := Aside0.mk (bqB (GS.bqX BK384.out) hb); have n4_ := Aside0.mk (bqB (GS.bqX BK409.out) hb); have n5_ := Aside0.mk (bqB (GS.bqX BK410.out) hb); have n6_ := Aside0.mk (lqT (by repeat (first | (with_reducible first | exact HB.out | apply lqA | apply lqN | apply lqD | refine lqS ?_ GE384.out | refine lqS ?_ GE409.out | refine lqS ?_ GE410.out) | exact HB.out)) hb); clear HO_385002; clear HO_410002; clear BK384; clear BK409; clear BK410; clear HB; have HO_385002 := n0_; have HO_410002 := n1_; have HO415 := n2_; have BK384 := n3_; have BK409 := n4_; have BK410 := n5_; have HB := n6_; clear n0_ n1_ n2_ n3_ n4_ n5_ n6_; (try clear hb); (try clear hb2); (try clear hk); (try clear hi); (try clear ho0); have hcz63_0 : w62.cell? ⟨gb409, 0, none⟩ = some (.int .i64 t393) := (bqC BK409.out 0).trans rfl; have hcz63_1 : w62.cell? ⟨gb409, 1, none⟩ = some (.int .i64 t394) := (bqC BK409.out 1).trans rfl; have hcz63_2 : w62.cell? ⟨gb409, 2, none⟩ = some (.slice Ao61 t395.length co61) := (bqC BK409.out 2).trans rfl; have hfz63_0 := bqF BK409.out 0; have hfz63_1 := bqF BK409.out 1; have hfz63_2 := bqF BK409.out 2; obtain ⟨Ao64, co64, eo64⟩ := Kd.R_slice HO415.out; subst eo64))
                go_meet
                case rel => exact ⟨_, (wrap64 ((wrap64 (x9_2 + 1)) - 1)), (t416), (t411), (t412), (t413), (.slice Ao64 t413.length co64), (by first | rfl | (simp; done) | (simp [*]; done)), (by first | rfl | (simp; done) | (simp [*]; done)), H', ⟨by have := HJ5.out; have := HK2.out; have := HJ24.out; first | omega | exact Nat.le_refl _⟩, ⟨by (with_reducible repeat (first | apply Kd.R_alloc | apply Kd.R_drewN | apply Kd.R_drew)); exact Kd.R_mono (Kd.R_far (p := ⟨gb409, 2, none⟩) (Kd.R_far (p := ⟨gb409, 1, none⟩) (Kd.R_far (p := ⟨gb409, 0, none⟩) (Kd.R_types HO_385002.out BK409.out (by decide)) (fun _ hk => hk.2) (.int .i64 t411)) (fun _ hk => hk.2) (.int .i64 t412)) (fun _ hk => hk.2) (.slice Ao64 t413.length co64)) (fun _ hk => GS.cj hk)⟩, ⟨by (with_reducible repeat (first | apply Kd.R_alloc | apply Kd.R_drewN | apply Kd.R_drew)); exact Kd.R_mono (Kd.R_far (p := ⟨gb409, 2, none⟩) (Kd.R_far (p := ⟨gb409, 1, none⟩) (Kd.R_far (p := ⟨gb409, 0, none⟩) (Kd.R_types HO415.out BK409.out (by decide)) (fun _ hk => hk.2) (.int .i64 t411)) (fun _ hk => hk.2) (.int .i64 t412)) (fun _ hk => hk.2) (.slice Ao64 t413.length co64)) (fun _ hk => GS.cj hk)⟩, ⟨GS.bqX BK384.out⟩, ⟨GS.bqZ BK409.out⟩, ⟨GS.bqX BK410.out⟩, ⟨by repeat (first | (with_reducible first | exact HB.out | apply lqA | apply lqN | apply lqD | refine lqS ?_ GE384.out | refine lqS ?_ GE409.out | refine lqS ?_ GE410.out) | exact HB.out)⟩⟩
               ·rw [if_neg c54] at H
                have c54b0 : (bq53) = false := by simpa using c54
                subst c54b0
                clear c54
                have H' := Aside0.mk H
                clear H
                go_wp2
                go_meet
                case rel => exact ⟨_, (wrap64 (x9_2 + 1)), (t408), (t393), (t394), (t395), (v396), (by first | rfl | (simp; done) | (simp [*]; done)), (by first | rfl | (simp; done) | (simp [*]; done)), H', ⟨by have := HJ5.out; have := HK2.out; have := HJ24.out; first | omega | exact Nat.le_refl _⟩, ⟨by (with_reducible repeat (first | apply Kd.R_alloc | apply Kd.R_drewN | apply Kd.R_drew)); exact HO_385002.out⟩, ⟨by (with_reducible repeat (first | apply Kd.R_alloc | apply Kd.R_drewN | apply Kd.R_drew)); exact HO_410002.out⟩, ⟨GS.bqX BK384.out⟩, ⟨GS.bqX BK409.out⟩, ⟨GS.bqX BK410.out⟩, ⟨by repeat (first | (with_reducible first | exact HB.out | apply lqA | apply lqN | apply lqD | refine lqS ?_ GE384.out | refine lqS ?_ GE409.out | refine lqS ?_ GE410.out) | exact HB.out)⟩⟩
              case rest =>
               clear HC52
               try clear c1
               try clear c2
               try clear p2
               try clear p3
               try clear q3
               try clear hx3
               try clear c4
               try clear c5
               try clear p5
               try clear q5
               try clear p6
               try clear c8
               try clear c8b0
               try clear c8b1
               try clear c9
               try clear c9b0
               try clear c10
               try clear c10b0
               try clear c11
               try clear c11b0
               try clear c12
               try clear c12b0
               try clear c13
               try clear c14
               try clear c15
               try clear c15b0
               try clear c15b1
               try clear c20
               try clear c20b0
               try clear c21
               try clear c21b0
               try clear c22
               try clear c22b0
               try clear c25
               try clear p38
               try clear q38
               try clear hx38
               try clear c47
               try clear c47b0
               try clear c47b1
               try clear c48
               try clear c49
               try clear c51
               try clear q53
               try clear c54
               try clear c54b0
               try clear c56
               try clear c57
               try clear c59
               try clear p64
               try clear hcz18_0
               try clear hcz18_1
               try clear hcz18_2
               try clear hcz50_0
               try clear hcz50_1
               try clear hcz50_2
               try clear hcz50_3
               try clear hcz50_4
               try clear hcz50_5
               try clear hcz50_6
               try clear hcz50_7
               try clear hcz50_8
               try clear hcz50_9
               try clear hcz58_0
               try clear hcz58_1
               try clear hcz58_2
               try clear hcz60_0
               try clear hcz60_1
               try clear hcz60_2
               try clear hcz60_3
               try clear hcz60_4
               try clear hcz60_5
               try clear hcz60_6
               try clear hcz60_7
               try clear hcz60_8
               try clear hcz60_9
               try clear hcz63_0
               try clear hcz63_1
               try clear hcz63_2
               try clear hfz18_0
               try clear hfz18_1
               try clear hfz18_2
               try clear hfz50_0
               try clear hfz50_1
               try clear hfz50_2
               try clear hfz50_3
               try clear hfz50_4
               try clear hfz50_5
               try clear hfz50_6
               try clear hfz50_7
               try clear hfz50_8
               try clear hfz50_9
               try clear hfz58_0
               try clear hfz58_1
               try clear hfz58_2
               try clear hfz60_0
               try clear hfz60_1
               try clear hfz60_2
               try clear hfz60_3
               try clear hfz60_4
               try clear hfz60_5
               try clear hfz60_6
               try clear hfz60_7
               try clear hfz60_8
               try clear hfz60_9
               try clear hfz63_0
               try clear hfz63_1
               try clear hfz63_2
               try clear hx385_0
               try clear p2
               try clear p3
               try clear p38
               try clear p385
               try clear p5
               try clear p6
               try clear q3
               try clear q38
               try clear q385
               obtain ⟨kq, x9_51, x14_51, x410000_51, x410001_51, x410002_51, u410002, rfl, rfl, HA, HJ51, HO_385002, HO_410002, BK384, BK409, BK410, HB⟩ := hcut
               cases kq with
               | zero => exact absurd HA.out (by simp [spilelaw42_SenderCounts.j3])
               | succ kj51 =>
                have H := HA.out
                clear HA
                simp only [spilelaw42_SenderCounts.j3] at H
                by_cases c65 : x14_51 = 0
                ·rw [if_pos c65] at H
                 have c65b0 : (x14_51 == 0) = true := beq_iff_eq.mpr c65
                 try simp only [beq_self_eq_true, Bool.not_true, Bool.false_or, Bool.true_and] at c65b0
                 have c65b1 : (x14_51 != 0) = false := bne_eq_false_iff_eq.mpr c65
                 clear c65
                 by_cases c66 : (x410002_51.length : Int) = x9_51
                 ·rw [if_pos c66] at H
                  have c66b0 : ((x410002_51.length : Int) == x9_51) = true := beq_iff_eq.mpr c66
                  try simp only [beq_self_eq_true, Bool.not_true, Bool.false_or, Bool.true_and] at c66b0
                  have c66b1 : ((x410002_51.length : Int) != x9_51) = false := bne_eq_false_iff_eq.mpr c66
                  clear c66
                  have H' := Aside0.mk H
                  clear H
                  have hnb67 := NB409_384.out
                  have hnc67 := NB384_409.out
                  have hnb68 := NB409_410.out
                  have hnc68 := NB410_409.out
                  have hcz69_0 : wc.cell? ⟨gb409, 0, none⟩ = some (.int .i64 x410000_51) := (bqC BK409.out 0).trans rfl
                  have hcz69_1 : wc.cell? ⟨gb409, 1, none⟩ = some (.int .i64 x410001_51) := (bqC BK409.out 1).trans rfl
                  have hcz69_2 : wc.cell? ⟨gb409, 2, none⟩ = some (u410002) := (bqC BK409.out 2).trans rfl
                  have hfz69_0 := bqF BK409.out 0
                  have hfz69_1 := bqF BK409.out 1
                  have hfz69_2 := bqF BK409.out 2
                  obtain ⟨Ao70, co70, eo70⟩ := Kd.R_slice HO_410002.out
                  subst eo70
                  have hnb71 := NB384_410.out
                  have hnc71 := NB410_384.out
                  have hcz72_0 : wc.cell? ⟨gb384, 0, none⟩ = some (.int .i64 x385000_2) := (bqC BK384.out 0).trans rfl
                  have hcz72_1 : wc.cell? ⟨gb384, 1, none⟩ = some (.int .i64 x385001_2) := (bqC BK384.out 1).trans rfl
                  have hcz72_2 : wc.cell? ⟨gb384, 2, none⟩ = some (.slice Ao26 x385002_2.length co26) := (bqC BK384.out 2).trans rfl
                  have hfz72_0 := bqF BK384.out 0
                  have hfz72_1 := bqF BK384.out 1
                  have hfz72_2 := bqF BK384.out 2
                  go_wp2
                  go_roundg kj51
                  case measure => have := HJ5.out; have := HK2.out; have := HJ24.out; have := HJ51.out; omega
                  case rel => exact ⟨(x9_51), (wrap64 (x50_2 + 1)), (x410000_51), (x410001_51), (x410002_51), (.slice Ao70 x410002_51.length co70), (by first | rfl | (simp; done) | (simp [*]; done)), (by first | rfl | (simp; done) | (simp [*]; done)), H', ⟨by have := HJ5.out; have := HK2.out; have := HJ24.out; have := HJ51.out; omega⟩, ⟨by (with_reducible repeat (first | apply Kd.R_alloc | apply Kd.R_drewN | apply Kd.R_drew)); exact Kd.R_mono (Kd.R_far (p := ⟨gb384, 2, none⟩) (Kd.R_far (p := ⟨gb384, 1, none⟩) (Kd.R_far (p := ⟨gb384, 0, none⟩) (Kd.R_types HO_410002.out BK384.out (by decide)) (fun _ hk => hk.2) (.int .i64 x410000_51)) (fun _ hk => hk.2) (.int .i64 x410001_51)) (fun _ hk => hk.2) (.slice Ao70 x410002_51.length co70)) (fun _ hk => trivial)⟩, ⟨GS.bqZ BK384.out⟩, ⟨by repeat (first | (with_reducible first | exact HB.out | apply lqA | apply lqN | apply lqD | refine lqS ?_ GE384.out | refine lqS ?_ GE409.out | refine lqS ?_ GE410.out) | exact HB.out)⟩⟩
                 ·rw [if_neg c66] at H
                  exact absurd H (by simp)
                ·rw [if_neg c65] at H
                 exact absurd H (by simp)
          ·rw [if_neg c22] at H
           exact absurd H (by simp)
         ·rw [if_neg c21] at H
          exact absurd H (by simp)
        ·rw [if_neg c20] at H
         have c20b0 : decide (x50_2 < (l2.length : Int)) = false := decide_eq_false c20
         clear c20
         obtain rfl := Option.some.inj H
         have hcz73_0 : wr.cell? ⟨gb384, 0, none⟩ = some (.int .i64 x385000_2) := (bqC BK384.out 0).trans rfl
         have hcz73_1 : wr.cell? ⟨gb384, 1, none⟩ = some (.int .i64 x385001_2) := (bqC BK384.out 1).trans rfl
         have hcz73_2 : wr.cell? ⟨gb384, 2, none⟩ = some (u385002) := (bqC BK384.out 2).trans rfl
         have hfz73_0 := bqF BK384.out 0
         have hfz73_1 := bqF BK384.out 1
         have hfz73_2 := bqF BK384.out 2
         go_wp2
         go_ret
         exact ⟨by first | rfl | (simp [errW_none, errW_some] <;> rfl) | (simp [*, errW_none, errW_some] <;> rfl), by repeat (first | (with_reducible first | exact HB.out | apply lqA | apply lqN | apply lqD | refine lqS ?_ GE384.out) | exact HB.out)⟩
     ·rw [if_neg c15] at H
      exact absurd H (by simp)
 ·replace c5 := Bool.eq_false_iff.mpr c5
  subst c5
  have H1 : (none) = some r := by rw [if_neg (show ¬ (false = true) by decide)] at H; exact H
  clear H
  have H := H1
  clear H1
  exact absurd H (by simp)

end Go.Proofs.Ytfafeeobjlkjnaa.K
