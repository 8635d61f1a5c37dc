-- PRINTED by print.py (a twelfth state) out of the translation. Not trusted: Lean checks it.
import Derived.Test.YtfafeeobjlkjnaaK0
import Derived.Test.YtfafeeobjlkjnaaGShort
import Derived.Test.YtfafeeobjlkjnaaK3
import Derived.Test.YtfafeeobjlkjnaaGClone
import Derived.Test.YtfafeeobjlkjnaaGNet
namespace Go.Proofs.Ytfafeeobjlkjnaa.K
open Go.RowKit Go.Proofs.YtfafeeobjlkjnaaW.PrintWords Go.Proofs.YtfafeeobjlkjnaaW.PrintLast Go.Proofs.YtfafeeobjlkjnaaW.PrintMore
attribute [local go_sem] max2_int min2_int max_two min_two max_three min_three max_four min_four   -- for this text's walks alone
set_option linter.unusedVariables false
set_option linter.unusedSimpArgs false

-- GIVEN: function 45 (network_Check)

/-! ### sender_Check: function 17 -/
mutual
def sender_Check.j0 : Nat → Bool → Int → Int → List (S33) → Option (Int)
 | 0, _, _, _, _ => none
 | k + 1, x7, x109000, x109001, x109002 => if x7 = true then (some 2) else (if (x109002.length : Int) > 64 then (some 8) else (sender_Check.l0 k x109002 (x109002.length : Int) 0 x109000 x109001 x109002))
def sender_Check.l0 : Nat → List (S33) → Int → Int → Int → Int → List (S33) → Option (Int)
 | 0, _, _, _, _, _, _ => none
 | k + 1, x28, x29, x30, x109000, x109001, x109002 => if x30 < x29 then (if 0 ≤ x30 then (if x30 < (x28.length : Int) then ((network_Check.f k (([(⟨(rd_T33 x28 x30).f0, (rd_T33 x28 x30).f1, (rd_T33 x28 x30).f2, (⟨(rd_T33 x28 x30).f3.f0, (rd_T33 x28 x30).f3.f1, (rd_T33 x28 x30).f3.f2, (rd_T33 x28 x30).f3.f3, (rd_T33 x28 x30).f3.f4, (rd_T33 x28 x30).f3.f5, (rd_T33 x28 x30).f3.f6⟩ : S26)⟩ : S33)] : List (S33)))).bind fun bt115 => (if bt115.2 = 0 then (if ((rd_T33 x28 x30).f0) = x109000 then (if x30 > 0 then (if 0 ≤ (wrap64 (x30 - 1)) then (if (wrap64 (x30 - 1)) < (x109002.length : Int) then (if ((rd_T33 x28 x30).f2) ≤ ((rd_T33 x109002 (wrap64 (x30 - 1))).f2) then (sender_Check.j2 k x28 x29 x30 true x109000 x109001 x109002) else (sender_Check.j2 k x28 x29 x30 (decide (((rd_T33 x28 x30).f2) ≥ x109001)) x109000 x109001 x109002)) else (none)) else (none)) else (sender_Check.j2 k x28 x29 x30 (decide (((rd_T33 x28 x30).f2) ≥ x109001)) x109000 x109001 x109002)) else (some 10)) else (some bt115.2))) else (none)) else (none)) else (some 0)
def sender_Check.j2 : Nat → List (S33) → Int → Int → Bool → Int → Int → List (S33) → Option (Int)
 | 0, _, _, _, _, _, _, _ => none
 | k + 1, x28, x29, x30, x51, x109000, x109001, x109002 => if x51 = true then (some 5) else (sender_Check.l0 k x28 x29 (wrap64 (x30 + 1)) x109000 x109001 x109002)
end
def sender_Check.f (k : Nat) (a0_0 : Int) (a0_1 : Int) (l0_2 : List (S33)) : Option (Int) := (sender_node.f a0_0).bind fun t109 => (if t109 = true then (if a0_1 < 1 then (sender_Check.j0 k true a0_0 a0_1 l0_2) else (sender_Check.j0 k (decide (a0_1 > 1073741825)) a0_0 a0_1 l0_2)) else (sender_Check.j0 k true a0_0 a0_1 l0_2))
theorem sender_Check.mono_l : ∀ k, (∀ y0 y1 y2 y3, LeO (sender_Check.j0 k y0 y1 y2 y3) (sender_Check.j0 (k + 1) y0 y1 y2 y3)) ∧ (∀ y0 y1 y2 y3 y4 y5, LeO (sender_Check.l0 k y0 y1 y2 y3 y4 y5) (sender_Check.l0 (k + 1) y0 y1 y2 y3 y4 y5)) ∧ (∀ y0 y1 y2 y3 y4 y5 y6, LeO (sender_Check.j2 k y0 y1 y2 y3 y4 y5 y6) (sender_Check.j2 (k + 1) y0 y1 y2 y3 y4 y5 y6))
 | 0 => ⟨fun _ _ _ _ r h => by simp [sender_Check.j0] at h, fun _ _ _ _ _ _ r h => by simp [sender_Check.l0] at h, fun _ _ _ _ _ _ _ r h => by simp [sender_Check.j2] at h⟩
 | k + 1 => by
  obtain ⟨ih0, ih1, ih2⟩ := sender_Check.mono_l k
  refine ⟨?_, ?_, ?_⟩
  ·intro y0 y1 y2 y3
   unfold sender_Check.j0
   repeat' first
   | (with_reducible exact ih0 _ _ _ _)
   | (with_reducible exact ih1 _ _ _ _ _ _)
   | (with_reducible exact ih2 _ _ _ _ _ _ _)
   | (with_reducible exact network_Check.mono _ _)
   | (with_reducible exact LeO.refl _)
   | (with_reducible exact LeO.none _)
   | (with_reducible refine LeO.ite ?_ ?_)
   | (with_reducible refine LeO.bind ?_ (fun _ => ?_))
   | exact ih0 _ _ _ _
   | exact ih1 _ _ _ _ _ _
   | exact ih2 _ _ _ _ _ _ _
   | exact network_Check.mono _ _
   | exact LeO.none _
   | refine LeO.ite ?_ ?_
   | refine LeO.bind ?_ (fun _ => ?_)
  ·intro y0 y1 y2 y3 y4 y5
   unfold sender_Check.l0
   repeat' first
   | (with_reducible exact ih0 _ _ _ _)
   | (with_reducible exact ih1 _ _ _ _ _ _)
   | (with_reducible exact ih2 _ _ _ _ _ _ _)
   | (with_reducible exact network_Check.mono _ _)
   | (with_reducible exact LeO.refl _)
   | (with_reducible exact LeO.none _)
   | (with_reducible refine LeO.ite ?_ ?_)
   | (with_reducible refine LeO.bind ?_ (fun _ => ?_))
   | exact ih0 _ _ _ _
   | exact ih1 _ _ _ _ _ _
   | exact ih2 _ _ _ _ _ _ _
   | exact network_Check.mono _ _
   | exact LeO.none _
   | refine LeO.ite ?_ ?_
   | refine LeO.bind ?_ (fun _ => ?_)
  ·intro y0 y1 y2 y3 y4 y5 y6
   unfold sender_Check.j2
   repeat' first
   | (with_reducible exact ih0 _ _ _ _)
   | (with_reducible exact ih1 _ _ _ _ _ _)
   | (with_reducible exact ih2 _ _ _ _ _ _ _)
   | (with_reducible exact network_Check.mono _ _)
   | (with_reducible exact LeO.refl _)
   | (with_reducible exact LeO.none _)
   | (with_reducible refine LeO.ite ?_ ?_)
   | (with_reducible refine LeO.bind ?_ (fun _ => ?_))
   | exact ih0 _ _ _ _
   | exact ih1 _ _ _ _ _ _
   | exact ih2 _ _ _ _ _ _ _
   | exact network_Check.mono _ _
   | exact LeO.none _
   | refine LeO.ite ?_ ?_
   | refine LeO.bind ?_ (fun _ => ?_)
theorem sender_Check.mono : ∀ a0 a1 a2 k, LeO (sender_Check.f k a0 a1 a2) (sender_Check.f (k + 1) a0 a1 a2) := by
 intro a0 a1 a2 k
 obtain ⟨ih0, ih1, ih2⟩ := sender_Check.mono_l k
 unfold sender_Check.f
 repeat' first
   | (with_reducible exact ih0 _ _ _ _)
   | (with_reducible exact ih1 _ _ _ _ _ _)
   | (with_reducible exact ih2 _ _ _ _ _ _ _)
   | (with_reducible exact network_Check.mono _ _)
   | (with_reducible exact LeO.refl _)
   | (with_reducible exact LeO.none _)
   | (with_reducible refine LeO.ite ?_ ?_)
   | (with_reducible refine LeO.bind ?_ (fun _ => ?_))
   | exact ih0 _ _ _ _
   | exact ih1 _ _ _ _ _ _
   | exact ih2 _ _ _ _ _ _ _
   | exact network_Check.mono _ _
   | exact LeO.none _
   | refine LeO.ite ?_ ?_
   | refine LeO.bind ?_ (fun _ => ?_)
set_option maxHeartbeats 8000000 in
set_option maxRecDepth 100000 in
theorem sender_Check.calls (k : Nat) (a0_0 : Int) (a0_1 : Int) (A0_2 : Option Addr) (c0_2 : Nat) (l0_2 : List (S33)) (r : Int) (w : World) (hr0_2 : Kd.C k33 w A0_2 l0_2.length l0_2) (hc0_2 : l0_2.length ≤ c0_2) (h : sender_Check.f k a0_0 a0_1 l0_2 = some r) :
  Calls Try.prog 17 #[.agg #[.int .i64 a0_0, .int .i64 a0_1, .slice A0_2 l0_2.length c0_2]] w fun e w' => e = .returned (.int .i64 r) ∧ Below w.heap.size w w' := by
 have hu24 := Try.underlying24
 have hu33 := Try.underlying33
 have HR0_2 := Aside0.mk hr0_2
 have HC0_2 := Aside0.mk hc0_2
 clear hr0_2 hc0_2
 have HB := Aside0.mk (Below.refl w.heap.size w)
 have H : ((sender_node.f a0_0).bind fun t109 => (if t109 = true then (if a0_1 < 1 then (sender_Check.j0 k true a0_0 a0_1 l0_2) else (sender_Check.j0 k (decide (a0_1 > 1073741825)) a0_0 a0_1 l0_2)) else (sender_Check.j0 k true a0_0 a0_1 l0_2))) = some r := h
 clear h
 have HC2 := Aside0.mk H
 clear H
 go_enter Try.func17, Try.ntmps17
 go_upto_region 1 with (first | ((with_reducible refine gqD (N := 1) rfl ?_); refine box_event ?hg (N := 1) ?hd (cs := #[.int .i64 a0_0, .int .i64 a0_1, .slice A0_2 l0_2.length c0_2]) (t := 24) ?hr ?_; (case hd => rfl); (case hg => rfl); (case hr => first | (go_simp; done) | (go_simp; rfl)); intro gb108 hg w3 hbox hb; have n0_ := Aside0.mk (lqT (by repeat (first | (with_reducible first | exact HB.out | apply lqA | apply lqN | apply lqD) | exact HB.out)) hb); have n1_ := Aside0.mk (hbox); have n2_ := Aside0.mk ((by rw [hg]; exact (lqZ (by repeat (first | (with_reducible first | exact HB.out | apply lqA | apply lqN | apply lqD) | exact HB.out))) : w.heap.size ≤ gb108)); have n3_ := Aside0.mk ((by rw [hg]; exact (lqZ (by repeat (first | (with_reducible first | exact HB.out | apply lqA | apply lqN | apply lqD) | exact HB.out))) : w.heap.size ≤ gb108)); clear HB; have HB := n0_; have BK108 := n1_; have GW108 := n2_; have GE108 := n3_; clear n0_ n1_ n2_ n3_; clear hb hbox hg))
 repeat (go_quiet (first | ((with_reducible refine gqD (N := 1) rfl ?_); refine box_event ?hg (N := 1) ?hd (cs := #[.int .i64 a0_0, .int .i64 a0_1, .slice A0_2 l0_2.length c0_2]) (t := 24) ?hr ?_; (case hd => rfl); (case hg => rfl); (case hr => first | (go_simp; done) | (go_simp; rfl)); intro gb108 hg w3 hbox hb; have n0_ := Aside0.mk (lqT (by repeat (first | (with_reducible first | exact HB.out | apply lqA | apply lqN | apply lqD) | exact HB.out)) hb); have n1_ := Aside0.mk (hbox); have n2_ := Aside0.mk ((by rw [hg]; exact (lqZ (by repeat (first | (with_reducible first | exact HB.out | apply lqA | apply lqN | apply lqD) | exact HB.out))) : w.heap.size ≤ gb108)); have n3_ := Aside0.mk ((by rw [hg]; exact (lqZ (by repeat (first | (with_reducible first | exact HB.out | apply lqA | apply lqN | apply lqD) | exact HB.out))) : w.heap.size ≤ gb108)); clear HB; have HB := n0_; have BK108 := n1_; have GW108 := n2_; have GE108 := n3_; clear n0_ n1_ n2_ n3_; clear hb hbox hg)); go_upto_region 1 with (first | ((with_reducible refine gqD (N := 1) rfl ?_); refine box_event ?hg (N := 1) ?hd (cs := #[.int .i64 a0_0, .int .i64 a0_1, .slice A0_2 l0_2.length c0_2]) (t := 24) ?hr ?_; (case hd => rfl); (case hg => rfl); (case hr => first | (go_simp; done) | (go_simp; rfl)); intro gb108 hg w3 hbox hb; have n0_ := Aside0.mk (lqT (by repeat (first | (with_reducible first | exact HB.out | apply lqA | apply lqN | apply lqD) | exact HB.out)) hb); have n1_ := Aside0.mk (hbox); have n2_ := Aside0.mk ((by rw [hg]; exact (lqZ (by repeat (first | (with_reducible first | exact HB.out | apply lqA | apply lqN | apply lqD) | exact HB.out))) : w.heap.size ≤ gb108)); have n3_ := Aside0.mk ((by rw [hg]; exact (lqZ (by repeat (first | (with_reducible first | exact HB.out | apply lqA | apply lqN | apply lqD) | exact HB.out))) : w.heap.size ≤ gb108)); clear HB; have HB := n0_; have BK108 := n1_; have GW108 := n2_; have GE108 := n3_; clear n0_ n1_ n2_ n3_; clear hb hbox hg)))
 (try simp only [Act.put, List.setIfInBounds_toArray, List.set_cons_zero, List.set_cons_succ])
 go_cut [7] (fun v7 wc => ∃ (kq : Nat) (x7_1 : Bool), v7 = .bool x7_1 ∧ Aside0 (sender_Check.j0 kq x7_1 a0_0 a0_1 l0_2 = some r) ∧ Aside0 (kq ≤ k) ∧ Aside0 (wc.heap[gb108]? = some (.cells #[.int .i64 a0_0, .int .i64 a0_1, (.slice A0_2 l0_2.length c0_2)] 24 (0, 0))) ∧ Aside0 (Below w.heap.size w wc))
 case first =>
  have H := HC2.out
  clear HC2
  replace H := Option.bind_eq_some_iff.mp H
  obtain ⟨t109, A40, H⟩ := H
  replace H : (if t109 = true then (if a0_1 < 1 then (sender_Check.j0 k true a0_0 a0_1 l0_2) else (sender_Check.j0 k (decide (a0_1 > 1073741825)) a0_0 a0_1 l0_2)) else (sender_Check.j0 k true a0_0 a0_1 l0_2)) = some r := H
  have A4 := Aside0.mk A40
  clear A40
  by_cases c5 : t109 = true
  ·subst c5
   have H1 : (if a0_1 < 1 then (sender_Check.j0 k true a0_0 a0_1 l0_2) else (sender_Check.j0 k (decide (a0_1 > 1073741825)) a0_0 a0_1 l0_2)) = some r := by rw [if_pos rfl] at H; exact H
   clear H
   have H := H1
   clear H1
   by_cases c6 : a0_1 < 1
   ·rw [if_pos c6] at H
    have c6b0 : decide (a0_1 < 1) = true := decide_eq_true c6
    clear c6
    (first | rw [c6b0] | (simp only [i64_w, i32_w]; rw [c6b0]) | skip)
    have H' := Aside0.mk H
    clear H
    have hcz7_0 : w3.cell? ⟨gb108, 0, none⟩ = some (.int .i64 a0_0) := (bqC BK108.out 0).trans rfl
    have hcz7_1 : w3.cell? ⟨gb108, 1, none⟩ = some (.int .i64 a0_1) := (bqC BK108.out 1).trans rfl
    have hcz7_2 : w3.cell? ⟨gb108, 2, none⟩ = some (.slice A0_2 l0_2.length c0_2) := (bqC BK108.out 2).trans rfl
    have hfz7_0 := bqF BK108.out 0
    have hfz7_1 := bqF BK108.out 1
    have hfz7_2 := bqF BK108.out 2
    go_wp2_with (first | (go_at_call 40; (with_reducible refine (sender_node.calls a0_0 true _ A4.out).mono ?_); rintro e w' ⟨rfl, ⟨nd, rfl⟩⟩; (try first | exact ⟨rfl, _, World.drewN_drewN _ _ _⟩ | exact ⟨rfl, _, Eq.trans (World.drewN_drewN _ _ _) (congrArg (World.drewN _) (Nat.add_assoc _ _ _))⟩)))
    repeat (go_quiet (first | (go_at_call 40; (with_reducible refine (sender_node.calls a0_0 true _ A4.out).mono ?_); rintro e w' ⟨rfl, ⟨nd, rfl⟩⟩; (try first | exact ⟨rfl, _, World.drewN_drewN _ _ _⟩ | exact ⟨rfl, _, Eq.trans (World.drewN_drewN _ _ _) (congrArg (World.drewN _) (Nat.add_assoc _ _ _))⟩))); try go_wp2_with (first | (go_at_call 40; (with_reducible refine (sender_node.calls a0_0 true _ A4.out).mono ?_); rintro e w' ⟨rfl, ⟨nd, rfl⟩⟩; (try first | exact ⟨rfl, _, World.drewN_drewN _ _ _⟩ | exact ⟨rfl, _, Eq.trans (World.drewN_drewN _ _ _) (congrArg (World.drewN _) (Nat.add_assoc _ _ _))⟩))))
    go_meet
    case rel => exact ⟨_, (true), (by first | rfl | (simp; done) | (simp [*]; done)), H', ⟨by first | omega | exact Nat.le_refl _⟩, ⟨GS.bqX BK108.out⟩, ⟨by repeat (first | (with_reducible first | exact HB.out | apply lqA | apply lqN | apply lqD | refine lqS ?_ GE108.out) | exact HB.out)⟩⟩
   ·rw [if_neg c6] at H
    have c6b0 : decide (a0_1 < 1) = false := decide_eq_false c6
    clear c6
    (first | rw [c6b0] | (simp only [i64_w, i32_w]; rw [c6b0]) | skip)
    have H' := Aside0.mk H
    clear H
    have hcz8_0 : w3.cell? ⟨gb108, 0, none⟩ = some (.int .i64 a0_0) := (bqC BK108.out 0).trans rfl
    have hcz8_1 : w3.cell? ⟨gb108, 1, none⟩ = some (.int .i64 a0_1) := (bqC BK108.out 1).trans rfl
    have hcz8_2 : w3.cell? ⟨gb108, 2, none⟩ = some (.slice A0_2 l0_2.length c0_2) := (bqC BK108.out 2).trans rfl
    have hfz8_0 := bqF BK108.out 0
    have hfz8_1 := bqF BK108.out 1
    have hfz8_2 := bqF BK108.out 2
    go_wp2_with (first | (go_at_call 40; (with_reducible refine (sender_node.calls a0_0 true _ A4.out).mono ?_); rintro e w' ⟨rfl, ⟨nd, rfl⟩⟩; (try first | exact ⟨rfl, _, World.drewN_drewN _ _ _⟩ | exact ⟨rfl, _, Eq.trans (World.drewN_drewN _ _ _) (congrArg (World.drewN _) (Nat.add_assoc _ _ _))⟩)))
    repeat (go_quiet (first | (go_at_call 40; (with_reducible refine (sender_node.calls a0_0 true _ A4.out).mono ?_); rintro e w' ⟨rfl, ⟨nd, rfl⟩⟩; (try first | exact ⟨rfl, _, World.drewN_drewN _ _ _⟩ | exact ⟨rfl, _, Eq.trans (World.drewN_drewN _ _ _) (congrArg (World.drewN _) (Nat.add_assoc _ _ _))⟩))); try go_wp2_with (first | (go_at_call 40; (with_reducible refine (sender_node.calls a0_0 true _ A4.out).mono ?_); rintro e w' ⟨rfl, ⟨nd, rfl⟩⟩; (try first | exact ⟨rfl, _, World.drewN_drewN _ _ _⟩ | exact ⟨rfl, _, Eq.trans (World.drewN_drewN _ _ _) (congrArg (World.drewN _) (Nat.add_assoc _ _ _))⟩))))
    go_meet
    case rel => exact ⟨_, (decide (a0_1 > 1073741825)), (by first | rfl | (simp; done) | (simp [*]; done)), H', ⟨by first | omega | exact Nat.le_refl _⟩, ⟨GS.bqX BK108.out⟩, ⟨by repeat (first | (with_reducible first | exact HB.out | apply lqA | apply lqN | apply lqD | refine lqS ?_ GE108.out) | exact HB.out)⟩⟩
  ·replace c5 := Bool.eq_false_iff.mpr c5
   subst c5
   have H1 : (sender_Check.j0 k true a0_0 a0_1 l0_2) = some r := by rw [if_neg (show ¬ (false = true) by decide)] at H; exact H
   clear H
   have H := H1
   clear H1
   have H' := Aside0.mk H
   clear H
   have hcz9_0 : w3.cell? ⟨gb108, 0, none⟩ = some (.int .i64 a0_0) := (bqC BK108.out 0).trans rfl
   have hcz9_1 : w3.cell? ⟨gb108, 1, none⟩ = some (.int .i64 a0_1) := (bqC BK108.out 1).trans rfl
   have hcz9_2 : w3.cell? ⟨gb108, 2, none⟩ = some (.slice A0_2 l0_2.length c0_2) := (bqC BK108.out 2).trans rfl
   have hfz9_0 := bqF BK108.out 0
   have hfz9_1 := bqF BK108.out 1
   have hfz9_2 := bqF BK108.out 2
   go_wp2_with (first | (go_at_call 40; (with_reducible refine (sender_node.calls a0_0 false _ A4.out).mono ?_); rintro e w' ⟨rfl, ⟨nd, rfl⟩⟩; (try first | exact ⟨rfl, _, World.drewN_drewN _ _ _⟩ | exact ⟨rfl, _, Eq.trans (World.drewN_drewN _ _ _) (congrArg (World.drewN _) (Nat.add_assoc _ _ _))⟩)))
   repeat (go_quiet (first | (go_at_call 40; (with_reducible refine (sender_node.calls a0_0 false _ A4.out).mono ?_); rintro e w' ⟨rfl, ⟨nd, rfl⟩⟩; (try first | exact ⟨rfl, _, World.drewN_drewN _ _ _⟩ | exact ⟨rfl, _, Eq.trans (World.drewN_drewN _ _ _) (congrArg (World.drewN _) (Nat.add_assoc _ _ _))⟩))); try go_wp2_with (first | (go_at_call 40; (with_reducible refine (sender_node.calls a0_0 false _ A4.out).mono ?_); rintro e w' ⟨rfl, ⟨nd, rfl⟩⟩; (try first | exact ⟨rfl, _, World.drewN_drewN _ _ _⟩ | exact ⟨rfl, _, Eq.trans (World.drewN_drewN _ _ _) (congrArg (World.drewN _) (Nat.add_assoc _ _ _))⟩))))
   go_meet
   case rel => exact ⟨_, (true), (by first | rfl | (simp; done) | (simp [*]; done)), H', ⟨by first | omega | exact Nat.le_refl _⟩, ⟨GS.bqX BK108.out⟩, ⟨by repeat (first | (with_reducible first | exact HB.out | apply lqA | apply lqN | apply lqD | refine lqS ?_ GE108.out) | exact HB.out)⟩⟩
 case rest =>
  clear HC2
  try clear c1
  try clear p2
  try clear c5
  try clear c6
  try clear c6b0
  try clear hcz7_0
  try clear hcz7_1
  try clear hcz7_2
  try clear hcz8_0
  try clear hcz8_1
  try clear hcz8_2
  try clear hcz9_0
  try clear hcz9_1
  try clear hcz9_2
  try clear hfz7_0
  try clear hfz7_1
  try clear hfz7_2
  try clear hfz8_0
  try clear hfz8_1
  try clear hfz8_2
  try clear hfz9_0
  try clear hfz9_1
  try clear hfz9_2
  obtain ⟨kq, x7_1, rfl, HA, HJ1, BK108, HB⟩ := hcut
  cases kq with
  | zero => exact absurd HA.out (by simp [sender_Check.j0])
  | succ kj1 =>
   have H := HA.out
   clear HA
   simp only [sender_Check.j0] at H
   by_cases c10 : x7_1 = true
   ·subst c10
    have H1 : (some 2) = some r := by rw [if_pos rfl] at H; exact H
    clear H
    have H := H1
    clear H1
    obtain rfl := Option.some.inj H
    go_wp2
    repeat (go_quiet (fail); try go_wp2)
    go_ret
    exact ⟨by first | rfl | (simp [errW_none, errW_some] <;> rfl) | (simp [*, errW_none, errW_some] <;> rfl), by repeat (first | (with_reducible first | exact HB.out | apply lqA | apply lqN | apply lqD | refine lqS ?_ GE108.out) | exact HB.out)⟩
   ·replace c10 := Bool.eq_false_iff.mpr c10
    subst c10
    have H1 : (if (l0_2.length : Int) > 64 then (some 8) else (sender_Check.l0 kj1 l0_2 (l0_2.length : Int) 0 a0_0 a0_1 l0_2)) = some r := by rw [if_neg (show ¬ (false = true) by decide)] at H; exact H
    clear H
    have H := H1
    clear H1
    by_cases c11 : (l0_2.length : Int) > 64
    ·rw [if_pos c11] at H
     have c11b0 : decide (64 < (l0_2.length : Int)) = true := decide_eq_true c11
     have c11b1 : decide (64 < l0_2.length) = true := decide_eq_true (by omega)
     clear c11
     obtain rfl := Option.some.inj H
     have hcz12_0 : wc.cell? ⟨gb108, 0, none⟩ = some (.int .i64 a0_0) := (bqC BK108.out 0).trans rfl
     have hcz12_1 : wc.cell? ⟨gb108, 1, none⟩ = some (.int .i64 a0_1) := (bqC BK108.out 1).trans rfl
     have hcz12_2 : wc.cell? ⟨gb108, 2, none⟩ = some (.slice A0_2 l0_2.length c0_2) := (bqC BK108.out 2).trans rfl
     have hfz12_0 := bqF BK108.out 0
     have hfz12_1 := bqF BK108.out 1
     have hfz12_2 := bqF BK108.out 2
     go_wp2
     repeat (go_quiet (fail); try go_wp2)
     go_ret
     exact ⟨by first | rfl | (simp [errW_none, errW_some] <;> rfl) | (simp [*, errW_none, errW_some] <;> rfl), by repeat (first | (with_reducible first | exact HB.out | apply lqA | apply lqN | apply lqD | refine lqS ?_ GE108.out) | exact HB.out)⟩
    ·rw [if_neg c11] at H
     have c11b0 : decide (64 < (l0_2.length : Int)) = false := decide_eq_false c11
     have c11b1 : decide (64 < l0_2.length) = false := decide_eq_false (by omega)
     clear c11
     have H' := Aside0.mk H
     clear H
     have hcz13_0 : wc.cell? ⟨gb108, 0, none⟩ = some (.int .i64 a0_0) := (bqC BK108.out 0).trans rfl
     have hcz13_1 : wc.cell? ⟨gb108, 1, none⟩ = some (.int .i64 a0_1) := (bqC BK108.out 1).trans rfl
     have hcz13_2 : wc.cell? ⟨gb108, 2, none⟩ = some (.slice A0_2 l0_2.length c0_2) := (bqC BK108.out 2).trans rfl
     have hfz13_0 := bqF BK108.out 0
     have hfz13_1 := bqF BK108.out 1
     have hfz13_2 := bqF BK108.out 2
     go_wp2
     repeat (go_quiet (fail); try go_wp2)
     go_loopg [30] kj1 (fun kq v30 w' => ∃ (x30_2 : Int), v30 = .int .i64 x30_2 ∧ Aside0 (sender_Check.l0 kq l0_2 (l0_2.length : Int) x30_2 a0_0 a0_1 l0_2 = some r) ∧ Aside0 (kq ≤ kj1) ∧ Aside0 (w'.heap[gb108]? = some (.cells #[.int .i64 a0_0, .int .i64 a0_1, (.slice A0_2 l0_2.length c0_2)] 24 (0, 0))) ∧ Aside0 (Below w.heap.size w w'))
     case atStart => exact ⟨(0), (by first | rfl | (simp; done) | (simp [*]; done)), H', ⟨Nat.le_refl _⟩, ⟨GS.bqX BK108.out⟩, ⟨by repeat (first | (with_reducible first | exact HB.out | apply lqA | apply lqN | apply lqD | refine lqS ?_ GE108.out) | exact HB.out)⟩⟩
     case round =>
      clear H'
      try clear c1
      try clear p2
      try clear c5
      try clear c6
      try clear c6b0
      try clear c10
      try clear c11
      try clear c11b0
      try clear c11b1
      try clear hcz12_0
      try clear hcz12_1
      try clear hcz12_2
      try clear hcz13_0
      try clear hcz13_1
      try clear hcz13_2
      try clear hcz7_0
      try clear hcz7_1
      try clear hcz7_2
      try clear hcz8_0
      try clear hcz8_1
      try clear hcz8_2
      try clear hcz9_0
      try clear hcz9_1
      try clear hcz9_2
      try clear hfz12_0
      try clear hfz12_1
      try clear hfz12_2
      try clear hfz13_0
      try clear hfz13_1
      try clear hfz13_2
      try clear hfz7_0
      try clear hfz7_1
      try clear hfz7_2
      try clear hfz8_0
      try clear hfz8_1
      try clear hfz8_2
      try clear hfz9_0
      try clear hfz9_1
      try clear hfz9_2
      try clear p2
      obtain ⟨x30_2, rfl, HA, HK2, BK108, HB⟩ := hrel
      cases gk with
      | zero => exact absurd HA.out (by simp [sender_Check.l0])
      | succ k2 =>
       have H := HA.out
       clear HA
       simp only [sender_Check.l0] at H
       by_cases c14 : x30_2 < (l0_2.length : Int)
       ·rw [if_pos c14] at H
        have c14b0 : decide (x30_2 < (l0_2.length : Int)) = true := decide_eq_true c14
        clear c14
        by_cases c15 : 0 ≤ x30_2
        ·rw [if_pos c15] at H
         have c15b0 : decide (0 ≤ x30_2) = true := decide_eq_true c15
         clear c15
         by_cases c16 : x30_2 < (l0_2.length : Int)
         ·rw [if_pos c16] at H
          have c16b0 : decide (x30_2 < (l0_2.length : Int)) = true := decide_eq_true c16
          clear c16
          obtain ⟨y112, hy112⟩ : ∃ y_ : List (S33), y_ = (([(⟨(rd_T33 l0_2 x30_2).f0, (rd_T33 l0_2 x30_2).f1, (rd_T33 l0_2 x30_2).f2, (⟨(rd_T33 l0_2 x30_2).f3.f0, (rd_T33 l0_2 x30_2).f3.f1, (rd_T33 l0_2 x30_2).f3.f2, (rd_T33 l0_2 x30_2).f3.f3, (rd_T33 l0_2 x30_2).f3.f4, (rd_T33 l0_2 x30_2).f3.f5, (rd_T33 l0_2 x30_2).f3.f6⟩ : S26)⟩ : S33)] : List (S33))) := ⟨_, rfl⟩
          replace H : ((network_Check.f k2 y112).bind fun bt115 => (if bt115.2 = 0 then (if ((rd_T33 l0_2 x30_2).f0) = a0_0 then (if x30_2 > 0 then (if 0 ≤ (wrap64 (x30_2 - 1)) then (if (wrap64 (x30_2 - 1)) < (l0_2.length : Int) then (if ((rd_T33 l0_2 x30_2).f2) ≤ ((rd_T33 l0_2 (wrap64 (x30_2 - 1))).f2) then (sender_Check.j2 k2 l0_2 (l0_2.length : Int) x30_2 true a0_0 a0_1 l0_2) else (sender_Check.j2 k2 l0_2 (l0_2.length : Int) x30_2 (decide (((rd_T33 l0_2 x30_2).f2) ≥ a0_1)) a0_0 a0_1 l0_2)) else (none)) else (none)) else (sender_Check.j2 k2 l0_2 (l0_2.length : Int) x30_2 (decide (((rd_T33 l0_2 x30_2).f2) ≥ a0_1)) a0_0 a0_1 l0_2)) else (some 10)) else (some bt115.2))) = some r := by first | (rw [hy112]; with_reducible exact H) | (have H2_ := (Option.bind_some _ _).symm.trans H; rw [hy112]; with_reducible exact H2_) | (have H2_ := (Option.bind_some _ _).symm.trans H; with_reducible exact H2_) | with_reducible exact H | (rw [hy112]; exact H) | exact H
          have Ny112 := Aside0.mk hy112
          clear hy112
          replace H := Option.bind_eq_some_iff.mp H
          obtain ⟨⟨t115, t116⟩, A170, H⟩ := H
          replace H : (if t116 = 0 then (if ((rd_T33 l0_2 x30_2).f0) = a0_0 then (if x30_2 > 0 then (if 0 ≤ (wrap64 (x30_2 - 1)) then (if (wrap64 (x30_2 - 1)) < (l0_2.length : Int) then (if ((rd_T33 l0_2 x30_2).f2) ≤ ((rd_T33 l0_2 (wrap64 (x30_2 - 1))).f2) then (sender_Check.j2 k2 l0_2 (l0_2.length : Int) x30_2 true a0_0 a0_1 l0_2) else (sender_Check.j2 k2 l0_2 (l0_2.length : Int) x30_2 (decide (((rd_T33 l0_2 x30_2).f2) ≥ a0_1)) a0_0 a0_1 l0_2)) else (none)) else (none)) else (sender_Check.j2 k2 l0_2 (l0_2.length : Int) x30_2 (decide (((rd_T33 l0_2 x30_2).f2) ≥ a0_1)) a0_0 a0_1 l0_2)) else (some 10)) else (some t116)) = some r := H
          have A17 := Aside0.mk A170
          clear A170
          by_cases c18 : t116 = 0
          ·rw [if_pos c18] at H
           have c18b0 : (t116 == 0) = true := beq_iff_eq.mpr c18
           try simp only [beq_self_eq_true, Bool.not_true, Bool.false_or, Bool.true_and] at c18b0
           have c18b1 : (t116 != 0) = false := bne_eq_false_iff_eq.mpr c18
           clear c18
           by_cases c19 : ((rd_T33 l0_2 x30_2).f0) = a0_0
           ·rw [if_pos c19] at H
            have c19b0 : (((rd_T33 l0_2 x30_2).f0) == a0_0) = true := beq_iff_eq.mpr c19
            try simp only [beq_self_eq_true, Bool.not_true, Bool.false_or, Bool.true_and] at c19b0
            have c19b1 : (((rd_T33 l0_2 x30_2).f0) != a0_0) = false := bne_eq_false_iff_eq.mpr c19
            clear c19
            have HC20 := Aside0.mk H
            clear H
            have p110 : 0 ≤ (x30_2 : Int) := of_decide_eq_true (by first | (with_reducible assumption) | assumption)
            have q110 : x30_2 < (l0_2.length : Int) := of_decide_eq_true (by first | (with_reducible assumption) | assumption)
            obtain ⟨ad110, e110, hx110_0, hx110_1, hx110_2, hx110_3, hx110_4, hx110_5, hx110_6, hx110_7, hx110_8, hx110_9⟩ := at_T33 HR0_2.out x30_2 p110 q110
            cases e110
            replace hx110_0 := (HB.out.cell (World.block_lt_of_cell? w _ hx110_0)).trans hx110_0
            replace hx110_1 := (HB.out.cell (World.block_lt_of_cell? w _ hx110_1)).trans hx110_1
            replace hx110_2 := (HB.out.cell (World.block_lt_of_cell? w _ hx110_2)).trans hx110_2
            replace hx110_3 := (HB.out.cell (World.block_lt_of_cell? w _ hx110_3)).trans hx110_3
            replace hx110_4 := (HB.out.cell (World.block_lt_of_cell? w _ hx110_4)).trans hx110_4
            replace hx110_5 := (HB.out.cell (World.block_lt_of_cell? w _ hx110_5)).trans hx110_5
            replace hx110_6 := (HB.out.cell (World.block_lt_of_cell? w _ hx110_6)).trans hx110_6
            replace hx110_7 := (HB.out.cell (World.block_lt_of_cell? w _ hx110_7)).trans hx110_7
            replace hx110_8 := (HB.out.cell (World.block_lt_of_cell? w _ hx110_8)).trans hx110_8
            replace hx110_9 := (HB.out.cell (World.block_lt_of_cell? w _ hx110_9)).trans hx110_9
            replace p110 := eq_true p110
            replace q110 := eq_true q110
            go_upto_region 13 with (first | ((with_reducible refine gqD (N := 4) rfl ?_); refine box_event ?hg (N := 4) ?hd (cs := #[.int .i64 0, .int .i64 0, .int .i64 0, .int .i64 0, .int .i64 0, .int .i64 0, .int .i64 0, .int .i64 0, .int .i64 0, .int .i64 0]) (t := 33) ?hr ?_; (case hd => rfl); (case hg => rfl); (case hr => first | (go_simp; done) | (go_simp; rfl)); intro gb111 hg w21 hbox hb; have n0_ := Aside0.mk (bqB (GS.bqX BK108.out) hb); have n1_ := Aside0.mk (lqT (by repeat (first | (with_reducible first | exact HB.out | apply lqA | apply lqN | apply lqD | refine lqS ?_ GE108.out) | exact HB.out)) hb); have n2_ := Aside0.mk (hbox); have n3_ := Aside0.mk ((by rw [hg]; exact (lqZ (by repeat (first | (with_reducible first | exact HB.out | apply lqA | apply lqN | apply lqD | refine lqS ?_ GE108.out) | exact HB.out))) : w.heap.size ≤ gb111)); have n4_ := Aside0.mk ((by rw [hg]; exact (lqZ (by repeat (first | (with_reducible first | exact HB.out | apply lqA | apply lqN | apply lqD | refine lqS ?_ GE108.out) | exact HB.out))) : w.heap.size ≤ gb111)); have n5_ := Aside0.mk ((by rw [hg]; exact Nat.ne_of_lt (blk_lt (GS.bqX BK108.out)) : gb108 ≠ gb111)); have n6_ := Aside0.mk ((by rw [hg]; exact Nat.ne_of_gt (blk_lt (GS.bqX BK108.out)) : gb111 ≠ gb108)); clear BK108; clear HB; have BK108 := n0_; have HB := n1_; have BK111 := n2_; have GW111 := n3_; have GE111 := n4_; have NB108_111 := n5_; have NB111_108 := n6_; clear n0_ n1_ n2_ n3_ n4_ n5_ n6_; clear hb hbox hg; have hnb22 := NB111_108.out; have hnc22 := NB108_111.out; have hcz23_0 : w21.cell? ⟨gb111, 0, none⟩ = some (.int .i64 0) := (bqC BK111.out 0).trans rfl; have hcz23_1 : w21.cell? ⟨gb111, 1, none⟩ = some (.int .i64 0) := (bqC BK111.out 1).trans rfl; have hcz23_2 : w21.cell? ⟨gb111, 2, none⟩ = some (.int .i64 0) := (bqC BK111.out 2).trans rfl; have hcz23_3 : w21.cell? ⟨gb111, 3, none⟩ = some (.int .i64 0) := (bqC BK111.out 3).trans rfl; have hcz23_4 : w21.cell? ⟨gb111, 4, none⟩ = some (.int .i64 0) := (bqC BK111.out 4).trans rfl; have hcz23_5 : w21.cell? ⟨gb111, 5, none⟩ = some (.int .i64 0) := (bqC BK111.out 5).trans rfl; have hcz23_6 : w21.cell? ⟨gb111, 6, none⟩ = some (.int .i64 0) := (bqC BK111.out 6).trans rfl; have hcz23_7 : w21.cell? ⟨gb111, 7, none⟩ = some (.int .i64 0) := (bqC BK111.out 7).trans rfl; have hcz23_8 : w21.cell? ⟨gb111, 8, none⟩ = some (.int .i64 0) := (bqC BK111.out 8).trans rfl; have hcz23_9 : w21.cell? ⟨gb111, 9, none⟩ = some (.int .i64 0) := (bqC BK111.out 9).trans rfl; have hfz23_0 := bqF BK111.out 0; have hfz23_1 := bqF BK111.out 1; have hfz23_2 := bqF BK111.out 2; have hfz23_3 := bqF BK111.out 3; have hfz23_4 := bqF BK111.out 4; have hfz23_5 := bqF BK111.out 5; have hfz23_6 := bqF BK111.out 6; have hfz23_7 := bqF BK111.out 7; have hfz23_8 := bqF BK111.out 8; have hfz23_9 := bqF BK111.out 9) | ((with_reducible refine gqD (N := 37) rfl ?_); refine Kd.R_lit k33 _ 33 ?hg (N := 37) ?hd (xs := ([(⟨(rd_T33 l0_2 x30_2).f0, (rd_T33 l0_2 x30_2).f1, (rd_T33 l0_2 x30_2).f2, (⟨(rd_T33 l0_2 x30_2).f3.f0, (rd_T33 l0_2 x30_2).f3.f1, (rd_T33 l0_2 x30_2).f3.f2, (rd_T33 l0_2 x30_2).f3.f3, (rd_T33 l0_2 x30_2).f3.f4, (rd_T33 l0_2 x30_2).f3.f5, (rd_T33 l0_2 x30_2).f3.f6⟩ : S26)⟩ : S33)] : List (S33))) (inner := [.int .i64 ((rd_T33 l0_2 x30_2).f0), .int .i64 ((rd_T33 l0_2 x30_2).f1), .int .i64 ((rd_T33 l0_2 x30_2).f2), .int .i64 ((rd_T33 l0_2 x30_2).f3.f0), .int .i64 ((rd_T33 l0_2 x30_2).f3.f1), .int .i64 ((rd_T33 l0_2 x30_2).f3.f2), .int .i64 ((rd_T33 l0_2 x30_2).f3.f3), .int .i64 ((rd_T33 l0_2 x30_2).f3.f4), .int .i64 ((rd_T33 l0_2 x30_2).f3.f5), .int .i64 ((rd_T33 l0_2 x30_2).f3.f6)]) (ok := fun _ => True) (okp := fun _ => True) ?hr ?hp (fun _ hk => hk) trivial (Below.refl _ _) (Nat.le_refl _) (by simp) ?_; (case hd => rfl); (case hg => rfl); (case hr => first | (go_simp; done) | (go_simp; rfl)); (case hp => exact (Reps.c10 (show Kd.M k33 _ _ _ (⟨(rd_T33 l0_2 x30_2).f0, (rd_T33 l0_2 x30_2).f1, (rd_T33 l0_2 x30_2).f2, (⟨(rd_T33 l0_2 x30_2).f3.f0, (rd_T33 l0_2 x30_2).f3.f1, (rd_T33 l0_2 x30_2).f3.f2, (rd_T33 l0_2 x30_2).f3.f3, (rd_T33 l0_2 x30_2).f3.f4, (rd_T33 l0_2 x30_2).f3.f5, (rd_T33 l0_2 x30_2).f3.f6⟩ : S26)⟩ : S33) [.int .i64 ((rd_T33 l0_2 x30_2).f0), .int .i64 ((rd_T33 l0_2 x30_2).f1), .int .i64 ((rd_T33 l0_2 x30_2).f2), .int .i64 ((rd_T33 l0_2 x30_2).f3.f0), .int .i64 ((rd_T33 l0_2 x30_2).f3.f1), .int .i64 ((rd_T33 l0_2 x30_2).f3.f2), .int .i64 ((rd_T33 l0_2 x30_2).f3.f3), .int .i64 ((rd_T33 l0_2 x30_2).f3.f4), .int .i64 ((rd_T33 l0_2 x30_2).f3.f5), .int .i64 ((rd_T33 l0_2 x30_2).f3.f6)] from (k33_mkM _ _ _ (⟨(rd_T33 l0_2 x30_2).f0, (rd_T33 l0_2 x30_2).f1, (rd_T33 l0_2 x30_2).f2, (⟨(rd_T33 l0_2 x30_2).f3.f0, (rd_T33 l0_2 x30_2).f3.f1, (rd_T33 l0_2 x30_2).f3.f2, (rd_T33 l0_2 x30_2).f3.f3, (rd_T33 l0_2 x30_2).f3.f4, (rd_T33 l0_2 x30_2).f3.f5, (rd_T33 l0_2 x30_2).f3.f6⟩ : S26)⟩ : S33) )) (Reps.none _ _))); intro v113 w24 ho25 hb hg_ hnew_; clear hg_ hnew_; (first | rw [← Ny112.out] at ho25 | (simp only [Int.reduceToNat] at ho25; rw [← Ny112.out] at ho25)); have n0_ := Aside0.mk (Kd.R_lower (Kd.R_newB ho25 (g := gb111) (o := .cells #[.int .i64 ((rd_T33 l0_2 x30_2).f0), .int .i64 ((rd_T33 l0_2 x30_2).f1), .int .i64 ((rd_T33 l0_2 x30_2).f2), .int .i64 ((rd_T33 l0_2 x30_2).f3.f0), .int .i64 ((rd_T33 l0_2 x30_2).f3.f1), .int .i64 ((rd_T33 l0_2 x30_2).f3.f2), .int .i64 ((rd_T33 l0_2 x30_2).f3.f3), .int .i64 ((rd_T33 l0_2 x30_2).f3.f4), .int .i64 ((rd_T33 l0_2 x30_2).f3.f5), .int .i64 ((rd_T33 l0_2 x30_2).f3.f6)] 33 (0, 0)) (GS.bqZ BK111.out)) (lqZ (by repeat (first | (with_reducible first | exact HB.out | apply lqA | apply lqN | apply lqD | refine lqS ?_ GE108.out | refine lqS ?_ GE111.out) | exact HB.out)))); have n1_ := Aside0.mk (bqB (GS.bqX BK108.out) hb); have n2_ := Aside0.mk (bqB (g := gb111) (o := .cells #[.int .i64 ((rd_T33 l0_2 x30_2).f0), .int .i64 ((rd_T33 l0_2 x30_2).f1), .int .i64 ((rd_T33 l0_2 x30_2).f2), .int .i64 ((rd_T33 l0_2 x30_2).f3.f0), .int .i64 ((rd_T33 l0_2 x30_2).f3.f1), .int .i64 ((rd_T33 l0_2 x30_2).f3.f2), .int .i64 ((rd_T33 l0_2 x30_2).f3.f3), .int .i64 ((rd_T33 l0_2 x30_2).f3.f4), .int .i64 ((rd_T33 l0_2 x30_2).f3.f5), .int .i64 ((rd_T33 l0_2 x30_2).f3.f6)] 33 (0, 0)) (GS.bqZ BK111.out) hb); have n3_ := Aside0.mk (lqT (by repeat (first | (with_reducible first | exact HB.out | apply lqA | apply lqN | apply lqD | refine lqS ?_ GE108.out | refine lqS ?_ GE111.out) | exact HB.out)) hb); clear BK108; clear BK111; clear HB; have HO114 := n0_; have BK108 := n1_; have BK111 := n2_; have HB := n3_; clear n0_ n1_ n2_ n3_; clear hb ho25; obtain ⟨Ao26, co26, eo26⟩ := Kd.R_slice HO114.out; subst eo26) | (go_at_call 45; (with_reducible refine (network_Check.calls k2 _ _ y112 t115 t116 _ ?side1 ?side2 A17.out).mono ?_); (case side1 => repeat (first | exact (Kd.R_reads' HO114.out).2.2 | (with_reducible refine Kd.C_alloc ?_ _) | (with_reducible refine Kd.C_drewN ?_ _) | (with_reducible refine Kd.C_drew ?_))); (case side2 => exact (Kd.R_reads' HO114.out).2.1); rintro e w27 ⟨rfl, hb⟩; have n0_ := Aside0.mk (Kd.R_below (by (with_reducible repeat (first | apply Kd.R_alloc | apply Kd.R_drewN | apply Kd.R_drew)); exact HO114.out) hb); have n1_ := Aside0.mk (bqB (GS.bqX BK108.out) hb); have n2_ := Aside0.mk (bqB (GS.bqX BK111.out) hb); have n3_ := Aside0.mk (lqT (by repeat (first | (with_reducible first | exact HB.out | apply lqA | apply lqN | apply lqD | refine lqS ?_ GE108.out | refine lqS ?_ GE111.out) | exact HB.out)) hb); clear HO114; clear BK108; clear BK111; clear HB; have HO114 := n0_; have BK108 := n1_; have BK111 := n2_; have HB := n3_; clear n0_ n1_ n2_ n3_; (try clear hb); (try clear hb2); (try clear hk); (try clear hi); have hcz28_0 : w27.cell? ⟨gb111, 0, none⟩ = some (.int .i64 ((rd_T33 l0_2 x30_2).f0)) := (bqC BK111.out 0).trans rfl; have hcz28_1 : w27.cell? ⟨gb111, 1, none⟩ = some (.int .i64 ((rd_T33 l0_2 x30_2).f1)) := (bqC BK111.out 1).trans rfl; have hcz28_2 : w27.cell? ⟨gb111, 2, none⟩ = some (.int .i64 ((rd_T33 l0_2 x30_2).f2)) := (bqC BK111.out 2).trans rfl; have hcz28_3 : w27.cell? ⟨gb111, 3, none⟩ = some (.int .i64 ((rd_T33 l0_2 x30_2).f3.f0)) := (bqC BK111.out 3).trans rfl; have hcz28_4 : w27.cell? ⟨gb111, 4, none⟩ = some (.int .i64 ((rd_T33 l0_2 x30_2).f3.f1)) := (bqC BK111.out 4).trans rfl; have hcz28_5 : w27.cell? ⟨gb111, 5, none⟩ = some (.int .i64 ((rd_T33 l0_2 x30_2).f3.f2)) := (bqC BK111.out 5).trans rfl; have hcz28_6 : w27.cell? ⟨gb111, 6, none⟩ = some (.int .i64 ((rd_T33 l0_2 x30_2).f3.f3)) := (bqC BK111.out 6).trans rfl; have hcz28_7 : w27.cell? ⟨gb111, 7, none⟩ = some (.int .i64 ((rd_T33 l0_2 x30_2).f3.f4)) := (bqC BK111.out 7).trans rfl; have hcz28_8 : w27.cell? ⟨gb111, 8, none⟩ = some (.int .i64 ((rd_T33 l0_2 x30_2).f3.f5)) := (bqC BK111.out 8).trans rfl; have hcz28_9 : w27.cell? ⟨gb111, 9, none⟩ = some (.int .i64 ((rd_T33 l0_2 x30_2).f3.f6)) := (bqC BK111.out 9).trans rfl; have hfz28_0 := bqF BK111.out 0; have hfz28_1 := bqF BK111.out 1; have hfz28_2 := bqF BK111.out 2; have hfz28_3 := bqF BK111.out 3; have hfz28_4 := bqF BK111.out 4; have hfz28_5 := bqF BK111.out 5; have hfz28_6 := bqF BK111.out 6; have hfz28_7 := bqF BK111.out 7; have hfz28_8 := bqF BK111.out 8; have hfz28_9 := bqF BK111.out 9; have hcz29_0 : w27.cell? ⟨gb108, 0, none⟩ = some (.int .i64 a0_0) := (bqC BK108.out 0).trans rfl; have hcz29_1 : w27.cell? ⟨gb108, 1, none⟩ = some (.int .i64 a0_1) := (bqC BK108.out 1).trans rfl; have hcz29_2 : w27.cell? ⟨gb108, 2, none⟩ = some (.slice (some ad110) l0_2.length c0_2) := (bqC BK108.out 2).trans rfl; have hfz29_0 := bqF BK108.out 0; have hfz29_1 := bqF BK108.out 1; have hfz29_2 := bqF BK108.out 2))
            repeat (go_quiet (first | ((with_reducible refine gqD (N := 4) rfl ?_); refine box_event ?hg (N := 4) ?hd (cs := #[.int .i64 0, .int .i64 0, .int .i64 0, .int .i64 0, .int .i64 0, .int .i64 0, .int .i64 0, .int .i64 0, .int .i64 0, .int .i64 0]) (t := 33) ?hr ?_; (case hd => rfl); (case hg => rfl); (case hr => first | (go_simp; done) | (go_simp; rfl)); intro gb111 hg w21 hbox hb; have n0_ := Aside0.mk (bqB (GS.bqX BK108.out) hb); have n1_ := Aside0.mk (lqT (by repeat (first | (with_reducible first | exact HB.out | apply lqA | apply lqN | apply lqD | refine lqS ?_ GE108.out) | exact HB.out)) hb); have n2_ := Aside0.mk (hbox); have n3_ := Aside0.mk ((by rw [hg]; exact (lqZ (by repeat (first | (with_reducible first | exact HB.out | apply lqA | apply lqN | apply lqD | refine lqS ?_ GE108.out) | exact HB.out))) : w.heap.size ≤ gb111)); have n4_ := Aside0.mk ((by rw [hg]; exact (lqZ (by repeat (first | (with_reducible first | exact HB.out | apply lqA | apply lqN | apply lqD | refine lqS ?_ GE108.out) | exact HB.out))) : w.heap.size ≤ gb111)); have n5_ := Aside0.mk ((by rw [hg]; exact Nat.ne_of_lt (blk_lt (GS.bqX BK108.out)) : gb108 ≠ gb111)); have n6_ := Aside0.mk ((by rw [hg]; exact Nat.ne_of_gt (blk_lt (GS.bqX BK108.out)) : gb111 ≠ gb108)); clear BK108; clear HB; have BK108 := n0_; have HB := n1_; have BK111 := n2_; have GW111 := n3_; have GE111 := n4_; have NB108_111 := n5_; have NB111_108 := n6_; clear n0_ n1_ n2_ n3_ n4_ n5_ n6_; clear hb hbox hg; have hnb22 := NB111_108.out; have hnc22 := NB108_111.out; have hcz23_0 : w21.cell? ⟨gb111, 0, none⟩ = some (.int .i64 0) := (bqC BK111.out 0).trans rfl; have hcz23_1 : w21.cell? ⟨gb111, 1, none⟩ = some (.int .i64 0) := (bqC BK111.out 1).trans rfl; have hcz23_2 : w21.cell? ⟨gb111, 2, none⟩ = some (.int .i64 0) := (bqC BK111.out 2).trans rfl; have hcz23_3 : w21.cell? ⟨gb111, 3, none⟩ = some (.int .i64 0) := (bqC BK111.out 3).trans rfl; have hcz23_4 : w21.cell? ⟨gb111, 4, none⟩ = some (.int .i64 0) := (bqC BK111.out 4).trans rfl; have hcz23_5 : w21.cell? ⟨gb111, 5, none⟩ = some (.int .i64 0) := (bqC BK111.out 5).trans rfl; have hcz23_6 : w21.cell? ⟨gb111, 6, none⟩ = some (.int .i64 0) := (bqC BK111.out 6).trans rfl; have hcz23_7 : w21.cell? ⟨gb111, 7, none⟩ = some (.int .i64 0) := (bqC BK111.out 7).trans rfl; have hcz23_8 : w21.cell? ⟨gb111, 8, none⟩ = some (.int .i64 0) := (bqC BK111.out 8).trans rfl; have hcz23_9 : w21.cell? ⟨gb111, 9, none⟩ = some (.int .i64 0) := (bqC BK111.out 9).trans rfl; have hfz23_0 := bqF BK111.out 0; have hfz23_1 := bqF BK111.out 1; have hfz23_2 := bqF BK111.out 2; have hfz23_3 := bqF BK111.out 3; have hfz23_4 := bqF BK111.out 4; have hfz23_5 := bqF BK111.out 5; have hfz23_6 := bqF BK111.out 6; have hfz23_7 := bqF BK111.out 7; have hfz23_8 := bqF BK111.out 8; have hfz23_9 := bqF BK111.out 9) | ((with_reducible refine gqD (N := 37) rfl ?_); refine Kd.R_lit k33 _ 33 ?hg (N := 37) ?hd (xs := ([(⟨(rd_T33 l0_2 x30_2).f0, (rd_T33 l0_2 x30_2).f1, (rd_T33 l0_2 x30_2).f2, (⟨(rd_T33 l0_2 x30_2).f3.f0, (rd_T33 l0_2 x30_2).f3.f1, (rd_T33 l0_2 x30_2).f3.f2, (rd_T33 l0_2 x30_2).f3.f3, (rd_T33 l0_2 x30_2).f3.f4, (rd_T33 l0_2 x30_2).f3.f5, (rd_T33 l0_2 x30_2).f3.f6⟩ : S26)⟩ : S33)] : List (S33))) (inner := [.int .i64 ((rd_T33 l0_2 x30_2).f0), .int .i64 ((rd_T33 l0_2 x30_2).f1), .int .i64 ((rd_T33 l0_2 x30_2).f2), .int .i64 ((rd_T33 l0_2 x30_2).f3.f0), .int .i64 ((rd_T33 l0_2 x30_2).f3.f1), .int .i64 ((rd_T33 l0_2 x30_2).f3.f2), .int .i64 ((rd_T33 l0_2 x30_2).f3.f3), .int .i64 ((rd_T33 l0_2 x30_2).f3.f4), .int .i64 ((rd_T33 l0_2 x30_2).f3.f5), .int .i64 ((rd_T33 l0_2 x30_2).f3.f6)]) (ok := fun _ => True) (okp := fun _ => True) ?hr ?hp (fun _ hk => hk) trivial (Below.refl _ _) (Nat.le_refl _) (by simp) ?_; (case hd => rfl); (case hg => rfl); (case hr => first | (go_simp; done) | (go_simp; rfl)); (case hp => exact (Reps.c10 (show Kd.M k33 _ _ _ (⟨(rd_T33 l0_2 x30_2).f0, (rd_T33 l0_2 x30_2).f1, (rd_T33 l0_2 x30_2).f2, (⟨(rd_T33 l0_2 x30_2).f3.f0, (rd_T33 l0_2 x30_2).f3.f1, (rd_T33 l0_2 x30_2).f3.f2, (rd_T33 l0_2 x30_2).f3.f3, (rd_T33 l0_2 x30_2).f3.f4, (rd_T33 l0_2 x30_2).f3.f5, (rd_T33 l0_2 x30_2).f3.f6⟩ : S26)⟩ : S33) [.int .i64 ((rd_T33 l0_2 x30_2).f0), .int .i64 ((rd_T33 l0_2 x30_2).f1), .int .i64 ((rd_T33 l0_2 x30_2).f2), .int .i64 ((rd_T33 l0_2 x30_2).f3.f0), .int .i64 ((rd_T33 l0_2 x30_2).f3.f1), .int .i64 ((rd_T33 l0_2 x30_2).f3.f2), .int .i64 ((rd_T33 l0_2 x30_2).f3.f3), .int .i64 ((rd_T33 l0_2 x30_2).f3.f4), .int .i64 ((rd_T33 l0_2 x30_2).f3.f5), .int .i64 ((rd_T33 l0_2 x30_2).f3.f6)] from (k33_mkM _ _ _ (⟨(rd_T33 l0_2 x30_2).f0, (rd_T33 l0_2 x30_2).f1, (rd_T33 l0_2 x30_2).f2, (⟨(rd_T33 l0_2 x30_2).f3.f0, (rd_T33 l0_2 x30_2).f3.f1, (rd_T33 l0_2 x30_2).f3.f2, (rd_T33 l0_2 x30_2).f3.f3, (rd_T33 l0_2 x30_2).f3.f4, (rd_T33 l0_2 x30_2).f3.f5, (rd_T33 l0_2 x30_2).f3.f6⟩ : S26)⟩ : S33) )) (Reps.none _ _))); intro v113 w24 ho25 hb hg_ hnew_; clear hg_ hnew_; (first | rw [← Ny112.out] at ho25 | (simp only [Int.reduceToNat] at ho25; rw [← Ny112.out] at ho25)); have n0_ := Aside0.mk (Kd.R_lower (Kd.R_newB ho25 (g := gb111) (o := .cells #[.int .i64 ((rd_T33 l0_2 x30_2).f0), .int .i64 ((rd_T33 l0_2 x30_2).f1), .int .i64 ((rd_T33 l0_2 x30_2).f2), .int .i64 ((rd_T33 l0_2 x30_2).f3.f0), .int .i64 ((rd_T33 l0_2 x30_2).f3.f1), .int .i64 ((rd_T33 l0_2 x30_2).f3.f2), .int .i64 ((rd_T33 l0_2 x30_2).f3.f3), .int .i64 ((rd_T33 l0_2 x30_2).f3.f4), .int .i64 ((rd_T33 l0_2 x30_2).f3.f5), .int .i64 ((rd_T33 l0_2 x30_2).f3.f6)] 33 (0, 0)) (GS.bqZ BK111.out)) (lqZ (by repeat (first | (with_reducible first | exact HB.out | apply lqA | apply lqN | apply lqD | refine lqS ?_ GE108.out | refine lqS ?_ GE111.out) | exact HB.out)))); have n1_ := Aside0.mk (bqB (GS.bqX BK108.out) hb); have n2_ := Aside0.mk (bqB (g := gb111) (o := .cells #[.int .i64 ((rd_T33 l0_2 x30_2).f0), .int .i64 ((rd_T33 l0_2 x30_2).f1), .int .i64 ((rd_T33 l0_2 x30_2).f2), .int .i64 ((rd_T33 l0_2 x30_2).f3.f0), .int .i64 ((rd_T33 l0_2 x30_2).f3.f1), .int .i64 ((rd_T33 l0_2 x30_2).f3.f2), .int .i64 ((rd_T33 l0_2 x30_2).f3.f3), .int .i64 ((rd_T33 l0_2 x30_2).f3.f4), .int .i64 ((rd_T33 l0_2 x30_2).f3.f5), .int .i64 ((rd_T33 l0_2 x30_2).f3.f6)] 33 (0, 0)) (GS.bqZ BK111.out) hb); have n3_ := Aside0.mk (lqT (by repeat (first | (with_reducible first | exact HB.out | apply lqA | apply lqN | apply lqD | refine lqS ?_ GE108.out | refine lqS ?_ GE111.out) | exact HB.out)) hb); clear BK108; clear BK111; clear HB; have HO114 := n0_; have BK108 := n1_; have BK111 := n2_; have HB := n3_; clear n0_ n1_ n2_ n3_; clear hb ho25; obtain ⟨Ao26, co26, eo26⟩ := Kd.R_slice HO114.out; subst eo26) | (go_at_call 45; (with_reducible refine (network_Check.calls k2 _ _ y112 t115 t116 _ ?side1 ?side2 A17.out).mono ?_); (case side1 => repeat (first | exact (Kd.R_reads' HO114.out).2.2 | (with_reducible refine Kd.C_alloc ?_ _) | (with_reducible refine Kd.C_drewN ?_ _) | (with_reducible refine Kd.C_drew ?_))); (case side2 => exact (Kd.R_reads' HO114.out).2.1); rintro e w27 ⟨rfl, hb⟩; have n0_ := Aside0.mk (Kd.R_below (by (with_reducible repeat (first | apply Kd.R_alloc | apply Kd.R_drewN | apply Kd.R_drew)); exact HO114.out) hb); have n1_ := Aside0.mk (bqB (GS.bqX BK108.out) hb); have n2_ := Aside0.mk (bqB (GS.bqX BK111.out) hb); have n3_ := Aside0.mk (lqT (by repeat (first | (with_reducible first | exact HB.out | apply lqA | apply lqN | apply lqD | refine lqS ?_ GE108.out | refine lqS ?_ GE111.out) | exact HB.out)) hb); clear HO114; clear BK108; clear BK111; clear HB; have HO114 := n0_; have BK108 := n1_; have BK111 := n2_; have HB := n3_; clear n0_ n1_ n2_ n3_; (try clear hb); (try clear hb2); (try clear hk); (try clear hi); have hcz28_0 : w27.cell? ⟨gb111, 0, none⟩ = some (.int .i64 ((rd_T33 l0_2 x30_2).f0)) := (bqC BK111.out 0).trans rfl; have hcz28_1 : w27.cell? ⟨gb111, 1, none⟩ = some (.int .i64 ((rd_T33 l0_2 x30_2).f1)) := (bqC BK111.out 1).trans rfl; have hcz28_2 : w27.cell? ⟨gb111, 2, none⟩ = some (.int .i64 ((rd_T33 l0_2 x30_2).f2)) := (bqC BK111.out 2).trans rfl; have hcz28_3 : w27.cell? ⟨gb111, 3, none⟩ = some (.int .i64 ((rd_T33 l0_2 x30_2).f3.f0)) := (bqC BK111.out 3).trans rfl; have hcz28_4 : w27.cell? ⟨gb111, 4, none⟩ = some (.int .i64 ((rd_T33 l0_2 x30_2).f3.f1)) := (bqC BK111.out 4).trans rfl; have hcz28_5 : w27.cell? ⟨gb111, 5, none⟩ = some (.int .i64 ((rd_T33 l0_2 x30_2).f3.f2)) := (bqC BK111.out 5).trans rfl; have hcz28_6 : w27.cell? ⟨gb111, 6, none⟩ = some (.int .i64 ((rd_T33 l0_2 x30_2).f3.f3)) := (bqC BK111.out 6).trans rfl; have hcz28_7 : w27.cell? ⟨gb111, 7, none⟩ = some (.int .i64 ((rd_T33 l0_2 x30_2).f3.f4)) := (bqC BK111.out 7).trans rfl; have hcz28_8 : w27.cell? ⟨gb111, 8, none⟩ = some (.int .i64 ((rd_T33 l0_2 x30_2).f3.f5)) := (bqC BK111.out 8).trans rfl; have hcz28_9 : w27.cell? ⟨gb111, 9, none⟩ = some (.int .i64 ((rd_T33 l0_2 x30_2).f3.f6)) := (bqC BK111.out 9).trans rfl; have hfz28_0 := bqF BK111.out 0; have hfz28_1 := bqF BK111.out 1; have hfz28_2 := bqF BK111.out 2; have hfz28_3 := bqF BK111.out 3; have hfz28_4 := bqF BK111.out 4; have hfz28_5 := bqF BK111.out 5; have hfz28_6 := bqF BK111.out 6; have hfz28_7 := bqF BK111.out 7; have hfz28_8 := bqF BK111.out 8; have hfz28_9 := bqF BK111.out 9; have hcz29_0 : w27.cell? ⟨gb108, 0, none⟩ = some (.int .i64 a0_0) := (bqC BK108.out 0).trans rfl; have hcz29_1 : w27.cell? ⟨gb108, 1, none⟩ = some (.int .i64 a0_1) := (bqC BK108.out 1).trans rfl; have hcz29_2 : w27.cell? ⟨gb108, 2, none⟩ = some (.slice (some ad110) l0_2.length c0_2) := (bqC BK108.out 2).trans rfl; have hfz29_0 := bqF BK108.out 0; have hfz29_1 := bqF BK108.out 1; have hfz29_2 := bqF BK108.out 2)); go_upto_region 13 with (first | ((with_reducible refine gqD (N := 4) rfl ?_); refine box_event ?hg (N := 4) ?hd (cs := #[.int .i64 0, .int .i64 0, .int .i64 0, .int .i64 0, .int .i64 0, .int .i64 0, .int .i64 0, .int .i64 0, .int .i64 0, .int .i64 0]) (t := 33) ?hr ?_; (case hd => rfl); (case hg => rfl); (case hr => first | (go_simp; done) | (go_simp; rfl)); intro gb111 hg w21 hbox hb; have n0_ := Aside0.mk (bqB (GS.bqX BK108.out) hb); have n1_ := Aside0.mk (lqT (by repeat (first | (with_reducible first | exact HB.out | apply lqA | apply lqN | apply lqD | refine lqS ?_ GE108.out) | exact HB.out)) hb); have n2_ := Aside0.mk (hbox); have n3_ := Aside0.mk ((by rw [hg]; exact (lqZ (by repeat (first | (with_reducible first | exact HB.out | apply lqA | apply lqN | apply lqD | refine lqS ?_ GE108.out) | exact HB.out))) : w.heap.size ≤ gb111)); have n4_ := Aside0.mk ((by rw [hg]; exact (lqZ (by repeat (first | (with_reducible first | exact HB.out | apply lqA | apply lqN | apply lqD | refine lqS ?_ GE108.out) | exact HB.out))) : w.heap.size ≤ gb111)); have n5_ := Aside0.mk ((by rw [hg]; exact Nat.ne_of_lt (blk_lt (GS.bqX BK108.out)) : gb108 ≠ gb111)); have n6_ := Aside0.mk ((by rw [hg]; exact Nat.ne_of_gt (blk_lt (GS.bqX BK108.out)) : gb111 ≠ gb108)); clear BK108; clear HB; have BK108 := n0_; have HB := n1_; have BK111 := n2_; have GW111 := n3_; have GE111 := n4_; have NB108_111 := n5_; have NB111_108 := n6_; clear n0_ n1_ n2_ n3_ n4_ n5_ n6_; clear hb hbox hg; have hnb22 := NB111_108.out; have hnc22 := NB108_111.out; have hcz23_0 : w21.cell? ⟨gb111, 0, none⟩ = some (.int .i64 0) := (bqC BK111.out 0).trans rfl; have hcz23_1 : w21.cell? ⟨gb111, 1, none⟩ = some (.int .i64 0) := (bqC BK111.out 1).trans rfl; have hcz23_2 : w21.cell? ⟨gb111, 2, none⟩ = some (.int .i64 0) := (bqC BK111.out 2).trans rfl; have hcz23_3 : w21.cell? ⟨gb111, 3, none⟩ = some (.int .i64 0) := (bqC BK111.out 3).trans rfl; have hcz23_4 : w21.cell? ⟨gb111, 4, none⟩ = some (.int .i64 0) := (bqC BK111.out 4).trans rfl; have hcz23_5 : w21.cell? ⟨gb111, 5, none⟩ = some (.int .i64 0) := (bqC BK111.out 5).trans rfl; have hcz23_6 : w21.cell? ⟨gb111, 6, none⟩ = some (.int .i64 0) := (bqC BK111.out 6).trans rfl; have hcz23_7 : w21.cell? ⟨gb111, 7, none⟩ = some (.int .i64 0) := (bqC BK111.out 7).trans rfl; have hcz23_8 : w21.cell? ⟨gb111, 8, none⟩ = some (.int .i64 0) := (bqC BK111.out 8).trans rfl; have hcz23_9 : w21.cell? ⟨gb111, 9, none⟩ = some (.int .i64 0) := (bqC BK111.out 9).trans rfl; have hfz23_0 := bqF BK111.out 0; have hfz23_1 := bqF BK111.out 1; have hfz23_2 := bqF BK111.out 2; have hfz23_3 := bqF BK111.out 3; have hfz23_4 := bqF BK111.out 4; have hfz23_5 := bqF BK111.out 5; have hfz23_6 := bqF BK111.out 6; have hfz23_7 := bqF BK111.out 7; have hfz23_8 := bqF BK111.out 8; have hfz23_9 := bqF BK111.out 9) | ((with_reducible refine gqD (N := 37) rfl ?_); refine Kd.R_lit k33 _ 33 ?hg (N := 37) ?hd (xs := ([(⟨(rd_T33 l0_2 x30_2).f0, (rd_T33 l0_2 x30_2).f1, (rd_T33 l0_2 x30_2).f2, (⟨(rd_T33 l0_2 x30_2).f3.f0, (rd_T33 l0_2 x30_2).f3.f1, (rd_T33 l0_2 x30_2).f3.f2, (rd_T33 l0_2 x30_2).f3.f3, (rd_T33 l0_2 x30_2).f3.f4, (rd_T33 l0_2 x30_2).f3.f5, (rd_T33 l0_2 x30_2).f3.f6⟩ : S26)⟩ : S33)] : List (S33))) (inner := [.int .i64 ((rd_T33 l0_2 x30_2).f0), .int .i64 ((rd_T33 l0_2 x30_2).f1), .int .i64 ((rd_T33 l0_2 x30_2).f2), .int .i64 ((rd_T33 l0_2 x30_2).f3.f0), .int .i64 ((rd_T33 l0_2 x30_2).f3.f1), .int .i64 ((rd_T33 l0_2 x30_2).f3.f2), .int .i64 ((rd_T33 l0_2 x30_2).f3.f3), .int .i64 ((rd_T33 l0_2 x30_2).f3.f4), .int .i64 ((rd_T33 l0_2 x30_2).f3.f5), .int .i64 ((rd_T33 l0_2 x30_2).f3.f6)]) (ok := fun _ => True) (okp := fun _ => True) ?hr ?hp (fun _ hk => hk) trivial (Below.refl _ _) (Nat.le_refl _) (by simp) ?_; (case hd => rfl); (case hg => rfl); (case hr => first | (go_simp; done) | (go_simp; rfl)); (case hp => exact (Reps.c10 (show Kd.M k33 _ _ _ (⟨(rd_T33 l0_2 x30_2).f0, (rd_T33 l0_2 x30_2).f1, (rd_T33 l0_2 x30_2).f2, (⟨(rd_T33 l0_2 x30_2).f3.f0, (rd_T33 l0_2 x30_2).f3.f1, (rd_T33 l0_2 x30_2).f3.f2, (rd_T33 l0_2 x30_2).f3.f3, (rd_T33 l0_2 x30_2).f3.f4, (rd_T33 l0_2 x30_2).f3.f5, (rd_T33 l0_2 x30_2).f3.f6⟩ : S26)⟩ : S33) [.int .i64 ((rd_T33 l0_2 x30_2).f0), .int .i64 ((rd_T33 l0_2 x30_2).f1), .int .i64 ((rd_T33 l0_2 x30_2).f2), .int .i64 ((rd_T33 l0_2 x30_2).f3.f0), .int .i64 ((rd_T33 l0_2 x30_2).f3.f1), .int .i64 ((rd_T33 l0_2 x30_2).f3.f2), .int .i64 ((rd_T33 l0_2 x30_2).f3.f3), .int .i64 ((rd_T33 l0_2 x30_2).f3.f4), .int .i64 ((rd_T33 l0_2 x30_2).f3.f5), .int .i64 ((rd_T33 l0_2 x30_2).f3.f6)] from (k33_mkM _ _ _ (⟨(rd_T33 l0_2 x30_2).f0, (rd_T33 l0_2 x30_2).f1, (rd_T33 l0_2 x30_2).f2, (⟨(rd_T33 l0_2 x30_2).f3.f0, (rd_T33 l0_2 x30_2).f3.f1, (rd_T33 l0_2 x30_2).f3.f2, (rd_T33 l0_2 x30_2).f3.f3, (rd_T33 l0_2 x30_2).f3.f4, (rd_T33 l0_2 x30_2).f3.f5, (rd_T33 l0_2 x30_2).f3.f6⟩ : S26)⟩ : S33) )) (Reps.none _ _))); intro v113 w24 ho25 hb hg_ hnew_; clear hg_ hnew_; (first | rw [← Ny112.out] at ho25 | (simp only [Int.reduceToNat] at ho25; rw [← Ny112.out] at ho25)); have n0_ := Aside0.mk (Kd.R_lower (Kd.R_newB ho25 (g := gb111) (o := .cells #[.int .i64 ((rd_T33 l0_2 x30_2).f0), .int .i64 ((rd_T33 l0_2 x30_2).f1), .int .i64 ((rd_T33 l0_2 x30_2).f2), .int .i64 ((rd_T33 l0_2 x30_2).f3.f0), .int .i64 ((rd_T33 l0_2 x30_2).f3.f1), .int .i64 ((rd_T33 l0_2 x30_2).f3.f2), .int .i64 ((rd_T33 l0_2 x30_2).f3.f3), .int .i64 ((rd_T33 l0_2 x30_2).f3.f4), .int .i64 ((rd_T33 l0_2 x30_2).f3.f5), .int .i64 ((rd_T33 l0_2 x30_2).f3.f6)] 33 (0, 0)) (GS.bqZ BK111.out)) (lqZ (by repeat (first | (with_reducible first | exact HB.out | apply lqA | apply lqN | apply lqD | refine lqS ?_ GE108.out | refine lqS ?_ GE111.out) | exact HB.out)))); have n1_ := Aside0.mk (bqB (GS.bqX BK108.out) hb); have n2_ := Aside0.mk (bqB (g := gb111) (o := .cells #[.int .i64 ((rd_T33 l0_2 x30_2).f0), .int .i64 ((rd_T33 l0_2 x30_2).f1), .int .i64 ((rd_T33 l0_2 x30_2).f2), .int .i64 ((rd_T33 l0_2 x30_2).f3.f0), .int .i64 ((rd_T33 l0_2 x30_2).f3.f1), .int .i64 ((rd_T33 l0_2 x30_2).f3.f2), .int .i64 ((rd_T33 l0_2 x30_2).f3.f3), .int .i64 ((rd_T33 l0_2 x30_2).f3.f4), .int .i64 ((rd_T33 l0_2 x30_2).f3.f5), .int .i64 ((rd_T33 l0_2 x30_2).f3.f6)] 33 (0, 0)) (GS.bqZ BK111.out) hb); have n3_ := Aside0.mk (lqT (by repeat (first | (with_reducible first | exact HB.out | apply lqA | apply lqN | apply lqD | refine lqS ?_ GE108.out | refine lqS ?_ GE111.out) | exact HB.out)) hb); clear BK108; clear BK111; clear HB; have HO114 := n0_; have BK108 := n1_; have BK111 := n2_; have HB := n3_; clear n0_ n1_ n2_ n3_; clear hb ho25; obtain ⟨Ao26, co26, eo26⟩ := Kd.R_slice HO114.out; subst eo26) | (go_at_call 45; (with_reducible refine (network_Check.calls k2 _ _ y112 t115 t116 _ ?side1 ?side2 A17.out).mono ?_); (case side1 => repeat (first | exact (Kd.R_reads' HO114.out).2.2 | (with_reducible refine Kd.C_alloc ?_ _) | (with_reducible refine Kd.C_drewN ?_ _) | (with_reducible refine Kd.C_drew ?_))); (case side2 => exact (Kd.R_reads' HO114.out).2.1); rintro e w27 ⟨rfl, hb⟩; have n0_ := Aside0.mk (Kd.R_below (by (with_reducible repeat (first | apply Kd.R_alloc | apply Kd.R_drewN | apply Kd.R_drew)); exact HO114.out) hb); have n1_ := Aside0.mk (bqB (GS.bqX BK108.out) hb); have n2_ := Aside0.mk (bqB (GS.bqX BK111.out) hb); have n3_ := Aside0.mk (lqT (by repeat (first | (with_reducible first | exact HB.out | apply lqA | apply lqN | apply lqD | refine lqS ?_ GE108.out | refine lqS ?_ GE111.out) | exact HB.out)) hb); clear HO114; clear BK108; clear BK111; clear HB; have HO114 := n0_; have BK108 := n1_; have BK111 := n2_; have HB := n3_; clear n0_ n1_ n2_ n3_; (try clear hb); (try clear hb2); (try clear hk); (try clear hi); have hcz28_0 : w27.cell? ⟨gb111, 0, none⟩ = some (.int .i64 ((rd_T33 l0_2 x30_2).f0)) := (bqC BK111.out 0).trans rfl; have hcz28_1 : w27.cell? ⟨gb111, 1, none⟩ = some (.int .i64 ((rd_T33 l0_2 x30_2).f1)) := (bqC BK111.out 1).trans rfl; have hcz28_2 : w27.cell? ⟨gb111, 2, none⟩ = some (.int .i64 ((rd_T33 l0_2 x30_2).f2)) := (bqC BK111.out 2).trans rfl; have hcz28_3 : w27.cell? ⟨gb111, 3, none⟩ = some (.int .i64 ((rd_T33 l0_2 x30_2).f3.f0)) := (bqC BK111.out 3).trans rfl; have hcz28_4 : w27.cell? ⟨gb111, 4, none⟩ = some (.int .i64 ((rd_T33 l0_2 x30_2).f3.f1)) := (bqC BK111.out 4).trans rfl; have hcz28_5 : w27.cell? ⟨gb111, 5, none⟩ = some (.int .i64 ((rd_T33 l0_2 x30_2).f3.f2)) := (bqC BK111.out 5).trans rfl; have hcz28_6 : w27.cell? ⟨gb111, 6, none⟩ = some (.int .i64 ((rd_T33 l0_2 x30_2).f3.f3)) := (bqC BK111.out 6).trans rfl; have hcz28_7 : w27.cell? ⟨gb111, 7, none⟩ = some (.int .i64 ((rd_T33 l0_2 x30_2).f3.f4)) := (bqC BK111.out 7).trans rfl; have hcz28_8 : w27.cell? ⟨gb111, 8, none⟩ = some (.int .i64 ((rd_T33 l0_2 x30_2).f3.f5)) := (bqC BK111.out 8).trans rfl; have hcz28_9 : w27.cell? ⟨gb111, 9, none⟩ = some (.int .i64 ((rd_T33 l0_2 x30_2).f3.f6)) := (bqC BK111.out 9).trans rfl; have hfz28_0 := bqF BK111.out 0; have hfz28_1 := bqF BK111.out 1; have hfz28_2 := bqF BK111.out 2; have hfz28_3 := bqF BK111.out 3; have hfz28_4 := bqF BK111.out 4; have hfz28_5 := bqF BK111.out 5; have hfz28_6 := bqF BK111.out 6; have hfz28_7 := bqF BK111.out 7; have hfz28_8 := bqF BK111.out 8; have hfz28_9 := bqF BK111.out 9; have hcz29_0 : w27.cell? ⟨gb108, 0, none⟩ = some (.int .i64 a0_0) := (bqC BK108.out 0).trans rfl; have hcz29_1 : w27.cell? ⟨gb108, 1, none⟩ = some (.int .i64 a0_1) := (bqC BK108.out 1).trans rfl; have hcz29_2 : w27.cell? ⟨gb108, 2, none⟩ = some (.slice (some ad110) l0_2.length c0_2) := (bqC BK108.out 2).trans rfl; have hfz29_0 := bqF BK108.out 0; have hfz29_1 := bqF BK108.out 1; have hfz29_2 := bqF BK108.out 2)))
            (try simp only [Act.put, List.setIfInBounds_toArray, List.set_cons_zero, List.set_cons_succ])
            go_cut [51] (fun v51 wc => ∃ (kq : Nat) (x51_19 : Bool), v51 = .bool x51_19 ∧ Aside0 (sender_Check.j2 kq l0_2 (l0_2.length : Int) x30_2 x51_19 a0_0 a0_1 l0_2 = some r) ∧ Aside0 (kq ≤ k2) ∧ Aside0 (wc.heap[gb108]? = some (.cells #[.int .i64 a0_0, .int .i64 a0_1, (.slice (some ad110) l0_2.length c0_2)] 24 (0, 0))) ∧ Aside0 (wc.heap[gb111]? = some (.cells #[.int .i64 ((rd_T33 l0_2 x30_2).f0), .int .i64 ((rd_T33 l0_2 x30_2).f1), .int .i64 ((rd_T33 l0_2 x30_2).f2), .int .i64 ((rd_T33 l0_2 x30_2).f3.f0), .int .i64 ((rd_T33 l0_2 x30_2).f3.f1), .int .i64 ((rd_T33 l0_2 x30_2).f3.f2), .int .i64 ((rd_T33 l0_2 x30_2).f3.f3), .int .i64 ((rd_T33 l0_2 x30_2).f3.f4), .int .i64 ((rd_T33 l0_2 x30_2).f3.f5), .int .i64 ((rd_T33 l0_2 x30_2).f3.f6)] 33 (0, 0))) ∧ Aside0 (Below w.heap.size w wc))
            case first =>
             have H := HC20.out
             clear HC20
             by_cases c30 : x30_2 > 0
             ·rw [if_pos c30] at H
              have c30b0 : decide (0 < x30_2) = true := decide_eq_true c30
              clear c30
              (first | rw [c30b0] | (simp only [i64_w, i32_w]; rw [c30b0]) | skip)
              obtain ⟨ji31, hji31⟩ : ∃ j_ : Int, (wrap64 (x30_2 - 1)) = j_ := ⟨_, rfl⟩
              replace H : (if 0 ≤ (ji31) then (if (ji31) < (l0_2.length : Int) then (if ((rd_T33 l0_2 x30_2).f2) ≤ ((rd_T33 l0_2 (ji31)).f2) then (sender_Check.j2 k2 l0_2 (l0_2.length : Int) x30_2 true a0_0 a0_1 l0_2) else (sender_Check.j2 k2 l0_2 (l0_2.length : Int) x30_2 (decide (((rd_T33 l0_2 x30_2).f2) ≥ a0_1)) a0_0 a0_1 l0_2)) else (none)) else (none)) = some r := by first | (rw [hji31] at H; exact H) | (simp only [hji31] at H ⊢; exact H)
              have hji31w : (IntKind.i64.wrap (x30_2 - 1)) = ji31 := (i64_w _).trans hji31
              by_cases c32 : 0 ≤ (ji31)
              ·rw [if_pos c32] at H
               have c32b0 : decide (0 ≤ (ji31)) = true := decide_eq_true c32
               clear c32
               by_cases c33 : (ji31) < (l0_2.length : Int)
               ·rw [if_pos c33] at H
                have c33b0 : decide ((ji31) < (l0_2.length : Int)) = true := decide_eq_true c33
                clear c33
                by_cases c34 : ((rd_T33 l0_2 x30_2).f2) ≤ ((rd_T33 l0_2 (ji31)).f2)
                ·rw [if_pos c34] at H
                 have c34b0 : decide (((rd_T33 l0_2 x30_2).f2) ≤ ((rd_T33 l0_2 (ji31)).f2)) = true := decide_eq_true c34
                 clear c34
                 have H' := Aside0.mk H
                 clear H
                 have hnb35 := NB111_108.out
                 have hnc35 := NB108_111.out
                 have hcz36_0 : w27.cell? ⟨gb111, 0, none⟩ = some (.int .i64 ((rd_T33 l0_2 x30_2).f0)) := (bqC BK111.out 0).trans rfl
                 have hcz36_1 : w27.cell? ⟨gb111, 1, none⟩ = some (.int .i64 ((rd_T33 l0_2 x30_2).f1)) := (bqC BK111.out 1).trans rfl
                 have hcz36_2 : w27.cell? ⟨gb111, 2, none⟩ = some (.int .i64 ((rd_T33 l0_2 x30_2).f2)) := (bqC BK111.out 2).trans rfl
                 have hcz36_3 : w27.cell? ⟨gb111, 3, none⟩ = some (.int .i64 ((rd_T33 l0_2 x30_2).f3.f0)) := (bqC BK111.out 3).trans rfl
                 have hcz36_4 : w27.cell? ⟨gb111, 4, none⟩ = some (.int .i64 ((rd_T33 l0_2 x30_2).f3.f1)) := (bqC BK111.out 4).trans rfl
                 have hcz36_5 : w27.cell? ⟨gb111, 5, none⟩ = some (.int .i64 ((rd_T33 l0_2 x30_2).f3.f2)) := (bqC BK111.out 5).trans rfl
                 have hcz36_6 : w27.cell? ⟨gb111, 6, none⟩ = some (.int .i64 ((rd_T33 l0_2 x30_2).f3.f3)) := (bqC BK111.out 6).trans rfl
                 have hcz36_7 : w27.cell? ⟨gb111, 7, none⟩ = some (.int .i64 ((rd_T33 l0_2 x30_2).f3.f4)) := (bqC BK111.out 7).trans rfl
                 have hcz36_8 : w27.cell? ⟨gb111, 8, none⟩ = some (.int .i64 ((rd_T33 l0_2 x30_2).f3.f5)) := (bqC BK111.out 8).trans rfl
                 have hcz36_9 : w27.cell? ⟨gb111, 9, none⟩ = some (.int .i64 ((rd_T33 l0_2 x30_2).f3.f6)) := (bqC BK111.out 9).trans rfl
                 have hfz36_0 := bqF BK111.out 0
                 have hfz36_1 := bqF BK111.out 1
                 have hfz36_2 := bqF BK111.out 2
                 have hfz36_3 := bqF BK111.out 3
                 have hfz36_4 := bqF BK111.out 4
                 have hfz36_5 := bqF BK111.out 5
                 have hfz36_6 := bqF BK111.out 6
                 have hfz36_7 := bqF BK111.out 7
                 have hfz36_8 := bqF BK111.out 8
                 have hfz36_9 := bqF BK111.out 9
                 have hcz37_0 : w27.cell? ⟨gb108, 0, none⟩ = some (.int .i64 a0_0) := (bqC BK108.out 0).trans rfl
                 have hcz37_1 : w27.cell? ⟨gb108, 1, none⟩ = some (.int .i64 a0_1) := (bqC BK108.out 1).trans rfl
                 have hcz37_2 : w27.cell? ⟨gb108, 2, none⟩ = some (.slice (some ad110) l0_2.length c0_2) := (bqC BK108.out 2).trans rfl
                 have hfz37_0 := bqF BK108.out 0
                 have hfz37_1 := bqF BK108.out 1
                 have hfz37_2 := bqF BK108.out 2
                 have p117 : 0 ≤ ((ji31) : Int) := of_decide_eq_true (by first | (with_reducible assumption) | assumption)
                 have q117 : (ji31) < (l0_2.length : Int) := of_decide_eq_true (by first | (with_reducible assumption) | assumption)
                 obtain ⟨ad117, e117, hx117_0, hx117_1, hx117_2, hx117_3, hx117_4, hx117_5, hx117_6, hx117_7, hx117_8, hx117_9⟩ := at_T33 HR0_2.out (ji31) p117 q117
                 obtain rfl : ad110 = ad117 := (by injection e117)
                 replace hx117_0 := (HB.out.cell (World.block_lt_of_cell? w _ hx117_0)).trans hx117_0
                 replace hx117_1 := (HB.out.cell (World.block_lt_of_cell? w _ hx117_1)).trans hx117_1
                 replace hx117_2 := (HB.out.cell (World.block_lt_of_cell? w _ hx117_2)).trans hx117_2
                 replace hx117_3 := (HB.out.cell (World.block_lt_of_cell? w _ hx117_3)).trans hx117_3
                 replace hx117_4 := (HB.out.cell (World.block_lt_of_cell? w _ hx117_4)).trans hx117_4
                 replace hx117_5 := (HB.out.cell (World.block_lt_of_cell? w _ hx117_5)).trans hx117_5
                 replace hx117_6 := (HB.out.cell (World.block_lt_of_cell? w _ hx117_6)).trans hx117_6
                 replace hx117_7 := (HB.out.cell (World.block_lt_of_cell? w _ hx117_7)).trans hx117_7
                 replace hx117_8 := (HB.out.cell (World.block_lt_of_cell? w _ hx117_8)).trans hx117_8
                 replace hx117_9 := (HB.out.cell (World.block_lt_of_cell? w _ hx117_9)).trans hx117_9
                 replace p117 := eq_true p117
                 replace q117 := eq_true q117
                 go_wp2
                 repeat (go_quiet (fail); try go_wp2)
                 go_meet
                 case rel => exact ⟨_, (true), (by first | rfl | (simp; done) | (simp [*]; done)), H', ⟨by have := HJ1.out; have := HK2.out; first | omega | exact Nat.le_refl _⟩, ⟨GS.bqX BK108.out⟩, ⟨GS.bqX BK111.out⟩, ⟨by repeat (first | (with_reducible first | exact HB.out | apply lqA | apply lqN | apply lqD | refine lqS ?_ GE108.out | refine lqS ?_ GE111.out) | exact HB.out)⟩⟩
                ·rw [if_neg c34] at H
                 have c34b0 : decide (((rd_T33 l0_2 x30_2).f2) ≤ ((rd_T33 l0_2 (ji31)).f2)) = false := decide_eq_false c34
                 clear c34
                 have H' := Aside0.mk H
                 clear H
                 have hnb38 := NB111_108.out
                 have hnc38 := NB108_111.out
                 have hcz39_0 : w27.cell? ⟨gb111, 0, none⟩ = some (.int .i64 ((rd_T33 l0_2 x30_2).f0)) := (bqC BK111.out 0).trans rfl
                 have hcz39_1 : w27.cell? ⟨gb111, 1, none⟩ = some (.int .i64 ((rd_T33 l0_2 x30_2).f1)) := (bqC BK111.out 1).trans rfl
                 have hcz39_2 : w27.cell? ⟨gb111, 2, none⟩ = some (.int .i64 ((rd_T33 l0_2 x30_2).f2)) := (bqC BK111.out 2).trans rfl
                 have hcz39_3 : w27.cell? ⟨gb111, 3, none⟩ = some (.int .i64 ((rd_T33 l0_2 x30_2).f3.f0)) := (bqC BK111.out 3).trans rfl
                 have hcz39_4 : w27.cell? ⟨gb111, 4, none⟩ = some (.int .i64 ((rd_T33 l0_2 x30_2).f3.f1)) := (bqC BK111.out 4).trans rfl
                 have hcz39_5 : w27.cell? ⟨gb111, 5, none⟩ = some (.int .i64 ((rd_T33 l0_2 x30_2).f3.f2)) := (bqC BK111.out 5).trans rfl
                 have hcz39_6 : w27.cell? ⟨gb111, 6, none⟩ = some (.int .i64 ((rd_T33 l0_2 x30_2).f3.f3)) := (bqC BK111.out 6).trans rfl
                 have hcz39_7 : w27.cell? ⟨gb111, 7, none⟩ = some (.int .i64 ((rd_T33 l0_2 x30_2).f3.f4)) := (bqC BK111.out 7).trans rfl
                 have hcz39_8 : w27.cell? ⟨gb111, 8, none⟩ = some (.int .i64 ((rd_T33 l0_2 x30_2).f3.f5)) := (bqC BK111.out 8).trans rfl
                 have hcz39_9 : w27.cell? ⟨gb111, 9, none⟩ = some (.int .i64 ((rd_T33 l0_2 x30_2).f3.f6)) := (bqC BK111.out 9).trans rfl
                 have hfz39_0 := bqF BK111.out 0
                 have hfz39_1 := bqF BK111.out 1
                 have hfz39_2 := bqF BK111.out 2
                 have hfz39_3 := bqF BK111.out 3
                 have hfz39_4 := bqF BK111.out 4
                 have hfz39_5 := bqF BK111.out 5
                 have hfz39_6 := bqF BK111.out 6
                 have hfz39_7 := bqF BK111.out 7
                 have hfz39_8 := bqF BK111.out 8
                 have hfz39_9 := bqF BK111.out 9
                 have hcz40_0 : w27.cell? ⟨gb108, 0, none⟩ = some (.int .i64 a0_0) := (bqC BK108.out 0).trans rfl
                 have hcz40_1 : w27.cell? ⟨gb108, 1, none⟩ = some (.int .i64 a0_1) := (bqC BK108.out 1).trans rfl
                 have hcz40_2 : w27.cell? ⟨gb108, 2, none⟩ = some (.slice (some ad110) l0_2.length c0_2) := (bqC BK108.out 2).trans rfl
                 have hfz40_0 := bqF BK108.out 0
                 have hfz40_1 := bqF BK108.out 1
                 have hfz40_2 := bqF BK108.out 2
                 have p117 : 0 ≤ ((ji31) : Int) := of_decide_eq_true (by first | (with_reducible assumption) | assumption)
                 have q117 : (ji31) < (l0_2.length : Int) := of_decide_eq_true (by first | (with_reducible assumption) | assumption)
                 obtain ⟨ad117, e117, hx117_0, hx117_1, hx117_2, hx117_3, hx117_4, hx117_5, hx117_6, hx117_7, hx117_8, hx117_9⟩ := at_T33 HR0_2.out (ji31) p117 q117
                 obtain rfl : ad110 = ad117 := (by injection e117)
                 replace hx117_0 := (HB.out.cell (World.block_lt_of_cell? w _ hx117_0)).trans hx117_0
                 replace hx117_1 := (HB.out.cell (World.block_lt_of_cell? w _ hx117_1)).trans hx117_1
                 replace hx117_2 := (HB.out.cell (World.block_lt_of_cell? w _ hx117_2)).trans hx117_2
                 replace hx117_3 := (HB.out.cell (World.block_lt_of_cell? w _ hx117_3)).trans hx117_3
                 replace hx117_4 := (HB.out.cell (World.block_lt_of_cell? w _ hx117_4)).trans hx117_4
                 replace hx117_5 := (HB.out.cell (World.block_lt_of_cell? w _ hx117_5)).trans hx117_5
                 replace hx117_6 := (HB.out.cell (World.block_lt_of_cell? w _ hx117_6)).trans hx117_6
                 replace hx117_7 := (HB.out.cell (World.block_lt_of_cell? w _ hx117_7)).trans hx117_7
                 replace hx117_8 := (HB.out.cell (World.block_lt_of_cell? w _ hx117_8)).trans hx117_8
                 replace hx117_9 := (HB.out.cell (World.block_lt_of_cell? w _ hx117_9)).trans hx117_9
                 replace p117 := eq_true p117
                 replace q117 := eq_true q117
                 go_wp2
                 repeat (go_quiet (fail); try go_wp2)
                 go_meet
                 case rel => exact ⟨_, (decide (((rd_T33 l0_2 x30_2).f2) ≥ a0_1)), (by first | rfl | (simp; done) | (simp [*]; done)), H', ⟨by have := HJ1.out; have := HK2.out; first | omega | exact Nat.le_refl _⟩, ⟨GS.bqX BK108.out⟩, ⟨GS.bqX BK111.out⟩, ⟨by repeat (first | (with_reducible first | exact HB.out | apply lqA | apply lqN | apply lqD | refine lqS ?_ GE108.out | refine lqS ?_ GE111.out) | exact HB.out)⟩⟩
               ·rw [if_neg c33] at H
                exact absurd H (by simp)
              ·rw [if_neg c32] at H
               exact absurd H (by simp)
             ·rw [if_neg c30] at H
              have c30b0 : decide (0 < x30_2) = false := decide_eq_false c30
              clear c30
              (first | rw [c30b0] | (simp only [i64_w, i32_w]; rw [c30b0]) | skip)
              have H' := Aside0.mk H
              clear H
              have hnb41 := NB111_108.out
              have hnc41 := NB108_111.out
              have hcz42_0 : w27.cell? ⟨gb111, 0, none⟩ = some (.int .i64 ((rd_T33 l0_2 x30_2).f0)) := (bqC BK111.out 0).trans rfl
              have hcz42_1 : w27.cell? ⟨gb111, 1, none⟩ = some (.int .i64 ((rd_T33 l0_2 x30_2).f1)) := (bqC BK111.out 1).trans rfl
              have hcz42_2 : w27.cell? ⟨gb111, 2, none⟩ = some (.int .i64 ((rd_T33 l0_2 x30_2).f2)) := (bqC BK111.out 2).trans rfl
              have hcz42_3 : w27.cell? ⟨gb111, 3, none⟩ = some (.int .i64 ((rd_T33 l0_2 x30_2).f3.f0)) := (bqC BK111.out 3).trans rfl
              have hcz42_4 : w27.cell? ⟨gb111, 4, none⟩ = some (.int .i64 ((rd_T33 l0_2 x30_2).f3.f1)) := (bqC BK111.out 4).trans rfl
              have hcz42_5 : w27.cell? ⟨gb111, 5, none⟩ = some (.int .i64 ((rd_T33 l0_2 x30_2).f3.f2)) := (bqC BK111.out 5).trans rfl
              have hcz42_6 : w27.cell? ⟨gb111, 6, none⟩ = some (.int .i64 ((rd_T33 l0_2 x30_2).f3.f3)) := (bqC BK111.out 6).trans rfl
              have hcz42_7 : w27.cell? ⟨gb111, 7, none⟩ = some (.int .i64 ((rd_T33 l0_2 x30_2).f3.f4)) := (bqC BK111.out 7).trans rfl
              have hcz42_8 : w27.cell? ⟨gb111, 8, none⟩ = some (.int .i64 ((rd_T33 l0_2 x30_2).f3.f5)) := (bqC BK111.out 8).trans rfl
              have hcz42_9 : w27.cell? ⟨gb111, 9, none⟩ = some (.int .i64 ((rd_T33 l0_2 x30_2).f3.f6)) := (bqC BK111.out 9).trans rfl
              have hfz42_0 := bqF BK111.out 0
              have hfz42_1 := bqF BK111.out 1
              have hfz42_2 := bqF BK111.out 2
              have hfz42_3 := bqF BK111.out 3
              have hfz42_4 := bqF BK111.out 4
              have hfz42_5 := bqF BK111.out 5
              have hfz42_6 := bqF BK111.out 6
              have hfz42_7 := bqF BK111.out 7
              have hfz42_8 := bqF BK111.out 8
              have hfz42_9 := bqF BK111.out 9
              have hcz43_0 : w27.cell? ⟨gb108, 0, none⟩ = some (.int .i64 a0_0) := (bqC BK108.out 0).trans rfl
              have hcz43_1 : w27.cell? ⟨gb108, 1, none⟩ = some (.int .i64 a0_1) := (bqC BK108.out 1).trans rfl
              have hcz43_2 : w27.cell? ⟨gb108, 2, none⟩ = some (.slice (some ad110) l0_2.length c0_2) := (bqC BK108.out 2).trans rfl
              have hfz43_0 := bqF BK108.out 0
              have hfz43_1 := bqF BK108.out 1
              have hfz43_2 := bqF BK108.out 2
              go_wp2
              repeat (go_quiet (fail); try go_wp2)
              go_meet
              case rel => exact ⟨_, (decide (((rd_T33 l0_2 x30_2).f2) ≥ a0_1)), (by first | rfl | (simp; done) | (simp [*]; done)), H', ⟨by have := HJ1.out; have := HK2.out; first | omega | exact Nat.le_refl _⟩, ⟨GS.bqX BK108.out⟩, ⟨GS.bqX BK111.out⟩, ⟨by repeat (first | (with_reducible first | exact HB.out | apply lqA | apply lqN | apply lqD | refine lqS ?_ GE108.out | refine lqS ?_ GE111.out) | exact HB.out)⟩⟩
            case rest =>
             clear HC20
             try clear c1
             try clear p1
             try clear q1
             try clear hx1
             try clear c2
             try clear p2
             try clear c3
             try clear c4
             try clear c5
             try clear c6
             try clear c6b0
             try clear p6
             try clear c10
             try clear c11
             try clear c11b0
             try clear c11b1
             try clear p11
             try clear q11
             try clear hx11
             try clear c14
             try clear c14b0
             try clear c15
             try clear c15b0
             try clear c16
             try clear c16b0
             try clear c17
             try clear c18
             try clear c18b0
             try clear c18b1
             try clear c19
             try clear c19b0
             try clear c19b1
             try clear c22
             try clear c30
             try clear c30b0
             try clear c32
             try clear c32b0
             try clear c33
             try clear c33b0
             try clear c34
             try clear c34b0
             try clear c35
             try clear c38
             try clear c41
             try clear hcz12_0
             try clear hcz12_1
             try clear hcz12_2
             try clear hcz13_0
             try clear hcz13_1
             try clear hcz13_2
             try clear hcz23_0
             try clear hcz23_1
             try clear hcz23_2
             try clear hcz23_3
             try clear hcz23_4
             try clear hcz23_5
             try clear hcz23_6
             try clear hcz23_7
             try clear hcz23_8
             try clear hcz23_9
             try clear hcz28_0
             try clear hcz28_1
             try clear hcz28_2
             try clear hcz28_3
             try clear hcz28_4
             try clear hcz28_5
             try clear hcz28_6
             try clear hcz28_7
             try clear hcz28_8
             try clear hcz28_9
             try clear hcz29_0
             try clear hcz29_1
             try clear hcz29_2
             try clear hcz36_0
             try clear hcz36_1
             try clear hcz36_2
             try clear hcz36_3
             try clear hcz36_4
             try clear hcz36_5
             try clear hcz36_6
             try clear hcz36_7
             try clear hcz36_8
             try clear hcz36_9
             try clear hcz37_0
             try clear hcz37_1
             try clear hcz37_2
             try clear hcz39_0
             try clear hcz39_1
             try clear hcz39_2
             try clear hcz39_3
             try clear hcz39_4
             try clear hcz39_5
             try clear hcz39_6
             try clear hcz39_7
             try clear hcz39_8
             try clear hcz39_9
             try clear hcz40_0
             try clear hcz40_1
             try clear hcz40_2
             try clear hcz42_0
             try clear hcz42_1
             try clear hcz42_2
             try clear hcz42_3
             try clear hcz42_4
             try clear hcz42_5
             try clear hcz42_6
             try clear hcz42_7
             try clear hcz42_8
             try clear hcz42_9
             try clear hcz43_0
             try clear hcz43_1
             try clear hcz43_2
             try clear hcz7_0
             try clear hcz7_1
             try clear hcz7_2
             try clear hcz8_0
             try clear hcz8_1
             try clear hcz8_2
             try clear hcz9_0
             try clear hcz9_1
             try clear hcz9_2
             try clear hfz12_0
             try clear hfz12_1
             try clear hfz12_2
             try clear hfz13_0
             try clear hfz13_1
             try clear hfz13_2
             try clear hfz23_0
             try clear hfz23_1
             try clear hfz23_2
             try clear hfz23_3
             try clear hfz23_4
             try clear hfz23_5
             try clear hfz23_6
             try clear hfz23_7
             try clear hfz23_8
             try clear hfz23_9
             try clear hfz28_0
             try clear hfz28_1
             try clear hfz28_2
             try clear hfz28_3
             try clear hfz28_4
             try clear hfz28_5
             try clear hfz28_6
             try clear hfz28_7
             try clear hfz28_8
             try clear hfz28_9
             try clear hfz29_0
             try clear hfz29_1
             try clear hfz29_2
             try clear hfz36_0
             try clear hfz36_1
             try clear hfz36_2
             try clear hfz36_3
             try clear hfz36_4
             try clear hfz36_5
             try clear hfz36_6
             try clear hfz36_7
             try clear hfz36_8
             try clear hfz36_9
             try clear hfz37_0
             try clear hfz37_1
             try clear hfz37_2
             try clear hfz39_0
             try clear hfz39_1
             try clear hfz39_2
             try clear hfz39_3
             try clear hfz39_4
             try clear hfz39_5
             try clear hfz39_6
             try clear hfz39_7
             try clear hfz39_8
             try clear hfz39_9
             try clear hfz40_0
             try clear hfz40_1
             try clear hfz40_2
             try clear hfz42_0
             try clear hfz42_1
             try clear hfz42_2
             try clear hfz42_3
             try clear hfz42_4
             try clear hfz42_5
             try clear hfz42_6
             try clear hfz42_7
             try clear hfz42_8
             try clear hfz42_9
             try clear hfz43_0
             try clear hfz43_1
             try clear hfz43_2
             try clear hfz7_0
             try clear hfz7_1
             try clear hfz7_2
             try clear hfz8_0
             try clear hfz8_1
             try clear hfz8_2
             try clear hfz9_0
             try clear hfz9_1
             try clear hfz9_2
             try clear hx110_0
             try clear hx110_1
             try clear hx110_2
             try clear hx110_3
             try clear hx110_4
             try clear hx110_5
             try clear hx110_6
             try clear hx110_7
             try clear hx110_8
             try clear hx110_9
             try clear hx117_0
             try clear hx117_1
             try clear hx117_2
             try clear hx117_3
             try clear hx117_4
             try clear hx117_5
             try clear hx117_6
             try clear hx117_7
             try clear hx117_8
             try clear hx117_9
             try clear p110
             try clear p117
             try clear p2
             try clear q110
             try clear q117
             obtain ⟨kq, x51_19, rfl, HA, HJ19, BK108, BK111, HB⟩ := hcut
             cases kq with
             | zero => exact absurd HA.out (by simp [sender_Check.j2])
             | succ kj19 =>
              have H := HA.out
              clear HA
              simp only [sender_Check.j2] at H
              by_cases c44 : x51_19 = true
              ·subst c44
               have H1 : (some 5) = some r := by rw [if_pos rfl] at H; exact H
               clear H
               have H := H1
               clear H1
               obtain rfl := Option.some.inj H
               go_wp2
               repeat (go_quiet (fail); try go_wp2)
               go_ret
               exact ⟨by first | rfl | (simp [errW_none, errW_some] <;> rfl) | (simp [*, errW_none, errW_some] <;> rfl), by repeat (first | (with_reducible first | exact HB.out | apply lqA | apply lqN | apply lqD | refine lqS ?_ GE108.out | refine lqS ?_ GE111.out) | exact HB.out)⟩
              ·replace c44 := Bool.eq_false_iff.mpr c44
               subst c44
               have H1 : (sender_Check.l0 kj19 l0_2 (l0_2.length : Int) (wrap64 (x30_2 + 1)) a0_0 a0_1 l0_2) = some r := by rw [if_neg (show ¬ (false = true) by decide)] at H; exact H
               clear H
               have H := H1
               clear H1
               have H' := Aside0.mk H
               clear H
               go_wp2
               repeat (go_quiet (fail); try go_wp2)
               go_roundg kj19
               case measure => have := HJ1.out; have := HK2.out; have := HJ19.out; omega
               case rel => exact ⟨(wrap64 (x30_2 + 1)), (by first | rfl | (simp; done) | (simp [*]; done)), H', ⟨by have := HJ1.out; have := HK2.out; have := HJ19.out; omega⟩, ⟨GS.bqX BK108.out⟩, ⟨by repeat (first | (with_reducible first | exact HB.out | apply lqA | apply lqN | apply lqD | refine lqS ?_ GE108.out | refine lqS ?_ GE111.out) | exact HB.out)⟩⟩
           ·rw [if_neg c19] at H
            have c19b0 : (((rd_T33 l0_2 x30_2).f0) == a0_0) = false := beq_eq_false_iff_ne.mpr c19
            try simp only [beq_self_eq_true, Bool.not_true, Bool.false_or, Bool.true_and] at c19b0
            have c19b1 : (((rd_T33 l0_2 x30_2).f0) != a0_0) = true := bne_iff_ne.mpr c19
            obtain rfl := Option.some.inj H
            have p110 : 0 ≤ (x30_2 : Int) := of_decide_eq_true (by first | (with_reducible assumption) | assumption)
            have q110 : x30_2 < (l0_2.length : Int) := of_decide_eq_true (by first | (with_reducible assumption) | assumption)
            obtain ⟨ad110, e110, hx110_0, hx110_1, hx110_2, hx110_3, hx110_4, hx110_5, hx110_6, hx110_7, hx110_8, hx110_9⟩ := at_T33 HR0_2.out x30_2 p110 q110
            cases e110
            replace hx110_0 := (HB.out.cell (World.block_lt_of_cell? w _ hx110_0)).trans hx110_0
            replace hx110_1 := (HB.out.cell (World.block_lt_of_cell? w _ hx110_1)).trans hx110_1
            replace hx110_2 := (HB.out.cell (World.block_lt_of_cell? w _ hx110_2)).trans hx110_2
            replace hx110_3 := (HB.out.cell (World.block_lt_of_cell? w _ hx110_3)).trans hx110_3
            replace hx110_4 := (HB.out.cell (World.block_lt_of_cell? w _ hx110_4)).trans hx110_4
            replace hx110_5 := (HB.out.cell (World.block_lt_of_cell? w _ hx110_5)).trans hx110_5
            replace hx110_6 := (HB.out.cell (World.block_lt_of_cell? w _ hx110_6)).trans hx110_6
            replace hx110_7 := (HB.out.cell (World.block_lt_of_cell? w _ hx110_7)).trans hx110_7
            replace hx110_8 := (HB.out.cell (World.block_lt_of_cell? w _ hx110_8)).trans hx110_8
            replace hx110_9 := (HB.out.cell (World.block_lt_of_cell? w _ hx110_9)).trans hx110_9
            replace p110 := eq_true p110
            replace q110 := eq_true q110
            go_wp2_with (first | ((with_reducible refine gqD (N := 4) rfl ?_); refine box_event ?hg (N := 4) ?hd (cs := #[.int .i64 0, .int .i64 0, .int .i64 0, .int .i64 0, .int .i64 0, .int .i64 0, .int .i64 0, .int .i64 0, .int .i64 0, .int .i64 0]) (t := 33) ?hr ?_; (case hd => rfl); (case hg => rfl); (case hr => first | (go_simp; done) | (go_simp; rfl)); intro gb111 hg w45 hbox hb; have n0_ := Aside0.mk (bqB (GS.bqX BK108.out) hb); have n1_ := Aside0.mk (lqT (by repeat (first | (with_reducible first | exact HB.out | apply lqA | apply lqN | apply lqD | refine lqS ?_ GE108.out) | exact HB.out)) hb); have n2_ := Aside0.mk (hbox); have n3_ := Aside0.mk ((by rw [hg]; exact (lqZ (by repeat (first | (with_reducible first | exact HB.out | apply lqA | apply lqN | apply lqD | refine lqS ?_ GE108.out) | exact HB.out))) : w.heap.size ≤ gb111)); have n4_ := Aside0.mk ((by rw [hg]; exact (lqZ (by repeat (first | (with_reducible first | exact HB.out | apply lqA | apply lqN | apply lqD | refine lqS ?_ GE108.out) | exact HB.out))) : w.heap.size ≤ gb111)); have n5_ := Aside0.mk ((by rw [hg]; exact Nat.ne_of_lt (blk_lt (GS.bqX BK108.out)) : gb108 ≠ gb111)); have n6_ := Aside0.mk ((by rw [hg]; exact Nat.ne_of_gt (blk_lt (GS.bqX BK108.out)) : gb111 ≠ gb108)); clear BK108; clear HB; have BK108 := n0_; have HB := n1_; have BK111 := n2_; have GW111 := n3_; have GE111 := n4_; have NB108_111 := n5_; have NB111_108 := n6_; clear n0_ n1_ n2_ n3_ n4_ n5_ n6_; clear hb hbox hg; have hnb46 := NB111_108.out; have hnc46 := NB108_111.out; have hcz47_0 : w45.cell? ⟨gb111, 0, none⟩ = some (.int .i64 0) := (bqC BK111.out 0).trans rfl; have hcz47_1 : w45.cell? ⟨gb111, 1, none⟩ = some (.int .i64 0) := (bqC BK111.out 1).trans rfl; have hcz47_2 : w45.cell? ⟨gb111, 2, none⟩ = some (.int .i64 0) := (bqC BK111.out 2).trans rfl; have hcz47_3 : w45.cell? ⟨gb111, 3, none⟩ = some (.int .i64 0) := (bqC BK111.out 3).trans rfl; have hcz47_4 : w45.cell? ⟨gb111, 4, none⟩ = some (.int .i64 0) := (bqC BK111.out 4).trans rfl; have hcz47_5 : w45.cell? ⟨gb111, 5, none⟩ = some (.int .i64 0) := (bqC BK111.out 5).trans rfl; have hcz47_6 : w45.cell? ⟨gb111, 6, none⟩ = some (.int .i64 0) := (bqC BK111.out 6).trans rfl; have hcz47_7 : w45.cell? ⟨gb111, 7, none⟩ = some (.int .i64 0) := (bqC BK111.out 7).trans rfl; have hcz47_8 : w45.cell? ⟨gb111, 8, none⟩ = some (.int .i64 0) := (bqC BK111.out 8).trans rfl; have hcz47_9 : w45.cell? ⟨gb111, 9, none⟩ = some (.int .i64 0) := (bqC BK111.out 9).trans rfl; have hfz47_0 := bqF BK111.out 0; have hfz47_1 := bqF BK111.out 1; have hfz47_2 := bqF BK111.out 2; have hfz47_3 := bqF BK111.out 3; have hfz47_4 := bqF BK111.out 4; have hfz47_5 := bqF BK111.out 5; have hfz47_6 := bqF BK111.out 6; have hfz47_7 := bqF BK111.out 7; have hfz47_8 := bqF BK111.out 8; have hfz47_9 := bqF BK111.out 9) | ((with_reducible refine gqD (N := 37) rfl ?_); refine Kd.R_lit k33 _ 33 ?hg (N := 37) ?hd (xs := ([(⟨(rd_T33 l0_2 x30_2).f0, (rd_T33 l0_2 x30_2).f1, (rd_T33 l0_2 x30_2).f2, (⟨(rd_T33 l0_2 x30_2).f3.f0, (rd_T33 l0_2 x30_2).f3.f1, (rd_T33 l0_2 x30_2).f3.f2, (rd_T33 l0_2 x30_2).f3.f3, (rd_T33 l0_2 x30_2).f3.f4, (rd_T33 l0_2 x30_2).f3.f5, (rd_T33 l0_2 x30_2).f3.f6⟩ : S26)⟩ : S33)] : List (S33))) (inner := [.int .i64 ((rd_T33 l0_2 x30_2).f0), .int .i64 ((rd_T33 l0_2 x30_2).f1), .int .i64 ((rd_T33 l0_2 x30_2).f2), .int .i64 ((rd_T33 l0_2 x30_2).f3.f0), .int .i64 ((rd_T33 l0_2 x30_2).f3.f1), .int .i64 ((rd_T33 l0_2 x30_2).f3.f2), .int .i64 ((rd_T33 l0_2 x30_2).f3.f3), .int .i64 ((rd_T33 l0_2 x30_2).f3.f4), .int .i64 ((rd_T33 l0_2 x30_2).f3.f5), .int .i64 ((rd_T33 l0_2 x30_2).f3.f6)]) (ok := fun _ => True) (okp := fun _ => True) ?hr ?hp (fun _ hk => hk) trivial (Below.refl _ _) (Nat.le_refl _) (by simp) ?_; (case hd => rfl); (case hg => rfl); (case hr => first | (go_simp; done) | (go_simp; rfl)); (case hp => exact (Reps.c10 (show Kd.M k33 _ _ _ (⟨(rd_T33 l0_2 x30_2).f0, (rd_T33 l0_2 x30_2).f1, (rd_T33 l0_2 x30_2).f2, (⟨(rd_T33 l0_2 x30_2).f3.f0, (rd_T33 l0_2 x30_2).f3.f1, (rd_T33 l0_2 x30_2).f3.f2, (rd_T33 l0_2 x30_2).f3.f3, (rd_T33 l0_2 x30_2).f3.f4, (rd_T33 l0_2 x30_2).f3.f5, (rd_T33 l0_2 x30_2).f3.f6⟩ : S26)⟩ : S33) [.int .i64 ((rd_T33 l0_2 x30_2).f0), .int .i64 ((rd_T33 l0_2 x30_2).f1), .int .i64 ((rd_T33 l0_2 x30_2).f2), .int .i64 ((rd_T33 l0_2 x30_2).f3.f0), .int .i64 ((rd_T33 l0_2 x30_2).f3.f1), .int .i64 ((rd_T33 l0_2 x30_2).f3.f2), .int .i64 ((rd_T33 l0_2 x30_2).f3.f3), .int .i64 ((rd_T33 l0_2 x30_2).f3.f4), .int .i64 ((rd_T33 l0_2 x30_2).f3.f5), .int .i64 ((rd_T33 l0_2 x30_2).f3.f6)] from (k33_mkM _ _ _ (⟨(rd_T33 l0_2 x30_2).f0, (rd_T33 l0_2 x30_2).f1, (rd_T33 l0_2 x30_2).f2, (⟨(rd_T33 l0_2 x30_2).f3.f0, (rd_T33 l0_2 x30_2).f3.f1, (rd_T33 l0_2 x30_2).f3.f2, (rd_T33 l0_2 x30_2).f3.f3, (rd_T33 l0_2 x30_2).f3.f4, (rd_T33 l0_2 x30_2).f3.f5, (rd_T33 l0_2 x30_2).f3.f6⟩ : S26)⟩ : S33) )) (Reps.none _ _))); intro v113 w48 ho49 hb hg_ hnew_; clear hg_ hnew_; (first | rw [← Ny112.out] at ho49 | (simp only [Int.reduceToNat] at ho49; rw [← Ny112.out] at ho49)); have n0_ := Aside0.mk (Kd.R_lower (Kd.R_newB ho49 (g := gb111) (o := .cells #[.int .i64 ((rd_T33 l0_2 x30_2).f0), .int .i64 ((rd_T33 l0_2 x30_2).f1), .int .i64 ((rd_T33 l0_2 x30_2).f2), .int .i64 ((rd_T33 l0_2 x30_2).f3.f0), .int .i64 ((rd_T33 l0_2 x30_2).f3.f1), .int .i64 ((rd_T33 l0_2 x30_2).f3.f2), .int .i64 ((rd_T33 l0_2 x30_2).f3.f3), .int .i64 ((rd_T33 l0_2 x30_2).f3.f4), .int .i64 ((rd_T33 l0_2 x30_2).f3.f5), .int .i64 ((rd_T33 l0_2 x30_2).f3.f6)] 33 (0, 0)) (GS.bqZ BK111.out)) (lqZ (by repeat (first | (with_reducible first | exact HB.out | apply lqA | apply lqN | apply lqD | refine lqS ?_ GE108.out | refine lqS ?_ GE111.out) | exact HB.out)))); have n1_ := Aside0.mk (bqB (GS.bqX BK108.out) hb); have n2_ := Aside0.mk (bqB (g := gb111) (o := .cells #[.int .i64 ((rd_T33 l0_2 x30_2).f0), .int .i64 ((rd_T33 l0_2 x30_2).f1), .int .i64 ((rd_T33 l0_2 x30_2).f2), .int .i64 ((rd_T33 l0_2 x30_2).f3.f0), .int .i64 ((rd_T33 l0_2 x30_2).f3.f1), .int .i64 ((rd_T33 l0_2 x30_2).f3.f2), .int .i64 ((rd_T33 l0_2 x30_2).f3.f3), .int .i64 ((rd_T33 l0_2 x30_2).f3.f4), .int .i64 ((rd_T33 l0_2 x30_2).f3.f5), .int .i64 ((rd_T33 l0_2 x30_2).f3.f6)] 33 (0, 0)) (GS.bqZ BK111.out) hb); have n3_ := Aside0.mk (lqT (by repeat (first | (with_reducible first | exact HB.out | apply lqA | apply lqN | apply lqD | refine lqS ?_ GE108.out | refine lqS ?_ GE111.out) | exact HB.out)) hb); clear BK108; clear BK111; clear HB; have HO114 := n0_; have BK108 := n1_; have BK111 := n2_; have HB := n3_; clear n0_ n1_ n2_ n3_; clear hb ho49; obtain ⟨Ao50, co50, eo50⟩ := Kd.R_slice HO114.out; subst eo50) | (go_at_call 45; (with_reducible refine (network_Check.calls k2 _ _ y112 t115 t116 _ ?side1 ?side2 A17.out).mono ?_); (case side1 => repeat (first | exact (Kd.R_reads' HO114.out).2.2 | (with_reducible refine Kd.C_alloc ?_ _) | (with_reducible refine Kd.C_drewN ?_ _) | (with_reducible refine Kd.C_drew ?_))); (case side2 => exact (Kd.R_reads' HO114.out).2.1); rintro e w51 ⟨rfl, hb⟩; have n0_ := Aside0.mk (Kd.R_below (by (with_reducible repeat (first | apply Kd.R_alloc | apply Kd.R_drewN | apply Kd.R_drew)); exact HO114.out) hb); have n1_ := Aside0.mk (bqB (GS.bqX BK108.out) hb); have n2_ := Aside0.mk (bqB (GS.bqX BK111.out) hb); have n3_ := Aside0.mk (lqT (by repeat (first | (with_reducible first | exact HB.out | apply lqA | apply lqN | apply lqD | refine lqS ?_ GE108.out | refine lqS ?_ GE111.out) | exact HB.out)) hb); clear HO114; clear BK108; clear BK111; clear HB; have HO114 := n0_; have BK108 := n1_; have BK111 := n2_; have HB := n3_; clear n0_ n1_ n2_ n3_; (try clear hb); (try clear hb2); (try clear hk); (try clear hi); have hcz52_0 : w51.cell? ⟨gb111, 0, none⟩ = some (.int .i64 ((rd_T33 l0_2 x30_2).f0)) := (bqC BK111.out 0).trans rfl; have hcz52_1 : w51.cell? ⟨gb111, 1, none⟩ = some (.int .i64 ((rd_T33 l0_2 x30_2).f1)) := (bqC BK111.out 1).trans rfl; have hcz52_2 : w51.cell? ⟨gb111, 2, none⟩ = some (.int .i64 ((rd_T33 l0_2 x30_2).f2)) := (bqC BK111.out 2).trans rfl; have hcz52_3 : w51.cell? ⟨gb111, 3, none⟩ = some (.int .i64 ((rd_T33 l0_2 x30_2).f3.f0)) := (bqC BK111.out 3).trans rfl; have hcz52_4 : w51.cell? ⟨gb111, 4, none⟩ = some (.int .i64 ((rd_T33 l0_2 x30_2).f3.f1)) := (bqC BK111.out 4).trans rfl; have hcz52_5 : w51.cell? ⟨gb111, 5, none⟩ = some (.int .i64 ((rd_T33 l0_2 x30_2).f3.f2)) := (bqC BK111.out 5).trans rfl; have hcz52_6 : w51.cell? ⟨gb111, 6, none⟩ = some (.int .i64 ((rd_T33 l0_2 x30_2).f3.f3)) := (bqC BK111.out 6).trans rfl; have hcz52_7 : w51.cell? ⟨gb111, 7, none⟩ = some (.int .i64 ((rd_T33 l0_2 x30_2).f3.f4)) := (bqC BK111.out 7).trans rfl; have hcz52_8 : w51.cell? ⟨gb111, 8, none⟩ = some (.int .i64 ((rd_T33 l0_2 x30_2).f3.f5)) := (bqC BK111.out 8).trans rfl; have hcz52_9 : w51.cell? ⟨gb111, 9, none⟩ = some (.int .i64 ((rd_T33 l0_2 x30_2).f3.f6)) := (bqC BK111.out 9).trans rfl; have hfz52_0 := bqF BK111.out 0; have hfz52_1 := bqF BK111.out 1; have hfz52_2 := bqF BK111.out 2; have hfz52_3 := bqF BK111.out 3; have hfz52_4 := bqF BK111.out 4; have hfz52_5 := bqF BK111.out 5; have hfz52_6 := bqF BK111.out 6; have hfz52_7 := bqF BK111.out 7; have hfz52_8 := bqF BK111.out 8; have hfz52_9 := bqF BK111.out 9; have hcz53_0 : w51.cell? ⟨gb108, 0, none⟩ = some (.int .i64 a0_0) := (bqC BK108.out 0).trans rfl; have hcz53_1 : w51.cell? ⟨gb108, 1, none⟩ = some (.int .i64 a0_1) := (bqC BK108.out 1).trans rfl; have hcz53_2 : w51.cell? ⟨gb108, 2, none⟩ = some (.slice (some ad110) l0_2.length c0_2) := (bqC BK108.out 2).trans rfl; have hfz53_0 := bqF BK108.out 0; have hfz53_1 := bqF BK108.out 1; have hfz53_2 := bqF BK108.out 2))
            repeat (go_quiet (first | ((with_reducible refine gqD (N := 4) rfl ?_); refine box_event ?hg (N := 4) ?hd (cs := #[.int .i64 0, .int .i64 0, .int .i64 0, .int .i64 0, .int .i64 0, .int .i64 0, .int .i64 0, .int .i64 0, .int .i64 0, .int .i64 0]) (t := 33) ?hr ?_; (case hd => rfl); (case hg => rfl); (case hr => first | (go_simp; done) | (go_simp; rfl)); intro gb111 hg w45 hbox hb; have n0_ := Aside0.mk (bqB (GS.bqX BK108.out) hb); have n1_ := Aside0.mk (lqT (by repeat (first | (with_reducible first | exact HB.out | apply lqA | apply lqN | apply lqD | refine lqS ?_ GE108.out) | exact HB.out)) hb); have n2_ := Aside0.mk (hbox); have n3_ := Aside0.mk ((by rw [hg]; exact (lqZ (by repeat (first | (with_reducible first | exact HB.out | apply lqA | apply lqN | apply lqD | refine lqS ?_ GE108.out) | exact HB.out))) : w.heap.size ≤ gb111)); have n4_ := Aside0.mk ((by rw [hg]; exact (lqZ (by repeat (first | (with_reducible first | exact HB.out | apply lqA | apply lqN | apply lqD | refine lqS ?_ GE108.out) | exact HB.out))) : w.heap.size ≤ gb111)); have n5_ := Aside0.mk ((by rw [hg]; exact Nat.ne_of_lt (blk_lt (GS.bqX BK108.out)) : gb108 ≠ gb111)); have n6_ := Aside0.mk ((by rw [hg]; exact Nat.ne_of_gt (blk_lt (GS.bqX BK108.out)) : gb111 ≠ gb108)); clear BK108; clear HB; have BK108 := n0_; have HB := n1_; have BK111 := n2_; have GW111 := n3_; have GE111 := n4_; have NB108_111 := n5_; have NB111_108 := n6_; clear n0_ n1_ n2_ n3_ n4_ n5_ n6_; clear hb hbox hg; have hnb46 := NB111_108.out; have hnc46 := NB108_111.out; have hcz47_0 : w45.cell? ⟨gb111, 0, none⟩ = some (.int .i64 0) := (bqC BK111.out 0).trans rfl; have hcz47_1 : w45.cell? ⟨gb111, 1, none⟩ = some (.int .i64 0) := (bqC BK111.out 1).trans rfl; have hcz47_2 : w45.cell? ⟨gb111, 2, none⟩ = some (.int .i64 0) := (bqC BK111.out 2).trans rfl; have hcz47_3 : w45.cell? ⟨gb111, 3, none⟩ = some (.int .i64 0) := (bqC BK111.out 3).trans rfl; have hcz47_4 : w45.cell? ⟨gb111, 4, none⟩ = some (.int .i64 0) := (bqC BK111.out 4).trans rfl; have hcz47_5 : w45.cell? ⟨gb111, 5, none⟩ = some (.int .i64 0) := (bqC BK111.out 5).trans rfl; have hcz47_6 : w45.cell? ⟨gb111, 6, none⟩ = some (.int .i64 0) := (bqC BK111.out 6).trans rfl; have hcz47_7 : w45.cell? ⟨gb111, 7, none⟩ = some (.int .i64 0) := (bqC BK111.out 7).trans rfl; have hcz47_8 : w45.cell? ⟨gb111, 8, none⟩ = some (.int .i64 0) := (bqC BK111.out 8).trans rfl; have hcz47_9 : w45.cell? ⟨gb111, 9, none⟩ = some (.int .i64 0) := (bqC BK111.out 9).trans rfl; have hfz47_0 := bqF BK111.out 0; have hfz47_1 := bqF BK111.out 1; have hfz47_2 := bqF BK111.out 2; have hfz47_3 := bqF BK111.out 3; have hfz47_4 := bqF BK111.out 4; have hfz47_5 := bqF BK111.out 5; have hfz47_6 := bqF BK111.out 6; have hfz47_7 := bqF BK111.out 7; have hfz47_8 := bqF BK111.out 8; have hfz47_9 := bqF BK111.out 9) | ((with_reducible refine gqD (N := 37) rfl ?_); refine Kd.R_lit k33 _ 33 ?hg (N := 37) ?hd (xs := ([(⟨(rd_T33 l0_2 x30_2).f0, (rd_T33 l0_2 x30_2).f1, (rd_T33 l0_2 x30_2).f2, (⟨(rd_T33 l0_2 x30_2).f3.f0, (rd_T33 l0_2 x30_2).f3.f1, (rd_T33 l0_2 x30_2).f3.f2, (rd_T33 l0_2 x30_2).f3.f3, (rd_T33 l0_2 x30_2).f3.f4, (rd_T33 l0_2 x30_2).f3.f5, (rd_T33 l0_2 x30_2).f3.f6⟩ : S26)⟩ : S33)] : List (S33))) (inner := [.int .i64 ((rd_T33 l0_2 x30_2).f0), .int .i64 ((rd_T33 l0_2 x30_2).f1), .int .i64 ((rd_T33 l0_2 x30_2).f2), .int .i64 ((rd_T33 l0_2 x30_2).f3.f0), .int .i64 ((rd_T33 l0_2 x30_2).f3.f1), .int .i64 ((rd_T33 l0_2 x30_2).f3.f2), .int .i64 ((rd_T33 l0_2 x30_2).f3.f3), .int .i64 ((rd_T33 l0_2 x30_2).f3.f4), .int .i64 ((rd_T33 l0_2 x30_2).f3.f5), .int .i64 ((rd_T33 l0_2 x30_2).f3.f6)]) (ok := fun _ => True) (okp := fun _ => True) ?hr ?hp (fun _ hk => hk) trivial (Below.refl _ _) (Nat.le_refl _) (by simp) ?_; (case hd => rfl); (case hg => rfl); (case hr => first | (go_simp; done) | (go_simp; rfl)); (case hp => exact (Reps.c10 (show Kd.M k33 _ _ _ (⟨(rd_T33 l0_2 x30_2).f0, (rd_T33 l0_2 x30_2).f1, (rd_T33 l0_2 x30_2).f2, (⟨(rd_T33 l0_2 x30_2).f3.f0, (rd_T33 l0_2 x30_2).f3.f1, (rd_T33 l0_2 x30_2).f3.f2, (rd_T33 l0_2 x30_2).f3.f3, (rd_T33 l0_2 x30_2).f3.f4, (rd_T33 l0_2 x30_2).f3.f5, (rd_T33 l0_2 x30_2).f3.f6⟩ : S26)⟩ : S33) [.int .i64 ((rd_T33 l0_2 x30_2).f0), .int .i64 ((rd_T33 l0_2 x30_2).f1), .int .i64 ((rd_T33 l0_2 x30_2).f2), .int .i64 ((rd_T33 l0_2 x30_2).f3.f0), .int .i64 ((rd_T33 l0_2 x30_2).f3.f1), .int .i64 ((rd_T33 l0_2 x30_2).f3.f2), .int .i64 ((rd_T33 l0_2 x30_2).f3.f3), .int .i64 ((rd_T33 l0_2 x30_2).f3.f4), .int .i64 ((rd_T33 l0_2 x30_2).f3.f5), .int .i64 ((rd_T33 l0_2 x30_2).f3.f6)] from (k33_mkM _ _ _ (⟨(rd_T33 l0_2 x30_2).f0, (rd_T33 l0_2 x30_2).f1, (rd_T33 l0_2 x30_2).f2, (⟨(rd_T33 l0_2 x30_2).f3.f0, (rd_T33 l0_2 x30_2).f3.f1, (rd_T33 l0_2 x30_2).f3.f2, (rd_T33 l0_2 x30_2).f3.f3, (rd_T33 l0_2 x30_2).f3.f4, (rd_T33 l0_2 x30_2).f3.f5, (rd_T33 l0_2 x30_2).f3.f6⟩ : S26)⟩ : S33) )) (Reps.none _ _))); intro v113 w48 ho49 hb hg_ hnew_; clear hg_ hnew_; (first | rw [← Ny112.out] at ho49 | (simp only [Int.reduceToNat] at ho49; rw [← Ny112.out] at ho49)); have n0_ := Aside0.mk (Kd.R_lower (Kd.R_newB ho49 (g := gb111) (o := .cells #[.int .i64 ((rd_T33 l0_2 x30_2).f0), .int .i64 ((rd_T33 l0_2 x30_2).f1), .int .i64 ((rd_T33 l0_2 x30_2).f2), .int .i64 ((rd_T33 l0_2 x30_2).f3.f0), .int .i64 ((rd_T33 l0_2 x30_2).f3.f1), .int .i64 ((rd_T33 l0_2 x30_2).f3.f2), .int .i64 ((rd_T33 l0_2 x30_2).f3.f3), .int .i64 ((rd_T33 l0_2 x30_2).f3.f4), .int .i64 ((rd_T33 l0_2 x30_2).f3.f5), .int .i64 ((rd_T33 l0_2 x30_2).f3.f6)] 33 (0, 0)) (GS.bqZ BK111.out)) (lqZ (by repeat (first | (with_reducible first | exact HB.out | apply lqA | apply lqN | apply lqD | refine lqS ?_ GE108.out | refine lqS ?_ GE111.out) | exact HB.out)))); have n1_ := Aside0.mk (bqB (GS.bqX BK108.out) hb); have n2_ := Aside0.mk (bqB (g := gb111) (o := .cells #[.int .i64 ((rd_T33 l0_2 x30_2).f0), .int .i64 ((rd_T33 l0_2 x30_2).f1), .int .i64 ((rd_T33 l0_2 x30_2).f2), .int .i64 ((rd_T33 l0_2 x30_2).f3.f0), .int .i64 ((rd_T33 l0_2 x30_2).f3.f1), .int .i64 ((rd_T33 l0_2 x30_2).f3.f2), .int .i64 ((rd_T33 l0_2 x30_2).f3.f3), .int .i64 ((rd_T33 l0_2 x30_2).f3.f4), .int .i64 ((rd_T33 l0_2 x30_2).f3.f5), .int .i64 ((rd_T33 l0_2 x30_2).f3.f6)] 33 (0, 0)) (GS.bqZ BK111.out) hb); have n3_ := Aside0.mk (lqT (by repeat (first | (with_reducible first | exact HB.out | apply lqA | apply lqN | apply lqD | refine lqS ?_ GE108.out | refine lqS ?_ GE111.out) | exact HB.out)) hb); clear BK108; clear BK111; clear HB; have HO114 := n0_; have BK108 := n1_; have BK111 := n2_; have HB := n3_; clear n0_ n1_ n2_ n3_; clear hb ho49; obtain ⟨Ao50, co50, eo50⟩ := Kd.R_slice HO114.out; subst eo50) | (go_at_call 45; (with_reducible refine (network_Check.calls k2 _ _ y112 t115 t116 _ ?side1 ?side2 A17.out).mono ?_); (case side1 => repeat (first | exact (Kd.R_reads' HO114.out).2.2 | (with_reducible refine Kd.C_alloc ?_ _) | (with_reducible refine Kd.C_drewN ?_ _) | (with_reducible refine Kd.C_drew ?_))); (case side2 => exact (Kd.R_reads' HO114.out).2.1); rintro e w51 ⟨rfl, hb⟩; have n0_ := Aside0.mk (Kd.R_below (by (with_reducible repeat (first | apply Kd.R_alloc | apply Kd.R_drewN | apply Kd.R_drew)); exact HO114.out) hb); have n1_ := Aside0.mk (bqB (GS.bqX BK108.out) hb); have n2_ := Aside0.mk (bqB (GS.bqX BK111.out) hb); have n3_ := Aside0.mk (lqT (by repeat (first | (with_reducible first | exact HB.out | apply lqA | apply lqN | apply lqD | refine lqS ?_ GE108.out | refine lqS ?_ GE111.out) | exact HB.out)) hb); clear HO114; clear BK108; clear BK111; clear HB; have HO114 := n0_; have BK108 := n1_; have BK111 := n2_; have HB := n3_; clear n0_ n1_ n2_ n3_; (try clear hb); (try clear hb2); (try clear hk); (try clear hi); have hcz52_0 : w51.cell? ⟨gb111, 0, none⟩ = some (.int .i64 ((rd_T33 l0_2 x30_2).f0)) := (bqC BK111.out 0).trans rfl; have hcz52_1 : w51.cell? ⟨gb111, 1, none⟩ = some (.int .i64 ((rd_T33 l0_2 x30_2).f1)) := (bqC BK111.out 1).trans rfl; have hcz52_2 : w51.cell? ⟨gb111, 2, none⟩ = some (.int .i64 ((rd_T33 l0_2 x30_2).f2)) := (bqC BK111.out 2).trans rfl; have hcz52_3 : w51.cell? ⟨gb111, 3, none⟩ = some (.int .i64 ((rd_T33 l0_2 x30_2).f3.f0)) := (bqC BK111.out 3).trans rfl; have hcz52_4 : w51.cell? ⟨gb111, 4, none⟩ = some (.int .i64 ((rd_T33 l0_2 x30_2).f3.f1)) := (bqC BK111.out 4).trans rfl; have hcz52_5 : w51.cell? ⟨gb111, 5, none⟩ = some (.int .i64 ((rd_T33 l0_2 x30_2).f3.f2)) := (bqC BK111.out 5).trans rfl; have hcz52_6 : w51.cell? ⟨gb111, 6, none⟩ = some (.int .i64 ((rd_T33 l0_2 x30_2).f3.f3)) := (bqC BK111.out 6).trans rfl; have hcz52_7 : w51.cell? ⟨gb111, 7, none⟩ = some (.int .i64 ((rd_T33 l0_2 x30_2).f3.f4)) := (bqC BK111.out 7).trans rfl; have hcz52_8 : w51.cell? ⟨gb111, 8, none⟩ = some (.int .i64 ((rd_T33 l0_2 x30_2).f3.f5)) := (bqC BK111.out 8).trans rfl; have hcz52_9 : w51.cell? ⟨gb111, 9, none⟩ = some (.int .i64 ((rd_T33 l0_2 x30_2).f3.f6)) := (bqC BK111.out 9).trans rfl; have hfz52_0 := bqF BK111.out 0; have hfz52_1 := bqF BK111.out 1; have hfz52_2 := bqF BK111.out 2; have hfz52_3 := bqF BK111.out 3; have hfz52_4 := bqF BK111.out 4; have hfz52_5 := bqF BK111.out 5; have hfz52_6 := bqF BK111.out 6; have hfz52_7 := bqF BK111.out 7; have hfz52_8 := bqF BK111.out 8; have hfz52_9 := bqF BK111.out 9; have hcz53_0 : w51.cell? ⟨gb108, 0, none⟩ = some (.int .i64 a0_0) := (bqC BK108.out 0).trans rfl; have hcz53_1 : w51.cell? ⟨gb108, 1, none⟩ = some (.int .i64 a0_1) := (bqC BK108.out 1).trans rfl; have hcz53_2 : w51.cell? ⟨gb108, 2, none⟩ = some (.slice (some ad110) l0_2.length c0_2) := (bqC BK108.out 2).trans rfl; have hfz53_0 := bqF BK108.out 0; have hfz53_1 := bqF BK108.out 1; have hfz53_2 := bqF BK108.out 2)); try go_wp2_with (first | ((with_reducible refine gqD (N := 4) rfl ?_); refine box_event ?hg (N := 4) ?hd (cs := #[.int .i64 0, .int .i64 0, .int .i64 0, .int .i64 0, .int .i64 0, .int .i64 0, .int .i64 0, .int .i64 0, .int .i64 0, .int .i64 0]) (t := 33) ?hr ?_; (case hd => rfl); (case hg => rfl); (case hr => first | (go_simp; done) | (go_simp; rfl)); intro gb111 hg w45 hbox hb; have n0_ := Aside0.mk (bqB (GS.bqX BK108.out) hb); have n1_ := Aside0.mk (lqT (by repeat (first | (with_reducible first | exact HB.out | apply lqA | apply lqN | apply lqD | refine lqS ?_ GE108.out) | exact HB.out)) hb); have n2_ := Aside0.mk (hbox); have n3_ := Aside0.mk ((by rw [hg]; exact (lqZ (by repeat (first | (with_reducible first | exact HB.out | apply lqA | apply lqN | apply lqD | refine lqS ?_ GE108.out) | exact HB.out))) : w.heap.size ≤ gb111)); have n4_ := Aside0.mk ((by rw [hg]; exact (lqZ (by repeat (first | (with_reducible first | exact HB.out | apply lqA | apply lqN | apply lqD | refine lqS ?_ GE108.out) | exact HB.out))) : w.heap.size ≤ gb111)); have n5_ := Aside0.mk ((by rw [hg]; exact Nat.ne_of_lt (blk_lt (GS.bqX BK108.out)) : gb108 ≠ gb111)); have n6_ := Aside0.mk ((by rw [hg]; exact Nat.ne_of_gt (blk_lt (GS.bqX BK108.out)) : gb111 ≠ gb108)); clear BK108; clear HB; have BK108 := n0_; have HB := n1_; have BK111 := n2_; have GW111 := n3_; have GE111 := n4_; have NB108_111 := n5_; have NB111_108 := n6_; clear n0_ n1_ n2_ n3_ n4_ n5_ n6_; clear hb hbox hg; have hnb46 := NB111_108.out; have hnc46 := NB108_111.out; have hcz47_0 : w45.cell? ⟨gb111, 0, none⟩ = some (.int .i64 0) := (bqC BK111.out 0).trans rfl; have hcz47_1 : w45.cell? ⟨gb111, 1, none⟩ = some (.int .i64 0) := (bqC BK111.out 1).trans rfl; have hcz47_2 : w45.cell? ⟨gb111, 2, none⟩ = some (.int .i64 0) := (bqC BK111.out 2).trans rfl; have hcz47_3 : w45.cell? ⟨gb111, 3, none⟩ = some (.int .i64 0) := (bqC BK111.out 3).trans rfl; have hcz47_4 : w45.cell? ⟨gb111, 4, none⟩ = some (.int .i64 0) := (bqC BK111.out 4).trans rfl; have hcz47_5 : w45.cell? ⟨gb111, 5, none⟩ = some (.int .i64 0) := (bqC BK111.out 5).trans rfl; have hcz47_6 : w45.cell? ⟨gb111, 6, none⟩ = some (.int .i64 0) := (bqC BK111.out 6).trans rfl; have hcz47_7 : w45.cell? ⟨gb111, 7, none⟩ = some (.int .i64 0) := (bqC BK111.out 7).trans rfl; have hcz47_8 : w45.cell? ⟨gb111, 8, none⟩ = some (.int .i64 0) := (bqC BK111.out 8).trans rfl; have hcz47_9 : w45.cell? ⟨gb111, 9, none⟩ = some (.int .i64 0) := (bqC BK111.out 9).trans rfl; have hfz47_0 := bqF BK111.out 0; have hfz47_1 := bqF BK111.out 1; have hfz47_2 := bqF BK111.out 2; have hfz47_3 := bqF BK111.out 3; have hfz47_4 := bqF BK111.out 4; have hfz47_5 := bqF BK111.out 5; have hfz47_6 := bqF BK111.out 6; have hfz47_7 := bqF BK111.out 7; have hfz47_8 := bqF BK111.out 8; have hfz47_9 := bqF BK111.out 9) | ((with_reducible refine gqD (N := 37) rfl ?_); refine Kd.R_lit k33 _ 33 ?hg (N := 37) ?hd (xs := ([(⟨(rd_T33 l0_2 x30_2).f0, (rd_T33 l0_2 x30_2).f1, (rd_T33 l0_2 x30_2).f2, (⟨(rd_T33 l0_2 x30_2).f3.f0, (rd_T33 l0_2 x30_2).f3.f1, (rd_T33 l0_2 x30_2).f3.f2, (rd_T33 l0_2 x30_2).f3.f3, (rd_T33 l0_2 x30_2).f3.f4, (rd_T33 l0_2 x30_2).f3.f5, (rd_T33 l0_2 x30_2).f3.f6⟩ : S26)⟩ : S33)] : List (S33))) (inner := [.int .i64 ((rd_T33 l0_2 x30_2).f0), .int .i64 ((rd_T33 l0_2 x30_2).f1), .int .i64 ((rd_T33 l0_2 x30_2).f2), .int .i64 ((rd_T33 l0_2 x30_2).f3.f0), .int .i64 ((rd_T33 l0_2 x30_2).f3.f1), .int .i64 ((rd_T33 l0_2 x30_2).f3.f2), .int .i64 ((rd_T33 l0_2 x30_2).f3.f3), .int .i64 ((rd_T33 l0_2 x30_2).f3.f4), .int .i64 ((rd_T33 l0_2 x30_2).f3.f5), .int .i64 ((rd_T33 l0_2 x30_2).f3.f6)]) (ok := fun _ => True) (okp := fun _ => True) ?hr ?hp (fun _ hk => hk) trivial (Below.refl _ _) (Nat.le_refl _) (by simp) ?_; (case hd => rfl); (case hg => rfl); (case hr => first | (go_simp; done) | (go_simp; rfl)); (case hp => exact (Reps.c10 (show Kd.M k33 _ _ _ (⟨(rd_T33 l0_2 x30_2).f0, (rd_T33 l0_2 x30_2).f1, (rd_T33 l0_2 x30_2).f2, (⟨(rd_T33 l0_2 x30_2).f3.f0, (rd_T33 l0_2 x30_2).f3.f1, (rd_T33 l0_2 x30_2).f3.f2, (rd_T33 l0_2 x30_2).f3.f3, (rd_T33 l0_2 x30_2).f3.f4, (rd_T33 l0_2 x30_2).f3.f5, (rd_T33 l0_2 x30_2).f3.f6⟩ : S26)⟩ : S33) [.int .i64 ((rd_T33 l0_2 x30_2).f0), .int .i64 ((rd_T33 l0_2 x30_2).f1), .int .i64 ((rd_T33 l0_2 x30_2).f2), .int .i64 ((rd_T33 l0_2 x30_2).f3.f0), .int .i64 ((rd_T33 l0_2 x30_2).f3.f1), .int .i64 ((rd_T33 l0_2 x30_2).f3.f2), .int .i64 ((rd_T33 l0_2 x30_2).f3.f3), .int .i64 ((rd_T33 l0_2 x30_2).f3.f4), .int .i64 ((rd_T33 l0_2 x30_2).f3.f5), .int .i64 ((rd_T33 l0_2 x30_2).f3.f6)] from (k33_mkM _ _ _ (⟨(rd_T33 l0_2 x30_2).f0, (rd_T33 l0_2 x30_2).f1, (rd_T33 l0_2 x30_2).f2, (⟨(rd_T33 l0_2 x30_2).f3.f0, (rd_T33 l0_2 x30_2).f3.f1, (rd_T33 l0_2 x30_2).f3.f2, (rd_T33 l0_2 x30_2).f3.f3, (rd_T33 l0_2 x30_2).f3.f4, (rd_T33 l0_2 x30_2).f3.f5, (rd_T33 l0_2 x30_2).f3.f6⟩ : S26)⟩ : S33) )) (Reps.none _ _))); intro v113 w48 ho49 hb hg_ hnew_; clear hg_ hnew_; (first | rw [← Ny112.out] at ho49 | (simp only [Int.reduceToNat] at ho49; rw [← Ny112.out] at ho49)); have n0_ := Aside0.mk (Kd.R_lower (Kd.R_newB ho49 (g := gb111) (o := .cells #[.int .i64 ((rd_T33 l0_2 x30_2).f0), .int .i64 ((rd_T33 l0_2 x30_2).f1), .int .i64 ((rd_T33 l0_2 x30_2).f2), .int .i64 ((rd_T33 l0_2 x30_2).f3.f0), .int .i64 ((rd_T33 l0_2 x30_2).f3.f1), .int .i64 ((rd_T33 l0_2 x30_2).f3.f2), .int .i64 ((rd_T33 l0_2 x30_2).f3.f3), .int .i64 ((rd_T33 l0_2 x30_2).f3.f4), .int .i64 ((rd_T33 l0_2 x30_2).f3.f5), .int .i64 ((rd_T33 l0_2 x30_2).f3.f6)] 33 (0, 0)) (GS.bqZ BK111.out)) (lqZ (by repeat (first | (with_reducible first | exact HB.out | apply lqA | apply lqN | apply lqD | refine lqS ?_ GE108.out | refine lqS ?_ GE111.out) | exact HB.out)))); have n1_ := Aside0.mk (bqB (GS.bqX BK108.out) hb); have n2_ := Aside0.mk (bqB (g := gb111) (o := .cells #[.int .i64 ((rd_T33 l0_2 x30_2).f0), .int .i64 ((rd_T33 l0_2 x30_2).f1), .int .i64 ((rd_T33 l0_2 x30_2).f2), .int .i64 ((rd_T33 l0_2 x30_2).f3.f0), .int .i64 ((rd_T33 l0_2 x30_2).f3.f1), .int .i64 ((rd_T33 l0_2 x30_2).f3.f2), .int .i64 ((rd_T33 l0_2 x30_2).f3.f3), .int .i64 ((rd_T33 l0_2 x30_2).f3.f4), .int .i64 ((rd_T33 l0_2 x30_2).f3.f5), .int .i64 ((rd_T33 l0_2 x30_2).f3.f6)] 33 (0, 0)) (GS.bqZ BK111.out) hb); have n3_ := Aside0.mk (lqT (by repeat (first | (with_reducible first | exact HB.out | apply lqA | apply lqN | apply lqD | refine lqS ?_ GE108.out | refine lqS ?_ GE111.out) | exact HB.out)) hb); clear BK108; clear BK111; clear HB; have HO114 := n0_; have BK108 := n1_; have BK111 := n2_; have HB := n3_; clear n0_ n1_ n2_ n3_; clear hb ho49; obtain ⟨Ao50, co50, eo50⟩ := Kd.R_slice HO114.out; subst eo50) | (go_at_call 45; (with_reducible refine (network_Check.calls k2 _ _ y112 t115 t116 _ ?side1 ?side2 A17.out).mono ?_); (case side1 => repeat (first | exact (Kd.R_reads' HO114.out).2.2 | (with_reducible refine Kd.C_alloc ?_ _) | (with_reducible refine Kd.C_drewN ?_ _) | (with_reducible refine Kd.C_drew ?_))); (case side2 => exact (Kd.R_reads' HO114.out).2.1); rintro e w51 ⟨rfl, hb⟩; have n0_ := Aside0.mk (Kd.R_below (by (with_reducible repeat (first | apply Kd.R_alloc | apply Kd.R_drewN | apply Kd.R_drew)); exact HO114.out) hb); have n1_ := Aside0.mk (bqB (GS.bqX BK108.out) hb); have n2_ := Aside0.mk (bqB (GS.bqX BK111.out) hb); have n3_ := Aside0.mk (lqT (by repeat (first | (with_reducible first | exact HB.out | apply lqA | apply lqN | apply lqD | refine lqS ?_ GE108.out | refine lqS ?_ GE111.out) | exact HB.out)) hb); clear HO114; clear BK108; clear BK111; clear HB; have HO114 := n0_; have BK108 := n1_; have BK111 := n2_; have HB := n3_; clear n0_ n1_ n2_ n3_; (try clear hb); (try clear hb2); (try clear hk); (try clear hi); have hcz52_0 : w51.cell? ⟨gb111, 0, none⟩ = some (.int .i64 ((rd_T33 l0_2 x30_2).f0)) := (bqC BK111.out 0).trans rfl; have hcz52_1 : w51.cell? ⟨gb111, 1, none⟩ = some (.int .i64 ((rd_T33 l0_2 x30_2).f1)) := (bqC BK111.out 1).trans rfl; have hcz52_2 : w51.cell? ⟨gb111, 2, none⟩ = some (.int .i64 ((rd_T33 l0_2 x30_2).f2)) := (bqC BK111.out 2).trans rfl; have hcz52_3 : w51.cell? ⟨gb111, 3, none⟩ = some (.int .i64 ((rd_T33 l0_2 x30_2).f3.f0)) := (bqC BK111.out 3).trans rfl; have hcz52_4 : w51.cell? ⟨gb111, 4, none⟩ = some (.int .i64 ((rd_T33 l0_2 x30_2).f3.f1)) := (bqC BK111.out 4).trans rfl; have hcz52_5 : w51.cell? ⟨gb111, 5, none⟩ = some (.int .i64 ((rd_T33 l0_2 x30_2).f3.f2)) := (bqC BK111.out 5).trans rfl; have hcz52_6 : w51.cell? ⟨gb111, 6, none⟩ = some (.int .i64 ((rd_T33 l0_2 x30_2).f3.f3)) := (bqC BK111.out 6).trans rfl; have hcz52_7 : w51.cell? ⟨gb111, 7, none⟩ = some (.int .i64 ((rd_T33 l0_2 x30_2).f3.f4)) := (bqC BK111.out 7).trans rfl; have hcz52_8 : w51.cell? ⟨gb111, 8, none⟩ = some (.int .i64 ((rd_T33 l0_2 x30_2).f3.f5)) := (bqC BK111.out 8).trans rfl; have hcz52_9 : w51.cell? ⟨gb111, 9, none⟩ = some (.int .i64 ((rd_T33 l0_2 x30_2).f3.f6)) := (bqC BK111.out 9).trans rfl; have hfz52_0 := bqF BK111.out 0; have hfz52_1 := bqF BK111.out 1; have hfz52_2 := bqF BK111.out 2; have hfz52_3 := bqF BK111.out 3; have hfz52_4 := bqF BK111.out 4; have hfz52_5 := bqF BK111.out 5; have hfz52_6 := bqF BK111.out 6; have hfz52_7 := bqF BK111.out 7; have hfz52_8 := bqF BK111.out 8; have hfz52_9 := bqF BK111.out 9; have hcz53_0 : w51.cell? ⟨gb108, 0, none⟩ = some (.int .i64 a0_0) := (bqC BK108.out 0).trans rfl; have hcz53_1 : w51.cell? ⟨gb108, 1, none⟩ = some (.int .i64 a0_1) := (bqC BK108.out 1).trans rfl; have hcz53_2 : w51.cell? ⟨gb108, 2, none⟩ = some (.slice (some ad110) l0_2.length c0_2) := (bqC BK108.out 2).trans rfl; have hfz53_0 := bqF BK108.out 0; have hfz53_1 := bqF BK108.out 1; have hfz53_2 := bqF BK108.out 2)))
            go_ret
            exact ⟨by first | rfl | (simp [errW_none, errW_some] <;> rfl) | (simp [*, errW_none, errW_some] <;> rfl), by repeat (first | (with_reducible first | exact HB.out | apply lqA | apply lqN | apply lqD | refine lqS ?_ GE108.out | refine lqS ?_ GE111.out) | exact HB.out)⟩
          ·rw [if_neg c18] at H
           have c18b0 : (t116 == 0) = false := beq_eq_false_iff_ne.mpr c18
           try simp only [beq_self_eq_true, Bool.not_true, Bool.false_or, Bool.true_and] at c18b0
           have c18b1 : (t116 != 0) = true := bne_iff_ne.mpr c18
           obtain rfl := Option.some.inj H
           have p110 : 0 ≤ (x30_2 : Int) := of_decide_eq_true (by first | (with_reducible assumption) | assumption)
           have q110 : x30_2 < (l0_2.length : Int) := of_decide_eq_true (by first | (with_reducible assumption) | assumption)
           obtain ⟨ad110, e110, hx110_0, hx110_1, hx110_2, hx110_3, hx110_4, hx110_5, hx110_6, hx110_7, hx110_8, hx110_9⟩ := at_T33 HR0_2.out x30_2 p110 q110
           cases e110
           replace hx110_0 := (HB.out.cell (World.block_lt_of_cell? w _ hx110_0)).trans hx110_0
           replace hx110_1 := (HB.out.cell (World.block_lt_of_cell? w _ hx110_1)).trans hx110_1
           replace hx110_2 := (HB.out.cell (World.block_lt_of_cell? w _ hx110_2)).trans hx110_2
           replace hx110_3 := (HB.out.cell (World.block_lt_of_cell? w _ hx110_3)).trans hx110_3
           replace hx110_4 := (HB.out.cell (World.block_lt_of_cell? w _ hx110_4)).trans hx110_4
           replace hx110_5 := (HB.out.cell (World.block_lt_of_cell? w _ hx110_5)).trans hx110_5
           replace hx110_6 := (HB.out.cell (World.block_lt_of_cell? w _ hx110_6)).trans hx110_6
           replace hx110_7 := (HB.out.cell (World.block_lt_of_cell? w _ hx110_7)).trans hx110_7
           replace hx110_8 := (HB.out.cell (World.block_lt_of_cell? w _ hx110_8)).trans hx110_8
           replace hx110_9 := (HB.out.cell (World.block_lt_of_cell? w _ hx110_9)).trans hx110_9
           replace p110 := eq_true p110
           replace q110 := eq_true q110
           go_wp2_with (first | ((with_reducible refine gqD (N := 4) rfl ?_); refine box_event ?hg (N := 4) ?hd (cs := #[.int .i64 0, .int .i64 0, .int .i64 0, .int .i64 0, .int .i64 0, .int .i64 0, .int .i64 0, .int .i64 0, .int .i64 0, .int .i64 0]) (t := 33) ?hr ?_; (case hd => rfl); (case hg => rfl); (case hr => first | (go_simp; done) | (go_simp; rfl)); intro gb111 hg w54 hbox hb; have n0_ := Aside0.mk (bqB (GS.bqX BK108.out) hb); have n1_ := Aside0.mk (lqT (by repeat (first | (with_reducible first | exact HB.out | apply lqA | apply lqN | apply lqD | refine lqS ?_ GE108.out) | exact HB.out)) hb); have n2_ := Aside0.mk (hbox); have n3_ := Aside0.mk ((by rw [hg]; exact (lqZ (by repeat (first | (with_reducible first | exact HB.out | apply lqA | apply lqN | apply lqD | refine lqS ?_ GE108.out) | exact HB.out))) : w.heap.size ≤ gb111)); have n4_ := Aside0.mk ((by rw [hg]; exact (lqZ (by repeat (first | (with_reducible first | exact HB.out | apply lqA | apply lqN | apply lqD | refine lqS ?_ GE108.out) | exact HB.out))) : w.heap.size ≤ gb111)); have n5_ := Aside0.mk ((by rw [hg]; exact Nat.ne_of_lt (blk_lt (GS.bqX BK108.out)) : gb108 ≠ gb111)); have n6_ := Aside0.mk ((by rw [hg]; exact Nat.ne_of_gt (blk_lt (GS.bqX BK108.out)) : gb111 ≠ gb108)); clear BK108; clear HB; have BK108 := n0_; have HB := n1_; have BK111 := n2_; have GW111 := n3_; have GE111 := n4_; have NB108_111 := n5_; have NB111_108 := n6_; clear n0_ n1_ n2_ n3_ n4_ n5_ n6_; clear hb hbox hg; have hnb55 := NB111_108.out; have hnc55 := NB108_111.out; have hcz56_0 : w54.cell? ⟨gb111, 0, none⟩ = some (.int .i64 0) := (bqC BK111.out 0).trans rfl; have hcz56_1 : w54.cell? ⟨gb111, 1, none⟩ = some (.int .i64 0) := (bqC BK111.out 1).trans rfl; have hcz56_2 : w54.cell? ⟨gb111, 2, none⟩ = some (.int .i64 0) := (bqC BK111.out 2).trans rfl; have hcz56_3 : w54.cell? ⟨gb111, 3, none⟩ = some (.int .i64 0) := (bqC BK111.out 3).trans rfl; have hcz56_4 : w54.cell? ⟨gb111, 4, none⟩ = some (.int .i64 0) := (bqC BK111.out 4).trans rfl; have hcz56_5 : w54.cell? ⟨gb111, 5, none⟩ = some (.int .i64 0) := (bqC BK111.out 5).trans rfl; have hcz56_6 : w54.cell? ⟨gb111, 6, none⟩ = some (.int .i64 0) := (bqC BK111.out 6).trans rfl; have hcz56_7 : w54.cell? ⟨gb111, 7, none⟩ = some (.int .i64 0) := (bqC BK111.out 7).trans rfl; have hcz56_8 : w54.cell? ⟨gb111, 8, none⟩ = some (.int .i64 0) := (bqC BK111.out 8).trans rfl; have hcz56_9 : w54.cell? ⟨gb111, 9, none⟩ = some (.int .i64 0) := (bqC BK111.out 9).trans rfl; have hfz56_0 := bqF BK111.out 0; have hfz56_1 := bqF BK111.out 1; have hfz56_2 := bqF BK111.out 2; have hfz56_3 := bqF BK111.out 3; have hfz56_4 := bqF BK111.out 4; have hfz56_5 := bqF BK111.out 5; have hfz56_6 := bqF BK111.out 6; have hfz56_7 := bqF BK111.out 7; have hfz56_8 := bqF BK111.out 8; have hfz56_9 := bqF BK111.out 9) | ((with_reducible refine gqD (N := 37) rfl ?_); refine Kd.R_lit k33 _ 33 ?hg (N := 37) ?hd (xs := ([(⟨(rd_T33 l0_2 x30_2).f0, (rd_T33 l0_2 x30_2).f1, (rd_T33 l0_2 x30_2).f2, (⟨(rd_T33 l0_2 x30_2).f3.f0, (rd_T33 l0_2 x30_2).f3.f1, (rd_T33 l0_2 x30_2).f3.f2, (rd_T33 l0_2 x30_2).f3.f3, (rd_T33 l0_2 x30_2).f3.f4, (rd_T33 l0_2 x30_2).f3.f5, (rd_T33 l0_2 x30_2).f3.f6⟩ : S26)⟩ : S33)] : List (S33))) (inner := [.int .i64 ((rd_T33 l0_2 x30_2).f0), .int .i64 ((rd_T33 l0_2 x30_2).f1), .int .i64 ((rd_T33 l0_2 x30_2).f2), .int .i64 ((rd_T33 l0_2 x30_2).f3.f0), .int .i64 ((rd_T33 l0_2 x30_2).f3.f1), .int .i64 ((rd_T33 l0_2 x30_2).f3.f2), .int .i64 ((rd_T33 l0_2 x30_2).f3.f3), .int .i64 ((rd_T33 l0_2 x30_2).f3.f4), .int .i64 ((rd_T33 l0_2 x30_2).f3.f5), .int .i64 ((rd_T33 l0_2 x30_2).f3.f6)]) (ok := fun _ => True) (okp := fun _ => True) ?hr ?hp (fun _ hk => hk) trivial (Below.refl _ _) (Nat.le_refl _) (by simp) ?_; (case hd => rfl); (case hg => rfl); (case hr => first | (go_simp; done) | (go_simp; rfl)); (case hp => exact (Reps.c10 (show Kd.M k33 _ _ _ (⟨(rd_T33 l0_2 x30_2).f0, (rd_T33 l0_2 x30_2).f1, (rd_T33 l0_2 x30_2).f2, (⟨(rd_T33 l0_2 x30_2).f3.f0, (rd_T33 l0_2 x30_2).f3.f1, (rd_T33 l0_2 x30_2).f3.f2, (rd_T33 l0_2 x30_2).f3.f3, (rd_T33 l0_2 x30_2).f3.f4, (rd_T33 l0_2 x30_2).f3.f5, (rd_T33 l0_2 x30_2).f3.f6⟩ : S26)⟩ : S33) [.int .i64 ((rd_T33 l0_2 x30_2).f0), .int .i64 ((rd_T33 l0_2 x30_2).f1), .int .i64 ((rd_T33 l0_2 x30_2).f2), .int .i64 ((rd_T33 l0_2 x30_2).f3.f0), .int .i64 ((rd_T33 l0_2 x30_2).f3.f1), .int .i64 ((rd_T33 l0_2 x30_2).f3.f2), .int .i64 ((rd_T33 l0_2 x30_2).f3.f3), .int .i64 ((rd_T33 l0_2 x30_2).f3.f4), .int .i64 ((rd_T33 l0_2 x30_2).f3.f5), .int .i64 ((rd_T33 l0_2 x30_2).f3.f6)] from (k33_mkM _ _ _ (⟨(rd_T33 l0_2 x30_2).f0, (rd_T33 l0_2 x30_2).f1, (rd_T33 l0_2 x30_2).f2, (⟨(rd_T33 l0_2 x30_2).f3.f0, (rd_T33 l0_2 x30_2).f3.f1, (rd_T33 l0_2 x30_2).f3.f2, (rd_T33 l0_2 x30_2).f3.f3, (rd_T33 l0_2 x30_2).f3.f4, (rd_T33 l0_2 x30_2).f3.f5, (rd_T33 l0_2 x30_2).f3.f6⟩ : S26)⟩ : S33) )) (Reps.none _ _))); intro v113 w57 ho58 hb hg_ hnew_; clear hg_ hnew_; (first | rw [← Ny112.out] at ho58 | (simp only [Int.reduceToNat] at ho58; rw [← Ny112.out] at ho58)); have n0_ := Aside0.mk (Kd.R_lower (Kd.R_newB ho58 (g := gb111) (o := .cells #[.int .i64 ((rd_T33 l0_2 x30_2).f0), .int .i64 ((rd_T33 l0_2 x30_2).f1), .int .i64 ((rd_T33 l0_2 x30_2).f2), .int .i64 ((rd_T33 l0_2 x30_2).f3.f0), .int .i64 ((rd_T33 l0_2 x30_2).f3.f1), .int .i64 ((rd_T33 l0_2 x30_2).f3.f2), .int .i64 ((rd_T33 l0_2 x30_2).f3.f3), .int .i64 ((rd_T33 l0_2 x30_2).f3.f4), .int .i64 ((rd_T33 l0_2 x30_2).f3.f5), .int .i64 ((rd_T33 l0_2 x30_2).f3.f6)] 33 (0, 0)) (GS.bqZ BK111.out)) (lqZ (by repeat (first | (with_reducible first | exact HB.out | apply lqA | apply lqN | apply lqD | refine lqS ?_ GE108.out | refine lqS ?_ GE111.out) | exact HB.out)))); have n1_ := Aside0.mk (bqB (GS.bqX BK108.out) hb); have n2_ := Aside0.mk (bqB (g := gb111) (o := .cells #[.int .i64 ((rd_T33 l0_2 x30_2).f0), .int .i64 ((rd_T33 l0_2 x30_2).f1), .int .i64 ((rd_T33 l0_2 x30_2).f2), .int .i64 ((rd_T33 l0_2 x30_2).f3.f0), .int .i64 ((rd_T33 l0_2 x30_2).f3.f1), .int .i64 ((rd_T33 l0_2 x30_2).f3.f2), .int .i64 ((rd_T33 l0_2 x30_2).f3.f3), .int .i64 ((rd_T33 l0_2 x30_2).f3.f4), .int .i64 ((rd_T33 l0_2 x30_2).f3.f5), .int .i64 ((rd_T33 l0_2 x30_2).f3.f6)] 33 (0, 0)) (GS.bqZ BK111.out) hb); have n3_ := Aside0.mk (lqT (by repeat (first | (with_reducible first | exact HB.out | apply lqA | apply lqN | apply lqD | refine lqS ?_ GE108.out | refine lqS ?_ GE111.out) | exact HB.out)) hb); clear BK108; clear BK111; clear HB; have HO114 := n0_; have BK108 := n1_; have BK111 := n2_; have HB := n3_; clear n0_ n1_ n2_ n3_; clear hb ho58; obtain ⟨Ao59, co59, eo59⟩ := Kd.R_slice HO114.out; subst eo59) | (go_at_call 45; (with_reducible refine (network_Check.calls k2 _ _ y112 t115 t116 _ ?side1 ?side2 A17.out).mono ?_); (case side1 => repeat (first | exact (Kd.R_reads' HO114.out).2.2 | (with_reducible refine Kd.C_alloc ?_ _) | (with_reducible refine Kd.C_drewN ?_ _) | (with_reducible refine Kd.C_drew ?_))); (case side2 => exact (Kd.R_reads' HO114.out).2.1); rintro e w60 ⟨rfl, hb⟩; have n0_ := Aside0.mk (Kd.R_below (by (with_reducible repeat (first | apply Kd.R_alloc | apply Kd.R_drewN | apply Kd.R_drew)); exact HO114.out) hb); have n1_ := Aside0.mk (bqB (GS.bqX BK108.out) hb); have n2_ := Aside0.mk (bqB (GS.bqX BK111.out) hb); have n3_ := Aside0.mk (lqT (by repeat (first | (with_reducible first | exact HB.out | apply lqA | apply lqN | apply lqD | refine lqS ?_ GE108.out | refine lqS ?_ GE111.out) | exact HB.out)) hb); clear HO114; clear BK108; clear BK111; clear HB; have HO114 := n0_; have BK108 := n1_; have BK111 := n2_; have HB := n3_; clear n0_ n1_ n2_ n3_; (try clear hb); (try clear hb2); (try clear hk); (try clear hi)))
           repeat (go_quiet (first | ((with_reducible refine gqD (N := 4) rfl ?_); refine box_event ?hg (N := 4) ?hd (cs := #[.int .i64 0, .int .i64 0, .int .i64 0, .int .i64 0, .int .i64 0, .int .i64 0, .int .i64 0, .int .i64 0, .int .i64 0, .int .i64 0]) (t := 33) ?hr ?_; (case hd => rfl); (case hg => rfl); (case hr => first | (go_simp; done) | (go_simp; rfl)); intro gb111 hg w54 hbox hb; have n0_ := Aside0.mk (bqB (GS.bqX BK108.out) hb); have n1_ := Aside0.mk (lqT (by repeat (first | (with_reducible first | exact HB.out | apply lqA | apply lqN | apply lqD | refine lqS ?_ GE108.out) | exact HB.out)) hb); have n2_ := Aside0.mk (hbox); have n3_ := Aside0.mk ((by rw [hg]; exact (lqZ (by repeat (first | (with_reducible first | exact HB.out | apply lqA | apply lqN | apply lqD | refine lqS ?_ GE108.out) | exact HB.out))) : w.heap.size ≤ gb111)); have n4_ := Aside0.mk ((by rw [hg]; exact (lqZ (by repeat (first | (with_reducible first | exact HB.out | apply lqA | apply lqN | apply lqD | refine lqS ?_ GE108.out) | exact HB.out))) : w.heap.size ≤ gb111)); have n5_ := Aside0.mk ((by rw [hg]; exact Nat.ne_of_lt (blk_lt (GS.bqX BK108.out)) : gb108 ≠ gb111)); have n6_ := Aside0.mk ((by rw [hg]; exact Nat.ne_of_gt (blk_lt (GS.bqX BK108.out)) : gb111 ≠ gb108)); clear BK108; clear HB; have BK108 := n0_; have HB := n1_; have BK111 := n2_; have GW111 := n3_; have GE111 := n4_; have NB108_111 := n5_; have NB111_108 := n6_; clear n0_ n1_ n2_ n3_ n4_ n5_ n6_; clear hb hbox hg; have hnb55 := NB111_108.out; have hnc55 := NB108_111.out; have hcz56_0 : w54.cell? ⟨gb111, 0, none⟩ = some (.int .i64 0) := (bqC BK111.out 0).trans rfl; have hcz56_1 : w54.cell? ⟨gb111, 1, none⟩ = some (.int .i64 0) := (bqC BK111.out 1).trans rfl; have hcz56_2 : w54.cell? ⟨gb111, 2, none⟩ = some (.int .i64 0) := (bqC BK111.out 2).trans rfl; have hcz56_3 : w54.cell? ⟨gb111, 3, none⟩ = some (.int .i64 0) := (bqC BK111.out 3).trans rfl; have hcz56_4 : w54.cell? ⟨gb111, 4, none⟩ = some (.int .i64 0) := (bqC BK111.out 4).trans rfl; have hcz56_5 : w54.cell? ⟨gb111, 5, none⟩ = some (.int .i64 0) := (bqC BK111.out 5).trans rfl; have hcz56_6 : w54.cell? ⟨gb111, 6, none⟩ = some (.int .i64 0) := (bqC BK111.out 6).trans rfl; have hcz56_7 : w54.cell? ⟨gb111, 7, none⟩ = some (.int .i64 0) := (bqC BK111.out 7).trans rfl; have hcz56_8 : w54.cell? ⟨gb111, 8, none⟩ = some (.int .i64 0) := (bqC BK111.out 8).trans rfl; have hcz56_9 : w54.cell? ⟨gb111, 9, none⟩ = some (.int .i64 0) := (bqC BK111.out 9).trans rfl; have hfz56_0 := bqF BK111.out 0; have hfz56_1 := bqF BK111.out 1; have hfz56_2 := bqF BK111.out 2; have hfz56_3 := bqF BK111.out 3; have hfz56_4 := bqF BK111.out 4; have hfz56_5 := bqF BK111.out 5; have hfz56_6 := bqF BK111.out 6; have hfz56_7 := bqF BK111.out 7; have hfz56_8 := bqF BK111.out 8; have hfz56_9 := bqF BK111.out 9) | ((with_reducible refine gqD (N := 37) rfl ?_); refine Kd.R_lit k33 _ 33 ?hg (N := 37) ?hd (xs := ([(⟨(rd_T33 l0_2 x30_2).f0, (rd_T33 l0_2 x30_2).f1, (rd_T33 l0_2 x30_2).f2, (⟨(rd_T33 l0_2 x30_2).f3.f0, (rd_T33 l0_2 x30_2).f3.f1, (rd_T33 l0_2 x30_2).f3.f2, (rd_T33 l0_2 x30_2).f3.f3, (rd_T33 l0_2 x30_2).f3.f4, (rd_T33 l0_2 x30_2).f3.f5, (rd_T33 l0_2 x30_2).f3.f6⟩ : S26)⟩ : S33)] : List (S33))) (inner := [.int .i64 ((rd_T33 l0_2 x30_2).f0), .int .i64 ((rd_T33 l0_2 x30_2).f1), .int .i64 ((rd_T33 l0_2 x30_2).f2), .int .i64 ((rd_T33 l0_2 x30_2).f3.f0), .int .i64 ((rd_T33 l0_2 x30_2).f3.f1), .int .i64 ((rd_T33 l0_2 x30_2).f3.f2), .int .i64 ((rd_T33 l0_2 x30_2).f3.f3), .int .i64 ((rd_T33 l0_2 x30_2).f3.f4), .int .i64 ((rd_T33 l0_2 x30_2).f3.f5), .int .i64 ((rd_T33 l0_2 x30_2).f3.f6)]) (ok := fun _ => True) (okp := fun _ => True) ?hr ?hp (fun _ hk => hk) trivial (Below.refl _ _) (Nat.le_refl _) (by simp) ?_; (case hd => rfl); (case hg => rfl); (case hr => first | (go_simp; done) | (go_simp; rfl)); (case hp => exact (Reps.c10 (show Kd.M k33 _ _ _ (⟨(rd_T33 l0_2 x30_2).f0, (rd_T33 l0_2 x30_2).f1, (rd_T33 l0_2 x30_2).f2, (⟨(rd_T33 l0_2 x30_2).f3.f0, (rd_T33 l0_2 x30_2).f3.f1, (rd_T33 l0_2 x30_2).f3.f2, (rd_T33 l0_2 x30_2).f3.f3, (rd_T33 l0_2 x30_2).f3.f4, (rd_T33 l0_2 x30_2).f3.f5, (rd_T33 l0_2 x30_2).f3.f6⟩ : S26)⟩ : S33) [.int .i64 ((rd_T33 l0_2 x30_2).f0), .int .i64 ((rd_T33 l0_2 x30_2).f1), .int .i64 ((rd_T33 l0_2 x30_2).f2), .int .i64 ((rd_T33 l0_2 x30_2).f3.f0), .int .i64 ((rd_T33 l0_2 x30_2).f3.f1), .int .i64 ((rd_T33 l0_2 x30_2).f3.f2), .int .i64 ((rd_T33 l0_2 x30_2).f3.f3), .int .i64 ((rd_T33 l0_2 x30_2).f3.f4), .int .i64 ((rd_T33 l0_2 x30_2).f3.f5), .int .i64 ((rd_T33 l0_2 x30_2).f3.f6)] from (k33_mkM _ _ _ (⟨(rd_T33 l0_2 x30_2).f0, (rd_T33 l0_2 x30_2).f1, (rd_T33 l0_2 x30_2).f2, (⟨(rd_T33 l0_2 x30_2).f3.f0, (rd_T33 l0_2 x30_2).f3.f1, (rd_T33 l0_2 x30_2).f3.f2, (rd_T33 l0_2 x30_2).f3.f3, (rd_T33 l0_2 x30_2).f3.f4, (rd_T33 l0_2 x30_2).f3.f5, (rd_T33 l0_2 x30_2).f3.f6⟩ : S26)⟩ : S33) )) (Reps.none _ _))); intro v113 w57 ho58 hb hg_ hnew_; clear hg_ hnew_; (first | rw [← Ny112.out] at ho58 | (simp only [Int.reduceToNat] at ho58; rw [← Ny112.out] at ho58)); have n0_ := Aside0.mk (Kd.R_lower (Kd.R_newB ho58 (g := gb111) (o := .cells #[.int .i64 ((rd_T33 l0_2 x30_2).f0), .int .i64 ((rd_T33 l0_2 x30_2).f1), .int .i64 ((rd_T33 l0_2 x30_2).f2), .int .i64 ((rd_T33 l0_2 x30_2).f3.f0), .int .i64 ((rd_T33 l0_2 x30_2).f3.f1), .int .i64 ((rd_T33 l0_2 x30_2).f3.f2), .int .i64 ((rd_T33 l0_2 x30_2).f3.f3), .int .i64 ((rd_T33 l0_2 x30_2).f3.f4), .int .i64 ((rd_T33 l0_2 x30_2).f3.f5), .int .i64 ((rd_T33 l0_2 x30_2).f3.f6)] 33 (0, 0)) (GS.bqZ BK111.out)) (lqZ (by repeat (first | (with_reducible first | exact HB.out | apply lqA | apply lqN | apply lqD | refine lqS ?_ GE108.out | refine lqS ?_ GE111.out) | exact HB.out)))); have n1_ := Aside0.mk (bqB (GS.bqX BK108.out) hb); have n2_ := Aside0.mk (bqB (g := gb111) (o := .cells #[.int .i64 ((rd_T33 l0_2 x30_2).f0), .int .i64 ((rd_T33 l0_2 x30_2).f1), .int .i64 ((rd_T33 l0_2 x30_2).f2), .int .i64 ((rd_T33 l0_2 x30_2).f3.f0), .int .i64 ((rd_T33 l0_2 x30_2).f3.f1), .int .i64 ((rd_T33 l0_2 x30_2).f3.f2), .int .i64 ((rd_T33 l0_2 x30_2).f3.f3), .int .i64 ((rd_T33 l0_2 x30_2).f3.f4), .int .i64 ((rd_T33 l0_2 x30_2).f3.f5), .int .i64 ((rd_T33 l0_2 x30_2).f3.f6)] 33 (0, 0)) (GS.bqZ BK111.out) hb); have n3_ := Aside0.mk (lqT (by repeat (first | (with_reducible first | exact HB.out | apply lqA | apply lqN | apply lqD | refine lqS ?_ GE108.out | refine lqS ?_ GE111.out) | exact HB.out)) hb); clear BK108; clear BK111; clear HB; have HO114 := n0_; have BK108 := n1_; have BK111 := n2_; have HB := n3_; clear n0_ n1_ n2_ n3_; clear hb ho58; obtain ⟨Ao59, co59, eo59⟩ := Kd.R_slice HO114.out; subst eo59) | (go_at_call 45; (with_reducible refine (network_Check.calls k2 _ _ y112 t115 t116 _ ?side1 ?side2 A17.out).mono ?_); (case side1 => repeat (first | exact (Kd.R_reads' HO114.out).2.2 | (with_reducible refine Kd.C_alloc ?_ _) | (with_reducible refine Kd.C_drewN ?_ _) | (with_reducible refine Kd.C_drew ?_))); (case side2 => exact (Kd.R_reads' HO114.out).2.1); rintro e w60 ⟨rfl, hb⟩; have n0_ := Aside0.mk (Kd.R_below (by (with_reducible repeat (first | apply Kd.R_alloc | apply Kd.R_drewN | apply Kd.R_drew)); exact HO114.out) hb); have n1_ := Aside0.mk (bqB (GS.bqX BK108.out) hb); have n2_ := Aside0.mk (bqB (GS.bqX BK111.out) hb); have n3_ := Aside0.mk (lqT (by repeat (first | (with_reducible first | exact HB.out | apply lqA | apply lqN | apply lqD | refine lqS ?_ GE108.out | refine lqS ?_ GE111.out) | exact HB.out)) hb); clear HO114; clear BK108; clear BK111; clear HB; have HO114 := n0_; have BK108 := n1_; have BK111 := n2_; have HB := n3_; clear n0_ n1_ n2_ n3_; (try clear hb); (try clear hb2); (try clear hk); (try clear hi))); try go_wp2_with (first | ((with_reducible refine gqD (N := 4) rfl ?_); refine box_event ?hg (N := 4) ?hd (cs := #[.int .i64 0, .int .i64 0, .int .i64 0, .int .i64 0, .int .i64 0, .int .i64 0, .int .i64 0, .int .i64 0, .int .i64 0, .int .i64 0]) (t := 33) ?hr ?_; (case hd => rfl); (case hg => rfl); (case hr => first | (go_simp; done) | (go_simp; rfl)); intro gb111 hg w54 hbox hb; have n0_ := Aside0.mk (bqB (GS.bqX BK108.out) hb); have n1_ := Aside0.mk (lqT (by repeat (first | (with_reducible first | exact HB.out | apply lqA | apply lqN | apply lqD | refine lqS ?_ GE108.out) | exact HB.out)) hb); have n2_ := Aside0.mk (hbox); have n3_ := Aside0.mk ((by rw [hg]; exact (lqZ (by repeat (first | (with_reducible first | exact HB.out | apply lqA | apply lqN | apply lqD | refine lqS ?_ GE108.out) | exact HB.out))) : w.heap.size ≤ gb111)); have n4_ := Aside0.mk ((by rw [hg]; exact (lqZ (by repeat (first | (with_reducible first | exact HB.out | apply lqA | apply lqN | apply lqD | refine lqS ?_ GE108.out) | exact HB.out))) : w.heap.size ≤ gb111)); have n5_ := Aside0.mk ((by rw [hg]; exact Nat.ne_of_lt (blk_lt (GS.bqX BK108.out)) : gb108 ≠ gb111)); have n6_ := Aside0.mk ((by rw [hg]; exact Nat.ne_of_gt (blk_lt (GS.bqX BK108.out)) : gb111 ≠ gb108)); clear BK108; clear HB; have BK108 := n0_; have HB := n1_; have BK111 := n2_; have GW111 := n3_; have GE111 := n4_; have NB108_111 := n5_; have NB111_108 := n6_; clear n0_ n1_ n2_ n3_ n4_ n5_ n6_; clear hb hbox hg; have hnb55 := NB111_108.out; have hnc55 := NB108_111.out; have hcz56_0 : w54.cell? ⟨gb111, 0, none⟩ = some (.int .i64 0) := (bqC BK111.out 0).trans rfl; have hcz56_1 : w54.cell? ⟨gb111, 1, none⟩ = some (.int .i64 0) := (bqC BK111.out 1).trans rfl; have hcz56_2 : w54.cell? ⟨gb111, 2, none⟩ = some (.int .i64 0) := (bqC BK111.out 2).trans rfl; have hcz56_3 : w54.cell? ⟨gb111, 3, none⟩ = some (.int .i64 0) := (bqC BK111.out 3).trans rfl; have hcz56_4 : w54.cell? ⟨gb111, 4, none⟩ = some (.int .i64 0) := (bqC BK111.out 4).trans rfl; have hcz56_5 : w54.cell? ⟨gb111, 5, none⟩ = some (.int .i64 0) := (bqC BK111.out 5).trans rfl; have hcz56_6 : w54.cell? ⟨gb111, 6, none⟩ = some (.int .i64 0) := (bqC BK111.out 6).trans rfl; have hcz56_7 : w54.cell? ⟨gb111, 7, none⟩ = some (.int .i64 0) := (bqC BK111.out 7).trans rfl; have hcz56_8 : w54.cell? ⟨gb111, 8, none⟩ = some (.int .i64 0) := (bqC BK111.out 8).trans rfl; have hcz56_9 : w54.cell? ⟨gb111, 9, none⟩ = some (.int .i64 0) := (bqC BK111.out 9).trans rfl; have hfz56_0 := bqF BK111.out 0; have hfz56_1 := bqF BK111.out 1; have hfz56_2 := bqF BK111.out 2; have hfz56_3 := bqF BK111.out 3; have hfz56_4 := bqF BK111.out 4; have hfz56_5 := bqF BK111.out 5; have hfz56_6 := bqF BK111.out 6; have hfz56_7 := bqF BK111.out 7; have hfz56_8 := bqF BK111.out 8; have hfz56_9 := bqF BK111.out 9) | ((with_reducible refine gqD (N := 37) rfl ?_); refine Kd.R_lit k33 _ 33 ?hg (N := 37) ?hd (xs := ([(⟨(rd_T33 l0_2 x30_2).f0, (rd_T33 l0_2 x30_2).f1, (rd_T33 l0_2 x30_2).f2, (⟨(rd_T33 l0_2 x30_2).f3.f0, (rd_T33 l0_2 x30_2).f3.f1, (rd_T33 l0_2 x30_2).f3.f2, (rd_T33 l0_2 x30_2).f3.f3, (rd_T33 l0_2 x30_2).f3.f4, (rd_T33 l0_2 x30_2).f3.f5, (rd_T33 l0_2 x30_2).f3.f6⟩ : S26)⟩ : S33)] : List (S33))) (inner := [.int .i64 ((rd_T33 l0_2 x30_2).f0), .int .i64 ((rd_T33 l0_2 x30_2).f1), .int .i64 ((rd_T33 l0_2 x30_2).f2), .int .i64 ((rd_T33 l0_2 x30_2).f3.f0), .int .i64 ((rd_T33 l0_2 x30_2).f3.f1), .int .i64 ((rd_T33 l0_2 x30_2).f3.f2), .int .i64 ((rd_T33 l0_2 x30_2).f3.f3), .int .i64 ((rd_T33 l0_2 x30_2).f3.f4), .int .i64 ((rd_T33 l0_2 x30_2).f3.f5), .int .i64 ((rd_T33 l0_2 x30_2).f3.f6)]) (ok := fun _ => True) (okp := fun _ => True) ?hr ?hp (fun _ hk => hk) trivial (Below.refl _ _) (Nat.le_refl _) (by simp) ?_; (case hd => rfl); (case hg => rfl); (case hr => first | (go_simp; done) | (go_simp; rfl)); (case hp => exact (Reps.c10 (show Kd.M k33 _ _ _ (⟨(rd_T33 l0_2 x30_2).f0, (rd_T33 l0_2 x30_2).f1, (rd_T33 l0_2 x30_2).f2, (⟨(rd_T33 l0_2 x30_2).f3.f0, (rd_T33 l0_2 x30_2).f3.f1, (rd_T33 l0_2 x30_2).f3.f2, (rd_T33 l0_2 x30_2).f3.f3, (rd_T33 l0_2 x30_2).f3.f4, (rd_T33 l0_2 x30_2).f3.f5, (rd_T33 l0_2 x30_2).f3.f6⟩ : S26)⟩ : S33) [.int .i64 ((rd_T33 l0_2 x30_2).f0), .int .i64 ((rd_T33 l0_2 x30_2).f1), .int .i64 ((rd_T33 l0_2 x30_2).f2), .int .i64 ((rd_T33 l0_2 x30_2).f3.f0), .int .i64 ((rd_T33 l0_2 x30_2).f3.f1), .int .i64 ((rd_T33 l0_2 x30_2).f3.f2), .int .i64 ((rd_T33 l0_2 x30_2).f3.f3), .int .i64 ((rd_T33 l0_2 x30_2).f3.f4), .int .i64 ((rd_T33 l0_2 x30_2).f3.f5), .int .i64 ((rd_T33 l0_2 x30_2).f3.f6)] from (k33_mkM _ _ _ (⟨(rd_T33 l0_2 x30_2).f0, (rd_T33 l0_2 x30_2).f1, (rd_T33 l0_2 x30_2).f2, (⟨(rd_T33 l0_2 x30_2).f3.f0, (rd_T33 l0_2 x30_2).f3.f1, (rd_T33 l0_2 x30_2).f3.f2, (rd_T33 l0_2 x30_2).f3.f3, (rd_T33 l0_2 x30_2).f3.f4, (rd_T33 l0_2 x30_2).f3.f5, (rd_T33 l0_2 x30_2).f3.f6⟩ : S26)⟩ : S33) )) (Reps.none _ _))); intro v113 w57 ho58 hb hg_ hnew_; clear hg_ hnew_; (first | rw [← Ny112.out] at ho58 | (simp only [Int.reduceToNat] at ho58; rw [← Ny112.out] at ho58)); have n0_ := Aside0.mk (Kd.R_lower (Kd.R_newB ho58 (g := gb111) (o := .cells #[.int .i64 ((rd_T33 l0_2 x30_2).f0), .int .i64 ((rd_T33 l0_2 x30_2).f1), .int .i64 ((rd_T33 l0_2 x30_2).f2), .int .i64 ((rd_T33 l0_2 x30_2).f3.f0), .int .i64 ((rd_T33 l0_2 x30_2).f3.f1), .int .i64 ((rd_T33 l0_2 x30_2).f3.f2), .int .i64 ((rd_T33 l0_2 x30_2).f3.f3), .int .i64 ((rd_T33 l0_2 x30_2).f3.f4), .int .i64 ((rd_T33 l0_2 x30_2).f3.f5), .int .i64 ((rd_T33 l0_2 x30_2).f3.f6)] 33 (0, 0)) (GS.bqZ BK111.out)) (lqZ (by repeat (first | (with_reducible first | exact HB.out | apply lqA | apply lqN | apply lqD | refine lqS ?_ GE108.out | refine lqS ?_ GE111.out) | exact HB.out)))); have n1_ := Aside0.mk (bqB (GS.bqX BK108.out) hb); have n2_ := Aside0.mk (bqB (g := gb111) (o := .cells #[.int .i64 ((rd_T33 l0_2 x30_2).f0), .int .i64 ((rd_T33 l0_2 x30_2).f1), .int .i64 ((rd_T33 l0_2 x30_2).f2), .int .i64 ((rd_T33 l0_2 x30_2).f3.f0), .int .i64 ((rd_T33 l0_2 x30_2).f3.f1), .int .i64 ((rd_T33 l0_2 x30_2).f3.f2), .int .i64 ((rd_T33 l0_2 x30_2).f3.f3), .int .i64 ((rd_T33 l0_2 x30_2).f3.f4), .int .i64 ((rd_T33 l0_2 x30_2).f3.f5), .int .i64 ((rd_T33 l0_2 x30_2).f3.f6)] 33 (0, 0)) (GS.bqZ BK111.out) hb); have n3_ := Aside0.mk (lqT (by repeat (first | (with_reducible first | exact HB.out | apply lqA | apply lqN | apply lqD | refine lqS ?_ GE108.out | refine lqS ?_ GE111.out) | exact HB.out)) hb); clear BK108; clear BK111; clear HB; have HO114 := n0_; have BK108 := n1_; have BK111 := n2_; have HB := n3_; clear n0_ n1_ n2_ n3_; clear hb ho58; obtain ⟨Ao59, co59, eo59⟩ := Kd.R_slice HO114.out; subst eo59) | (go_at_call 45; (with_reducible refine (network_Check.calls k2 _ _ y112 t115 t116 _ ?side1 ?side2 A17.out).mono ?_); (case side1 => repeat (first | exact (Kd.R_reads' HO114.out).2.2 | (with_reducible refine Kd.C_alloc ?_ _) | (with_reducible refine Kd.C_drewN ?_ _) | (with_reducible refine Kd.C_drew ?_))); (case side2 => exact (Kd.R_reads' HO114.out).2.1); rintro e w60 ⟨rfl, hb⟩; have n0_ := Aside0.mk (Kd.R_below (by (with_reducible repeat (first | apply Kd.R_alloc | apply Kd.R_drewN | apply Kd.R_drew)); exact HO114.out) hb); have n1_ := Aside0.mk (bqB (GS.bqX BK108.out) hb); have n2_ := Aside0.mk (bqB (GS.bqX BK111.out) hb); have n3_ := Aside0.mk (lqT (by repeat (first | (with_reducible first | exact HB.out | apply lqA | apply lqN | apply lqD | refine lqS ?_ GE108.out | refine lqS ?_ GE111.out) | exact HB.out)) hb); clear HO114; clear BK108; clear BK111; clear HB; have HO114 := n0_; have BK108 := n1_; have BK111 := n2_; have HB := n3_; clear n0_ n1_ n2_ n3_; (try clear hb); (try clear hb2); (try clear hk); (try clear hi))))
           go_ret
           exact ⟨by first | rfl | (simp [errW_none, errW_some] <;> rfl) | (simp [*, errW_none, errW_some] <;> rfl), by repeat (first | (with_reducible first | exact HB.out | apply lqA | apply lqN | apply lqD | refine lqS ?_ GE108.out | refine lqS ?_ GE111.out) | exact HB.out)⟩
         ·rw [if_neg c16] at H
          exact absurd H (by simp)
        ·rw [if_neg c15] at H
         exact absurd H (by simp)
       ·rw [if_neg c14] at H
        have c14b0 : decide (x30_2 < (l0_2.length : Int)) = false := decide_eq_false c14
        clear c14
        obtain rfl := Option.some.inj H
        go_wp2
        repeat (go_quiet (fail); try go_wp2)
        go_ret
        exact ⟨by first | rfl | (simp [errW_none, errW_some] <;> rfl) | (simp [*, errW_none, errW_some] <;> rfl), by repeat (first | (with_reducible first | exact HB.out | apply lqA | apply lqN | apply lqD | refine lqS ?_ GE108.out) | exact HB.out)⟩

-- GIVEN: function 21 (api_Envelope_21)

/-! ### sender_own: function 43 -/
def sender_own.f (a0_0 : Int) (a0_1 : Int) (l0_2 : List (S33)) : Option (Int × Int × (List (S33))) := (api_Envelope_21.f l0_2).bind fun t120 => (some (a0_0, a0_1, t120))
set_option maxHeartbeats 8000000 in
set_option maxRecDepth 100000 in
theorem sender_own.calls (a0_0 : Int) (a0_1 : Int) (A0_2 : Option Addr) (c0_2 : Nat) (l0_2 : List (S33)) (r1 : Int) (r2 : Int) (r3 : List (S33)) (w : World) (hr0_2 : Kd.C k33 w A0_2 l0_2.length l0_2) (hc0_2 : l0_2.length ≤ c0_2) (h : sender_own.f a0_0 a0_1 l0_2 = some (r1, r2, r3)) :
  Calls Try.prog 43 #[.agg #[.int .i64 a0_0, .int .i64 a0_1, .slice A0_2 l0_2.length c0_2]] w fun e w' => ∃ v2_ : Value, e = .returned (.agg #[.int .i64 r1, .int .i64 r2, v2_]) ∧ Kd.R k33 33 w' w.heap.size (fun _ => True) v2_ r3 ∧ Below w.heap.size w w' := by
 have hu24 := Try.underlying24
 have HR0_2 := Aside0.mk hr0_2
 have HC0_2 := Aside0.mk hc0_2
 clear hr0_2 hc0_2
 have HB := Aside0.mk (Below.refl w.heap.size w)
 have H : ((api_Envelope_21.f l0_2).bind fun t120 => (some (a0_0, a0_1, t120))) = some (r1, r2, r3) := h
 clear h
 replace H := Option.bind_eq_some_iff.mp H
 obtain ⟨t120, A20, H⟩ := H
 replace H : (some (a0_0, a0_1, t120)) = some (r1, r2, r3) := H
 have A2 := Aside0.mk A20
 clear A20
 simp only [Option.some.injEq, Prod.mk.injEq] at H
 obtain ⟨rfl, rfl, rfl⟩ := H
 go_enter Try.func43, Try.ntmps43
 go_wp2_with (first | ((with_reducible refine gqD (N := 1) rfl ?_); refine box_event ?hg (N := 1) ?hd (cs := #[.int .i64 a0_0, .int .i64 a0_1, .slice A0_2 l0_2.length c0_2]) (t := 24) ?hr ?_; (case hd => rfl); (case hg => rfl); (case hr => first | (go_simp; done) | (go_simp; rfl)); intro gb118 hg w3 hbox hb; have n0_ := Aside0.mk (lqT (by repeat (first | (with_reducible first | exact HB.out | apply lqA | apply lqN | apply lqD) | exact HB.out)) hb); have n1_ := Aside0.mk (hbox); have n2_ := Aside0.mk ((by rw [hg]; exact (lqZ (by repeat (first | (with_reducible first | exact HB.out | apply lqA | apply lqN | apply lqD) | exact HB.out))) : w.heap.size ≤ gb118)); have n3_ := Aside0.mk ((by rw [hg]; exact (lqZ (by repeat (first | (with_reducible first | exact HB.out | apply lqA | apply lqN | apply lqD) | exact HB.out))) : w.heap.size ≤ gb118)); clear HB; have HB := n0_; have BK118 := n1_; have GW118 := n2_; have GE118 := n3_; clear n0_ n1_ n2_ n3_; clear hb hbox hg) | ((with_reducible refine gqD (N := 2) rfl ?_); refine box_event ?hg (N := 2) ?hd (cs := #[.int .i64 0, .int .i64 0, .slice none 0 0]) (t := 24) ?hr ?_; (case hd => rfl); (case hg => rfl); (case hr => first | (go_simp; done) | (go_simp; rfl)); intro gb119 hg w4 hbox hb; have n0_ := Aside0.mk (bqB (GS.bqX BK118.out) hb); have n1_ := Aside0.mk (lqT (by repeat (first | (with_reducible first | exact HB.out | apply lqA | apply lqN | apply lqD | refine lqS ?_ GE118.out) | exact HB.out)) hb); have n2_ := Aside0.mk (hbox); have n3_ := Aside0.mk ((by rw [hg]; exact (lqZ (by repeat (first | (with_reducible first | exact HB.out | apply lqA | apply lqN | apply lqD | refine lqS ?_ GE118.out) | exact HB.out))) : w.heap.size ≤ gb119)); have n4_ := Aside0.mk ((by rw [hg]; exact (lqZ (by repeat (first | (with_reducible first | exact HB.out | apply lqA | apply lqN | apply lqD | refine lqS ?_ GE118.out) | exact HB.out))) : w.heap.size ≤ gb119)); have n5_ := Aside0.mk ((by rw [hg]; exact Nat.ne_of_lt (blk_lt (GS.bqX BK118.out)) : gb118 ≠ gb119)); have n6_ := Aside0.mk ((by rw [hg]; exact Nat.ne_of_gt (blk_lt (GS.bqX BK118.out)) : gb119 ≠ gb118)); clear BK118; clear HB; have BK118 := n0_; have HB := n1_; have BK119 := n2_; have GW119 := n3_; have GE119 := n4_; have NB118_119 := n5_; have NB119_118 := n6_; clear n0_ n1_ n2_ n3_ n4_ n5_ n6_; clear hb hbox hg; have hnb5 := NB118_119.out; have hnc5 := NB119_118.out; have hcz6_0 : w4.cell? ⟨gb118, 0, none⟩ = some (.int .i64 a0_0) := (bqC BK118.out 0).trans rfl; have hcz6_1 : w4.cell? ⟨gb118, 1, none⟩ = some (.int .i64 a0_1) := (bqC BK118.out 1).trans rfl; have hcz6_2 : w4.cell? ⟨gb118, 2, none⟩ = some (.slice A0_2 l0_2.length c0_2) := (bqC BK118.out 2).trans rfl; have hfz6_0 := bqF BK118.out 0; have hfz6_1 := bqF BK118.out 1; have hfz6_2 := bqF BK118.out 2) | ((with_reducible refine gqC (f := 21) rfl ?_); refine goesL_ (some 5) rfl rfl Try.func21 (by kernel_rfl) rfl #[.slice A0_2 l0_2.length c0_2] rfl (by (try simp only [List.map_toArray, List.map_cons, List.map_nil]); first | done | rfl | (simp only [List.length_drop, List.length_take]; rfl)) ?_; (with_reducible refine (api_Envelope_21.calls _ _ l0_2 t120 _ ?side1 ?side2 A2.out).mono ?_); (case side1 => repeat (first | exact (Kd.C_below HR0_2.out HB.out) | (with_reducible refine Kd.C_alloc ?_ _) | (with_reducible refine Kd.C_drewN ?_ _) | (with_reducible refine Kd.C_drew ?_))); (case side2 => exact HC0_2.out); rintro e w7 ⟨v121, rfl, ho0, hb⟩; refine ⟨_, rfl, ?_⟩; have n0_ := Aside0.mk (Kd.R_lower ho0 (lqZ (by repeat (first | (with_reducible first | exact HB.out | apply lqA | apply lqN | apply lqD | refine lqS ?_ GE118.out | refine lqS ?_ GE119.out) | exact HB.out)))); have n1_ := Aside0.mk (bqB (GS.bqX BK118.out) hb); have n2_ := Aside0.mk (bqB (GS.bqX BK119.out) hb); have n3_ := Aside0.mk (lqT (by repeat (first | (with_reducible first | exact HB.out | apply lqA | apply lqN | apply lqD | refine lqS ?_ GE118.out | refine lqS ?_ GE119.out) | exact HB.out)) hb); clear BK118; clear BK119; clear HB; have HO122 := n0_; have BK118 := n1_; have BK119 := n2_; have HB := n3_; clear n0_ n1_ n2_ n3_; (try clear hb); (try clear hb2); (try clear hk); (try clear hi); (try clear ho0); obtain ⟨Ao8, co8, eo8⟩ := Kd.R_slice HO122.out; subst eo8; have hcz9_0 : w7.cell? ⟨gb118, 0, none⟩ = some (.int .i64 a0_0) := (bqC BK118.out 0).trans rfl; have hcz9_1 : w7.cell? ⟨gb118, 1, none⟩ = some (.int .i64 a0_1) := (bqC BK118.out 1).trans rfl; have hcz9_2 : w7.cell? ⟨gb118, 2, none⟩ = some (.slice A0_2 l0_2.length c0_2) := (bqC BK118.out 2).trans rfl; have hfz9_0 := bqF BK118.out 0; have hfz9_1 := bqF BK118.out 1; have hfz9_2 := bqF BK118.out 2; have hcz10_0 : w7.cell? ⟨gb119, 0, none⟩ = some (.int .i64 0) := (bqC BK119.out 0).trans rfl; have hcz10_1 : w7.cell? ⟨gb119, 1, none⟩ = some (.int .i64 0) := (bqC BK119.out 1).trans rfl; have hcz10_2 : w7.cell? ⟨gb119, 2, none⟩ = some (.slice none 0 0) := (bqC BK119.out 2).trans rfl; have hfz10_0 := bqF BK119.out 0; have hfz10_1 := bqF BK119.out 1; have hfz10_2 := bqF BK119.out 2))
 refine bodyPost_ret (results_cell_row rfl _ _ gb119 24 #[.int .i64 a0_0, .int .i64 a0_1, .slice Ao8 t120.length co8] (0, 0) _ rfl (GS.bqZ BK119.out) Try.underlying24 rfl (by kernel_rfl)) rfl ?_
 exact ⟨_, by first | rfl | (simp [errW_none, errW_some] <;> rfl) | (simp [*, errW_none, errW_some] <;> rfl), by (with_reducible repeat (first | apply Kd.R_alloc | apply Kd.R_drewN | apply Kd.R_drew)); exact Kd.R_mono (Kd.R_far (p := ⟨gb119, 2, none⟩) (Kd.R_far (p := ⟨gb119, 1, none⟩) (Kd.R_far (p := ⟨gb119, 0, none⟩) (Kd.R_far (p := ⟨gb118, 2, none⟩) (Kd.R_types (Kd.R_types HO122.out BK118.out (by decide)) BK119.out (by decide)) (fun _ hk => hk.1.2) (.slice Ao8 t120.length co8)) (fun _ hk => hk.2) (.int .i64 a0_0)) (fun _ hk => hk.2) (.int .i64 a0_1)) (fun _ hk => hk.2) (.slice Ao8 t120.length co8)) (fun _ hk => trivial), by repeat (first | (with_reducible first | exact HB.out | apply lqA | apply lqN | apply lqD | refine lqS ?_ GE118.out | refine lqS ?_ GE119.out) | exact HB.out)⟩

end Go.Proofs.Ytfafeeobjlkjnaa.K
