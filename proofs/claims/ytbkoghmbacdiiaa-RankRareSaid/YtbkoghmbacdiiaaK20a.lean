-- PRINTED by print.py (a twelfth state) out of the translation. Not trusted: Lean checks it.
import Derived.Test.YtbkoghmbacdiiaaK0
import Derived.Test.YtbkoghmbacdiiaaK9
import Derived.Test.YtbkoghmbacdiiaaK10
import Derived.Test.YtbkoghmbacdiiaaK19a
import Derived.Test.YtbkoghmbacdiiaaGClone
namespace Go.Proofs.Ytbkoghmbacdiiaa.K
open Go.RowKit Go.Proofs.YtbkoghmbacdiiaaW.PrintWords Go.Proofs.YtbkoghmbacdiiaaW.PrintLast Go.Proofs.YtbkoghmbacdiiaaW.PrintMore
attribute [local go_sem] max2_int min2_int max_two min_two max_three min_three max_four min_four   -- for this text's walks alone
set_option linter.unusedVariables false
set_option linter.unusedSimpArgs false

/-! ### spilelaw33_RankQuantiles: function 8 -/
mutual
def spilelaw33_RankQuantiles.l0 : Nat → List Int → Int → Int → Int → Int → Int → List Int → Int → Int → Option (Bool)
 | 0, _, _, _, _, _, _, _, _, _ => none
 | k + 1, x0, x1, x2, x7, x9, x10, x30, x31, x32 => if x32 < x31 then (if 0 ≤ x32 then (if x32 < (x30.length : Int) then (if (rd x30 x32) < x7 then (spilelaw33_RankQuantiles.j1 k x0 x1 x2 x7 (wrap64 (x9 + 1)) x10 (rd x30 x32) x30 x31 x32) else (spilelaw33_RankQuantiles.j1 k x0 x1 x2 x7 x9 x10 (rd x30 x32) x30 x31 x32)) else (none)) else (none)) else ((slices_Contains_int_int.f k x0 x7).bind fun t536 => (if t536 = true then (if (wrap64 (x10 * x2)) ≥ (wrap64 ((x0.length : Int) * x1)) then (if (wrap64 (x9 * x2)) < (wrap64 ((x0.length : Int) * x1)) then (some true) else (some (x9 == 0))) else (none)) else (none)))
def spilelaw33_RankQuantiles.j1 : Nat → List Int → Int → Int → Int → Int → Int → Int → List Int → Int → Int → Option (Bool)
 | 0, _, _, _, _, _, _, _, _, _, _ => none
 | k + 1, x0, x1, x2, x7, x9, x10, x12, x30, x31, x32 => if x12 ≤ x7 then (spilelaw33_RankQuantiles.l0 k x0 x1 x2 x7 x9 (wrap64 (x10 + 1)) x30 x31 (wrap64 (x32 + 1))) else (spilelaw33_RankQuantiles.l0 k x0 x1 x2 x7 x9 x10 x30 x31 (wrap64 (x32 + 1)))
end
def spilelaw33_RankQuantiles.f (k : Nat) (l0 : List Int) (a1 : Int) (a2 : Int) : Option (Bool) := (spilelaw33_awake.f k).bind fun t530 => (if t530 = true then (if (l0.length : Int) > 12 then (some true) else ((clone14.f l0).bind fun t531 => ((rank_Quantile.f k t531 a1 a2).bind fun bt534 => (if bt534.2 = 0 then (spilelaw33_RankQuantiles.l0 k l0 a1 a2 bt534.1 0 0 l0 (l0.length : Int) 0) else (some (bt534.1 == 0)))))) else (none))
theorem spilelaw33_RankQuantiles.mono_l : ∀ k, (∀ y0 y1 y2 y3 y4 y5 y6 y7 y8, LeO (spilelaw33_RankQuantiles.l0 k y0 y1 y2 y3 y4 y5 y6 y7 y8) (spilelaw33_RankQuantiles.l0 (k + 1) y0 y1 y2 y3 y4 y5 y6 y7 y8)) ∧ (∀ y0 y1 y2 y3 y4 y5 y6 y7 y8 y9, LeO (spilelaw33_RankQuantiles.j1 k y0 y1 y2 y3 y4 y5 y6 y7 y8 y9) (spilelaw33_RankQuantiles.j1 (k + 1) y0 y1 y2 y3 y4 y5 y6 y7 y8 y9))
 | 0 => ⟨fun _ _ _ _ _ _ _ _ _ r h => by simp [spilelaw33_RankQuantiles.l0] at h, fun _ _ _ _ _ _ _ _ _ _ r h => by simp [spilelaw33_RankQuantiles.j1] at h⟩
 | k + 1 => by
  obtain ⟨ih0, ih1⟩ := spilelaw33_RankQuantiles.mono_l k
  refine ⟨?_, ?_⟩
  ·intro y0 y1 y2 y3 y4 y5 y6 y7 y8
   unfold spilelaw33_RankQuantiles.l0
   repeat' first
   | (with_reducible exact ih0 _ _ _ _ _ _ _ _ _)
   | (with_reducible exact ih1 _ _ _ _ _ _ _ _ _ _)
   | (with_reducible exact rank_Quantile.mono _ _ _ _)
   | (with_reducible exact slices_Contains_int_int.mono _ _ _)
   | (with_reducible exact spilelaw33_awake.mono _)
   | (with_reducible exact LeO.refl _)
   | (with_reducible exact LeO.none _)
   | (with_reducible refine LeO.ite ?_ ?_)
   | (with_reducible refine LeO.bind ?_ (fun _ => ?_))
   | exact ih0 _ _ _ _ _ _ _ _ _
   | exact ih1 _ _ _ _ _ _ _ _ _ _
   | exact rank_Quantile.mono _ _ _ _
   | exact slices_Contains_int_int.mono _ _ _
   | exact spilelaw33_awake.mono _
   | exact LeO.none _
   | refine LeO.ite ?_ ?_
   | refine LeO.bind ?_ (fun _ => ?_)
  ·intro y0 y1 y2 y3 y4 y5 y6 y7 y8 y9
   unfold spilelaw33_RankQuantiles.j1
   repeat' first
   | (with_reducible exact ih0 _ _ _ _ _ _ _ _ _)
   | (with_reducible exact ih1 _ _ _ _ _ _ _ _ _ _)
   | (with_reducible exact rank_Quantile.mono _ _ _ _)
   | (with_reducible exact slices_Contains_int_int.mono _ _ _)
   | (with_reducible exact spilelaw33_awake.mono _)
   | (with_reducible exact LeO.refl _)
   | (with_reducible exact LeO.none _)
   | (with_reducible refine LeO.ite ?_ ?_)
   | (with_reducible refine LeO.bind ?_ (fun _ => ?_))
   | exact ih0 _ _ _ _ _ _ _ _ _
   | exact ih1 _ _ _ _ _ _ _ _ _ _
   | exact rank_Quantile.mono _ _ _ _
   | exact slices_Contains_int_int.mono _ _ _
   | exact spilelaw33_awake.mono _
   | exact LeO.none _
   | refine LeO.ite ?_ ?_
   | refine LeO.bind ?_ (fun _ => ?_)
theorem spilelaw33_RankQuantiles.mono : ∀ a0 a1 a2 k, LeO (spilelaw33_RankQuantiles.f k a0 a1 a2) (spilelaw33_RankQuantiles.f (k + 1) a0 a1 a2) := by
 intro a0 a1 a2 k
 obtain ⟨ih0, ih1⟩ := spilelaw33_RankQuantiles.mono_l k
 unfold spilelaw33_RankQuantiles.f
 repeat' first
   | (with_reducible exact ih0 _ _ _ _ _ _ _ _ _)
   | (with_reducible exact ih1 _ _ _ _ _ _ _ _ _ _)
   | (with_reducible exact rank_Quantile.mono _ _ _ _)
   | (with_reducible exact slices_Contains_int_int.mono _ _ _)
   | (with_reducible exact spilelaw33_awake.mono _)
   | (with_reducible exact LeO.refl _)
   | (with_reducible exact LeO.none _)
   | (with_reducible refine LeO.ite ?_ ?_)
   | (with_reducible refine LeO.bind ?_ (fun _ => ?_))
   | exact ih0 _ _ _ _ _ _ _ _ _
   | exact ih1 _ _ _ _ _ _ _ _ _ _
   | exact rank_Quantile.mono _ _ _ _
   | exact slices_Contains_int_int.mono _ _ _
   | exact spilelaw33_awake.mono _
   | exact LeO.none _
   | refine LeO.ite ?_ ?_
   | refine LeO.bind ?_ (fun _ => ?_)
set_option maxHeartbeats 8000000 in
set_option maxRecDepth 100000 in
theorem spilelaw33_RankQuantiles.calls (k : Nat) (A0 : Option Addr) (c0 : Nat) (l0 : List Int) (a1 : Int) (a2 : Int) (r : Bool) (w : World) (hr0 : Kd.C (Kd.int .i64) w A0 l0.length l0) (hc0 : l0.length ≤ c0) (h : spilelaw33_RankQuantiles.f k l0 a1 a2 = some r) :
  Calls Try.prog 8 #[.slice A0 l0.length c0, .int .i64 a1, .int .i64 a2] w fun e w' => e = .returned (.bool r) ∧ Below w.heap.size w w' := by
 have HR0 := Aside0.mk hr0
 have HC0 := Aside0.mk hc0
 clear hr0 hc0
 have HB := Aside0.mk (Below.refl w.heap.size w)
 have H : ((spilelaw33_awake.f k).bind fun t530 => (if t530 = true then (if (l0.length : Int) > 12 then (some true) else ((clone14.f l0).bind fun t531 => ((rank_Quantile.f k t531 a1 a2).bind fun bt534 => (if bt534.2 = 0 then (spilelaw33_RankQuantiles.l0 k l0 a1 a2 bt534.1 0 0 l0 (l0.length : Int) 0) else (some (bt534.1 == 0)))))) else (none))) = some r := h
 clear h
 replace H := Option.bind_eq_some_iff.mp H
 obtain ⟨t530, A40, H⟩ := H
 replace H : (if t530 = true then (if (l0.length : Int) > 12 then (some true) else ((clone14.f l0).bind fun t531 => ((rank_Quantile.f k t531 a1 a2).bind fun bt534 => (if bt534.2 = 0 then (spilelaw33_RankQuantiles.l0 k l0 a1 a2 bt534.1 0 0 l0 (l0.length : Int) 0) else (some (bt534.1 == 0)))))) else (none)) = some r := H
 have A4 := Aside0.mk A40
 clear A40
 by_cases c5 : t530 = true
 ·subst c5
  have H1 : (if (l0.length : Int) > 12 then (some true) else ((clone14.f l0).bind fun t531 => ((rank_Quantile.f k t531 a1 a2).bind fun bt534 => (if bt534.2 = 0 then (spilelaw33_RankQuantiles.l0 k l0 a1 a2 bt534.1 0 0 l0 (l0.length : Int) 0) else (some (bt534.1 == 0)))))) = some r := by rw [if_pos rfl] at H; exact H
  clear H
  have H := H1
  clear H1
  by_cases c6 : (l0.length : Int) > 12
  ·rw [if_pos c6] at H
   have c6b0 : decide (12 < (l0.length : Int)) = true := decide_eq_true c6
   have c6b1 : decide (12 < l0.length) = true := decide_eq_true (by omega)
   clear c6
   obtain rfl := Option.some.inj H
   go_enter Try.func8, Try.ntmps8
   go_wp2_with (first | ((with_reducible refine gqC (f := 10) rfl ?_); refine goesL_ (some 13) rfl rfl Try.func10 (by kernel_rfl) rfl #[] rfl (by (try simp only [List.map_toArray, List.map_cons, List.map_nil]); first | done | rfl | (simp only [List.length_drop, List.length_take]; rfl)) ?_; (with_reducible refine (spilelaw33_awake.calls k  true _ A4.out).mono ?_); rintro e w7 ⟨rfl, hb⟩; refine ⟨_, rfl, ?_⟩; have n0_ := Aside0.mk (lqT (by repeat (first | (with_reducible first | exact HB.out | apply lqA | apply lqN | apply lqD) | exact HB.out)) hb); clear HB; have HB := n0_; clear n0_; (try clear hb); (try clear hb2); (try clear hk); (try clear hi)))
   go_ret
   exact ⟨by first | rfl | (simp [errW_none, errW_some] <;> rfl) | (simp [*, errW_none, errW_some] <;> rfl), by repeat (first | (with_reducible first | exact HB.out | apply lqA | apply lqN | apply lqD) | exact HB.out)⟩
  ·rw [if_neg c6] at H
   have c6b0 : decide (12 < (l0.length : Int)) = false := decide_eq_false c6
   have c6b1 : decide (12 < l0.length) = false := decide_eq_false (by omega)
   clear c6
   replace H := Option.bind_eq_some_iff.mp H
   obtain ⟨t531, A80, H⟩ := H
   replace H : ((rank_Quantile.f k t531 a1 a2).bind fun bt534 => (if bt534.2 = 0 then (spilelaw33_RankQuantiles.l0 k l0 a1 a2 bt534.1 0 0 l0 (l0.length : Int) 0) else (some (bt534.1 == 0)))) = some r := H
   have A8 := Aside0.mk A80
   clear A80
   replace H := Option.bind_eq_some_iff.mp H
   obtain ⟨⟨t534, t535⟩, A90, H⟩ := H
   replace H : (if t535 = 0 then (spilelaw33_RankQuantiles.l0 k l0 a1 a2 t534 0 0 l0 (l0.length : Int) 0) else (some (t534 == 0))) = some r := H
   have A9 := Aside0.mk A90
   clear A90
   by_cases c10 : t535 = 0
   ·rw [if_pos c10] at H
    have c10b0 : (t535 == 0) = true := beq_iff_eq.mpr c10
    try simp only [beq_self_eq_true, Bool.not_true, Bool.false_or, Bool.true_and] at c10b0
    have c10b1 : (t535 != 0) = false := bne_eq_false_iff_eq.mpr c10
    clear c10
    have H' := Aside0.mk H
    clear H
    go_enter Try.func8, Try.ntmps8
    go_wp2_with (first | ((with_reducible refine gqC (f := 10) rfl ?_); refine goesL_ (some 13) rfl rfl Try.func10 (by kernel_rfl) rfl #[] rfl (by (try simp only [List.map_toArray, List.map_cons, List.map_nil]); first | done | rfl | (simp only [List.length_drop, List.length_take]; rfl)) ?_; (with_reducible refine (spilelaw33_awake.calls k  true _ A4.out).mono ?_); rintro e w11 ⟨rfl, hb⟩; refine ⟨_, rfl, ?_⟩; have n0_ := Aside0.mk (lqT (by repeat (first | (with_reducible first | exact HB.out | apply lqA | apply lqN | apply lqD) | exact HB.out)) hb); clear HB; have HB := n0_; clear n0_; (try clear hb); (try clear hb2); (try clear hk); (try clear hi)) | ((with_reducible refine gqC (f := 14) rfl ?_); refine goesL_ (some 20) rfl rfl Try.func14 (by kernel_rfl) rfl #[.slice A0 l0.length c0] rfl (by (try simp only [List.map_toArray, List.map_cons, List.map_nil]); first | done | rfl | (simp only [List.length_drop, List.length_take]; rfl)) ?_; (with_reducible refine (clone14.calls _ _ l0 t531 _ ?side1 ?side2 A8.out).mono ?_); (case side1 => repeat (first | exact (Kd.C_below HR0.out HB.out) | (with_reducible refine Kd.C_alloc ?_ _) | (with_reducible refine Kd.C_drewN ?_ _) | (with_reducible refine Kd.C_drew ?_))); (case side2 => exact HC0.out); rintro e w12 ⟨v532, rfl, ho0, hb⟩; refine ⟨_, rfl, ?_⟩; have n0_ := Aside0.mk (Kd.R_lower ho0 (lqZ (by repeat (first | (with_reducible first | exact HB.out | apply lqA | apply lqN | apply lqD) | exact HB.out)))); have n1_ := Aside0.mk (lqT (by repeat (first | (with_reducible first | exact HB.out | apply lqA | apply lqN | apply lqD) | exact HB.out)) hb); clear HB; have HO533 := n0_; have HB := n1_; clear n0_ n1_; (try clear hb); (try clear hb2); (try clear hk); (try clear hi); (try clear ho0); obtain ⟨Ao13, co13, eo13⟩ := Kd.R_slice HO533.out; subst eo13) | ((with_reducible refine gqC (f := 16) rfl ?_); refine goesL_ (some 23) rfl rfl Try.func16 (by kernel_rfl) rfl #[.slice Ao13 t531.length co13, .int .i64 a1, .int .i64 a2] rfl (by (try simp only [List.map_toArray, List.map_cons, List.map_nil]); first | done | rfl | (simp only [List.length_drop, List.length_take]; rfl)) ?_; (with_reducible refine (rank_Quantile.calls k _ _ t531 a1 a2 t534 t535 _ ?side1 ?side2 A9.out).mono ?_); (case side1 => repeat (first | exact (Kd.R_reads' HO533.out).2.2 | (with_reducible refine Kd.C_alloc ?_ _) | (with_reducible refine Kd.C_drewN ?_ _) | (with_reducible refine Kd.C_drew ?_))); (case side2 => exact (Kd.R_reads' HO533.out).2.1); rintro e w14 ⟨rfl, hb⟩; refine ⟨_, rfl, ?_⟩; have n0_ := Aside0.mk (Kd.R_below (by (with_reducible repeat (first | apply Kd.R_alloc | apply Kd.R_drewN | apply Kd.R_drew)); exact HO533.out) hb); have n1_ := Aside0.mk (lqT (by repeat (first | (with_reducible first | exact HB.out | apply lqA | apply lqN | apply lqD) | exact HB.out)) hb); clear HO533; clear HB; have HO533 := n0_; have HB := n1_; clear n0_ n1_; (try clear hb); (try clear hb2); (try clear hk); (try clear hi)))
    go_loopg [9, 10, 32] k (fun kq v9 v10 v32 w' => ∃ (x9_1 : Int) (x10_1 : Int) (x32_1 : Int), v9 = .int .i64 x9_1 ∧ v10 = .int .i64 x10_1 ∧ v32 = .int .i64 x32_1 ∧ Aside0 (spilelaw33_RankQuantiles.l0 kq l0 a1 a2 t534 x9_1 x10_1 l0 (l0.length : Int) x32_1 = some r) ∧ Aside0 (kq ≤ k) ∧ Aside0 (Below w.heap.size w w'))
    case atStart => exact ⟨(0), (0), (0), (by first | rfl | (simp; done) | (simp [*]; done)), (by first | rfl | (simp; done) | (simp [*]; done)), (by first | rfl | (simp; done) | (simp [*]; done)), H', ⟨Nat.le_refl _⟩, ⟨by repeat (first | (with_reducible first | exact HB.out | apply lqA | apply lqN | apply lqD) | exact HB.out)⟩⟩
    case round =>
     clear H'
     try clear c1
     try clear p2
     try clear c5
     try clear c6
     try clear c6b0
     try clear c6b1
     try clear c8
     try clear c10
     try clear c10b0
     try clear c10b1
     try clear c14
     obtain ⟨x9_1, x10_1, x32_1, rfl, rfl, rfl, HA, HK1, HB⟩ := hrel
     cases gk with
     | zero => exact absurd HA.out (by simp [spilelaw33_RankQuantiles.l0])
     | succ k1 =>
      have H := HA.out
      clear HA
      simp only [spilelaw33_RankQuantiles.l0] at H
      by_cases c15 : x32_1 < (l0.length : Int)
      ·rw [if_pos c15] at H
       have c15b0 : decide (x32_1 < (l0.length : Int)) = true := decide_eq_true c15
       clear c15
       by_cases c16 : 0 ≤ x32_1
       ·rw [if_pos c16] at H
        have c16b0 : decide (0 ≤ x32_1) = true := decide_eq_true c16
        clear c16
        by_cases c17 : x32_1 < (l0.length : Int)
        ·rw [if_pos c17] at H
         have c17b0 : decide (x32_1 < (l0.length : Int)) = true := decide_eq_true c17
         clear c17
         have HC18 := Aside0.mk H
         clear H
         have p537 : 0 ≤ (x32_1 : Int) := of_decide_eq_true (by first | (with_reducible assumption) | assumption)
         have q537 : x32_1 < (l0.length : Int) := of_decide_eq_true (by first | (with_reducible assumption) | assumption)
         obtain ⟨ad537, e537, hx537_0⟩ := Kd.at_int HR0.out x32_1 p537 q537
         cases e537
         replace hx537_0 := (HB.out.cell (World.block_lt_of_cell? w _ hx537_0)).trans hx537_0
         replace p537 := eq_true p537
         replace q537 := eq_true q537
         go_upto_if 38 with (fail)
         go_cut [9] (fun v9 wc => ∃ (kq : Nat) (x9_17 : Int), v9 = .int .i64 x9_17 ∧ Aside0 (spilelaw33_RankQuantiles.j1 kq l0 a1 a2 t534 x9_17 x10_1 (rd l0 x32_1) l0 (l0.length : Int) x32_1 = some r) ∧ Aside0 (kq ≤ k1) ∧ Aside0 (Below w.heap.size w wc))
         case first =>
          have H := HC18.out
          clear HC18
          by_cases c19 : (rd l0 x32_1) < t534
          ·rw [if_pos c19] at H
           have c19b0 : decide ((rd l0 x32_1) < t534) = true := decide_eq_true c19
           clear c19
           (first | rw [c19b0] | (simp only [i64_w, i32_w]; rw [c19b0]) | skip)
           have H' := Aside0.mk H
           clear H
           go_wp2
           go_meet
           case rel => exact ⟨_, (wrap64 (x9_1 + 1)), (by first | rfl | (simp; done) | (simp [*]; done)), H', ⟨by have := HK1.out; first | omega | exact Nat.le_refl _⟩, ⟨by repeat (first | (with_reducible first | exact HB.out | apply lqA | apply lqN | apply lqD) | exact HB.out)⟩⟩
          ·rw [if_neg c19] at H
           have c19b0 : decide ((rd l0 x32_1) < t534) = false := decide_eq_false c19
           clear c19
           (first | rw [c19b0] | (simp only [i64_w, i32_w]; rw [c19b0]) | skip)
           have H' := Aside0.mk H
           clear H
           go_wp2
           go_meet
           case rel => exact ⟨_, (x9_1), (by first | rfl | (simp; done) | (simp [*]; done)), H', ⟨by have := HK1.out; first | omega | exact Nat.le_refl _⟩, ⟨by repeat (first | (with_reducible first | exact HB.out | apply lqA | apply lqN | apply lqD) | exact HB.out)⟩⟩
         case rest =>
          clear HC18
          try clear c1
          try clear p2
          try clear c5
          try clear p5
          try clear q5
          try clear hx5
          try clear c6
          try clear c6b0
          try clear c6b1
          try clear p6
          try clear c8
          try clear c10
          try clear c10b0
          try clear c10b1
          try clear c14
          try clear c15
          try clear c15b0
          try clear c16
          try clear c16b0
          try clear c17
          try clear c17b0
          try clear c19
          try clear c19b0
          try clear hx537_0
          try clear p2
          try clear p537
          try clear q537
          obtain ⟨kq, x9_17, rfl, HA, HJ17, HB⟩ := hcut
          cases kq with
          | zero => exact absurd HA.out (by simp [spilelaw33_RankQuantiles.j1])
          | succ kj17 =>
           have H := HA.out
           clear HA
           simp only [spilelaw33_RankQuantiles.j1] at H
           by_cases c20 : (rd l0 x32_1) ≤ t534
           ·rw [if_pos c20] at H
            have c20b0 : decide ((rd l0 x32_1) ≤ t534) = true := decide_eq_true c20
            clear c20
            have H' := Aside0.mk H
            clear H
            go_wp2
            go_roundg kj17
            case measure => have := HK1.out; have := HJ17.out; omega
            case rel => exact ⟨(x9_17), (wrap64 (x10_1 + 1)), (wrap64 (x32_1 + 1)), (by first | rfl | (simp; done) | (simp [*]; done)), (by first | rfl | (simp; done) | (simp [*]; done)), (by first | rfl | (simp; done) | (simp [*]; done)), H', ⟨by have := HK1.out; have := HJ17.out; omega⟩, ⟨by repeat (first | (with_reducible first | exact HB.out | apply lqA | apply lqN | apply lqD) | exact HB.out)⟩⟩
           ·rw [if_neg c20] at H
            have c20b0 : decide ((rd l0 x32_1) ≤ t534) = false := decide_eq_false c20
            clear c20
            have H' := Aside0.mk H
            clear H
            go_wp2
            go_roundg kj17
            case measure => have := HK1.out; have := HJ17.out; omega
            case rel => exact ⟨(x9_17), (x10_1), (wrap64 (x32_1 + 1)), (by first | rfl | (simp; done) | (simp [*]; done)), (by first | rfl | (simp; done) | (simp [*]; done)), (by first | rfl | (simp; done) | (simp [*]; done)), H', ⟨by have := HK1.out; have := HJ17.out; omega⟩, ⟨by repeat (first | (with_reducible first | exact HB.out | apply lqA | apply lqN | apply lqD) | exact HB.out)⟩⟩
        ·rw [if_neg c17] at H
         exact absurd H (by simp)
       ·rw [if_neg c16] at H
        exact absurd H (by simp)
      ·rw [if_neg c15] at H
       have c15b0 : decide (x32_1 < (l0.length : Int)) = false := decide_eq_false c15
       clear c15
       replace H := Option.bind_eq_some_iff.mp H
       obtain ⟨t536, A210, H⟩ := H
       replace H : (if t536 = true then (if (wrap64 (x10_1 * a2)) ≥ (wrap64 ((l0.length : Int) * a1)) then (if (wrap64 (x9_1 * a2)) < (wrap64 ((l0.length : Int) * a1)) then (some true) else (some (x9_1 == 0))) else (none)) else (none)) = some r := H
       have A21 := Aside0.mk A210
       clear A210
       by_cases c22 : t536 = true
       ·subst c22
        have H1 : (if (wrap64 (x10_1 * a2)) ≥ (wrap64 ((l0.length : Int) * a1)) then (if (wrap64 (x9_1 * a2)) < (wrap64 ((l0.length : Int) * a1)) then (some true) else (some (x9_1 == 0))) else (none)) = some r := by rw [if_pos rfl] at H; exact H
        clear H
        have H := H1
        clear H1
        by_cases c23 : (wrap64 (x10_1 * a2)) ≥ (wrap64 ((l0.length : Int) * a1))
        ·rw [if_pos c23] at H
         have c23b0 : decide ((wrap64 ((l0.length : Int) * a1)) ≤ (wrap64 (x10_1 * a2))) = true := decide_eq_true c23
         clear c23
         by_cases c24 : (wrap64 (x9_1 * a2)) < (wrap64 ((l0.length : Int) * a1))
         ·rw [if_pos c24] at H
          have c24b0 : decide ((wrap64 (x9_1 * a2)) < (wrap64 ((l0.length : Int) * a1))) = true := decide_eq_true c24
          clear c24
          obtain rfl := Option.some.inj H
          go_wp2_with (first | ((with_reducible refine gqC (f := 33) rfl ?_); refine goesL_ (some 49) rfl rfl Try.func33 (by kernel_rfl) rfl #[.slice A0 l0.length c0, .int .i64 t534] rfl (by (try simp only [List.map_toArray, List.map_cons, List.map_nil]); first | done | rfl | (simp only [List.length_drop, List.length_take]; rfl)) ?_; (with_reducible refine (slices_Contains_int_int.calls k1 _ _ l0 t534 true _ ?side1 ?side2 A21.out).mono ?_); (case side1 => repeat (first | exact (Kd.C_below HR0.out HB.out) | (with_reducible refine Kd.C_alloc ?_ _) | (with_reducible refine Kd.C_drewN ?_ _) | (with_reducible refine Kd.C_drew ?_))); (case side2 => exact HC0.out); rintro e w' ⟨rfl, ⟨nd, rfl⟩⟩; refine ⟨_, rfl, ?_⟩))
          go_ret
          exact ⟨by first | rfl | (simp [errW_none, errW_some] <;> rfl) | (simp [*, errW_none, errW_some] <;> rfl), by repeat (first | (with_reducible first | exact HB.out | apply lqA | apply lqN | apply lqD) | exact HB.out)⟩
         ·rw [if_neg c24] at H
          have c24b0 : decide ((wrap64 (x9_1 * a2)) < (wrap64 ((l0.length : Int) * a1))) = false := decide_eq_false c24
          clear c24
          obtain rfl := Option.some.inj H
          go_wp2_with (first | ((with_reducible refine gqC (f := 33) rfl ?_); refine goesL_ (some 49) rfl rfl Try.func33 (by kernel_rfl) rfl #[.slice A0 l0.length c0, .int .i64 t534] rfl (by (try simp only [List.map_toArray, List.map_cons, List.map_nil]); first | done | rfl | (simp only [List.length_drop, List.length_take]; rfl)) ?_; (with_reducible refine (slices_Contains_int_int.calls k1 _ _ l0 t534 true _ ?side1 ?side2 A21.out).mono ?_); (case side1 => repeat (first | exact (Kd.C_below HR0.out HB.out) | (with_reducible refine Kd.C_alloc ?_ _) | (with_reducible refine Kd.C_drewN ?_ _) | (with_reducible refine Kd.C_drew ?_))); (case side2 => exact HC0.out); rintro e w' ⟨rfl, ⟨nd, rfl⟩⟩; refine ⟨_, rfl, ?_⟩))
          go_ret
          exact ⟨by first | rfl | (simp [errW_none, errW_some] <;> rfl) | (simp [*, errW_none, errW_some] <;> rfl), by repeat (first | (with_reducible first | exact HB.out | apply lqA | apply lqN | apply lqD) | exact HB.out)⟩
        ·rw [if_neg c23] at H
         exact absurd H (by simp)
       ·replace c22 := Bool.eq_false_iff.mpr c22
        subst c22
        have H1 : (none) = some r := by rw [if_neg (show ¬ (false = true) by decide)] at H; exact H
        clear H
        have H := H1
        clear H1
        exact absurd H (by simp)
   ·rw [if_neg c10] at H
    have c10b0 : (t535 == 0) = false := beq_eq_false_iff_ne.mpr c10
    try simp only [beq_self_eq_true, Bool.not_true, Bool.false_or, Bool.true_and] at c10b0
    have c10b1 : (t535 != 0) = true := bne_iff_ne.mpr c10
    obtain rfl := Option.some.inj H
    go_enter Try.func8, Try.ntmps8
    go_wp2_with (first | ((with_reducible refine gqC (f := 10) rfl ?_); refine goesL_ (some 13) rfl rfl Try.func10 (by kernel_rfl) rfl #[] rfl (by (try simp only [List.map_toArray, List.map_cons, List.map_nil]); first | done | rfl | (simp only [List.length_drop, List.length_take]; rfl)) ?_; (with_reducible refine (spilelaw33_awake.calls k  true _ A4.out).mono ?_); rintro e w25 ⟨rfl, hb⟩; refine ⟨_, rfl, ?_⟩; have n0_ := Aside0.mk (lqT (by repeat (first | (with_reducible first | exact HB.out | apply lqA | apply lqN | apply lqD) | exact HB.out)) hb); clear HB; have HB := n0_; clear n0_; (try clear hb); (try clear hb2); (try clear hk); (try clear hi)) | ((with_reducible refine gqC (f := 14) rfl ?_); refine goesL_ (some 20) rfl rfl Try.func14 (by kernel_rfl) rfl #[.slice A0 l0.length c0] rfl (by (try simp only [List.map_toArray, List.map_cons, List.map_nil]); first | done | rfl | (simp only [List.length_drop, List.length_take]; rfl)) ?_; (with_reducible refine (clone14.calls _ _ l0 t531 _ ?side1 ?side2 A8.out).mono ?_); (case side1 => repeat (first | exact (Kd.C_below HR0.out HB.out) | (with_reducible refine Kd.C_alloc ?_ _) | (with_reducible refine Kd.C_drewN ?_ _) | (with_reducible refine Kd.C_drew ?_))); (case side2 => exact HC0.out); rintro e w26 ⟨v532, rfl, ho0, hb⟩; refine ⟨_, rfl, ?_⟩; have n0_ := Aside0.mk (Kd.R_lower ho0 (lqZ (by repeat (first | (with_reducible first | exact HB.out | apply lqA | apply lqN | apply lqD) | exact HB.out)))); have n1_ := Aside0.mk (lqT (by repeat (first | (with_reducible first | exact HB.out | apply lqA | apply lqN | apply lqD) | exact HB.out)) hb); clear HB; have HO533 := n0_; have HB := n1_; clear n0_ n1_; (try clear hb); (try clear hb2); (try clear hk); (try clear hi); (try clear ho0); obtain ⟨Ao27, co27, eo27⟩ := Kd.R_slice HO533.out; subst eo27) | ((with_reducible refine gqC (f := 16) rfl ?_); refine goesL_ (some 23) rfl rfl Try.func16 (by kernel_rfl) rfl #[.slice Ao27 t531.length co27, .int .i64 a1, .int .i64 a2] rfl (by (try simp only [List.map_toArray, List.map_cons, List.map_nil]); first | done | rfl | (simp only [List.length_drop, List.length_take]; rfl)) ?_; (with_reducible refine (rank_Quantile.calls k _ _ t531 a1 a2 t534 t535 _ ?side1 ?side2 A9.out).mono ?_); (case side1 => repeat (first | exact (Kd.R_reads' HO533.out).2.2 | (with_reducible refine Kd.C_alloc ?_ _) | (with_reducible refine Kd.C_drewN ?_ _) | (with_reducible refine Kd.C_drew ?_))); (case side2 => exact (Kd.R_reads' HO533.out).2.1); rintro e w28 ⟨rfl, hb⟩; refine ⟨_, rfl, ?_⟩; have n0_ := Aside0.mk (Kd.R_below (by (with_reducible repeat (first | apply Kd.R_alloc | apply Kd.R_drewN | apply Kd.R_drew)); exact HO533.out) hb); have n1_ := Aside0.mk (lqT (by repeat (first | (with_reducible first | exact HB.out | apply lqA | apply lqN | apply lqD) | exact HB.out)) hb); clear HO533; clear HB; have HO533 := n0_; have HB := n1_; clear n0_ n1_; (try clear hb); (try clear hb2); (try clear hk); (try clear hi)))
    go_ret
    exact ⟨by first | rfl | (simp [errW_none, errW_some] <;> rfl) | (simp [*, errW_none, errW_some] <;> rfl), by repeat (first | (with_reducible first | exact HB.out | apply lqA | apply lqN | apply lqD) | exact HB.out)⟩
 ·replace c5 := Bool.eq_false_iff.mpr c5
  subst c5
  have H1 : (none) = some r := by rw [if_neg (show ¬ (false = true) by decide)] at H; exact H
  clear H
  have H := H1
  clear H1
  exact absurd H (by simp)

/-- THE ONE PURE STATEMENT of spilelaw33_RankQuantiles: yours. -/
def spilelaw33_RankQuantiles.Pure : Prop := ∀ (l0 : List Int) (a1 : Int) (a2 : Int), l0.length ≤ maxLen → l0.length * 8 ≤ 140737488351232 → (∀ x ∈ l0, (Lit.int .i64 x).wf = true) → (Lit.int .i64 a1).wf = true → (Lit.int .i64 a2).wf = true → ∃ k, spilelaw33_RankQuantiles.f k l0 a1 a2 = some true
theorem spilelaw33_RankQuantiles.walk (P : spilelaw33_RankQuantiles.Pure) (a0 : Option Addr) (len0 cap0 : Nat) (z0 : List Int) (a1 : Int) (a2 : Int) (w : World) (w0 : (a0 = none ∧ len0 = 0 ∧ cap0 = 0 ∧ z0 = []) ∨ ∃ x, a0 = some x ∧ len0 ≤ cap0 ∧ cap0 ≤ maxLen ∧ z0.length = cap0 ∧ (∀ i, i < z0.length → w.cell? (x.add i) = some (.int .i64 (z0.getD i 0))) ∧ ∀ n ∈ z0, (Lit.int .i64 n).wf = true) (y0 : len0 * 8 ≤ 140737488351232) (w1 : (Lit.int .i64 a1).wf = true) (w2 : (Lit.int .i64 a2).wf = true) :
  Calls Try.prog 8 #[.slice a0 len0 cap0, .int .i64 a1, .int .i64 a2] w fun e w' => e = .returned (.bool true) ∧ Below w.heap.size w w' := by
 obtain ⟨l0, rfl, hr0, hm0, hw0, hc0⟩ := ReadsInt.ofRowC w0
 obtain ⟨k, h⟩ := P l0 a1 a2 hm0 y0 hw0 w1 w2
 refine (spilelaw33_RankQuantiles.calls k _ _ l0 a1 a2 true w (Kd.C_of_reads (d := (0 : Int)) (h1 := fun _ => rfl) hr0) hc0 h).mono ?_
 rintro e w' ⟨rfl, hd⟩
 exact ⟨rfl, hd⟩

-- GIVEN: function 34 (slices_Max_int_int)

-- GIVEN: function 35 (slices_Min_int_int)

-- NOT PRINTED: function 52 (slices_Compact_int_int)

-- GIVEN: function 36 (spilelaw33_equal)

end Go.Proofs.Ytbkoghmbacdiiaa.K
