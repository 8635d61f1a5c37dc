-- PRINTED by print.py (a twelfth state) out of the translation. Not trusted: Lean checks it.
import Derived.Test.YtbkoghmbacdiiaaK0
import Derived.Test.YtbkoghmbacdiiaaK19a
import Derived.Test.YtbkoghmbacdiiaaK9
import Derived.Test.YtbkoghmbacdiiaaK10
import Derived.Test.YtbkoghmbacdiiaaGClone
import Derived.Test.YtbkoghmbacdiiaaGCont
namespace Go.Proofs.Ytbkoghmbacdiiaa.K
open Go.RowKit Go.Proofs.YtbkoghmbacdiiaaW.PrintWords Go.Proofs.YtbkoghmbacdiiaaW.PrintLast Go.Proofs.YtbkoghmbacdiiaaW.PrintMore
attribute [local go_sem] max2_int min2_int max_two min_two max_three min_three max_four min_four   -- for this text's walks alone
set_option linter.unusedVariables false
set_option linter.unusedSimpArgs false

/-! ### spilelaw33_RankSums: function 7 -/
mutual
def spilelaw33_RankSums.l0 : Nat → List Int → List Int → Int → List Int → Int → Int → Option (Bool)
 | 0, _, _, _, _, _, _ => none
 | k + 1, x0, x3, x5, x6, x34, x35 => if x35 < x34 then (if 0 ≤ x35 then (if x35 < (x3.length : Int) then (if x35 < (x0.length : Int) then (if x6.length < 17592186044416 then (spilelaw33_RankSums.l1 k x0 x3 (wrap64 (x5 + (rd x3 x35))) (x6 ++ [wrap64 (Int.tdiv (rd x0 x35) 2)]) x35 x34 x35 (x0.length : Int) 0) else (none)) else (none)) else (none)) else (none)) else ((odd30.f x0).bind fun t522 => (if t522 = true then (some (x5 == (wrap64 ((x0.length : Int) * (wrap64 ((x0.length : Int) + 1)))))) else ((rank_Ranks.f k x6).bind fun bt523 => (if bt523.2 = 0 then ((slices_Equal_int_int.f k bt523.1 x3).bind fun t527 => (if t527 = true then (some (x5 == (wrap64 ((x0.length : Int) * (wrap64 ((x0.length : Int) + 1)))))) else (none))) else (none)))))
def spilelaw33_RankSums.l1 : Nat → List Int → List Int → Int → List Int → Int → Int → Int → Int → Int → Option (Bool)
 | 0, _, _, _, _, _, _, _, _, _ => none
 | k + 1, x0, x3, x5, x6, x7, x34, x35, x53, x54 => if x54 < x53 then (if 0 ≤ x7 then (if x7 < (x0.length : Int) then (if 0 ≤ x54 then (if x54 < (x0.length : Int) then (if x7 < (x3.length : Int) then (if x54 < (x3.length : Int) then (if ((decide ((rd x0 x7) < (rd x0 x54))) != (decide ((rd x3 x7) < (rd x3 x54)))) = true then (none) else (spilelaw33_RankSums.l1 k x0 x3 x5 x6 x7 x34 x35 x53 (wrap64 (x54 + 1)))) else (none)) else (none)) else (none)) else (none)) else (none)) else (none)) else (spilelaw33_RankSums.l0 k x0 x3 x5 x6 x34 (wrap64 (x35 + 1)))
end
def spilelaw33_RankSums.f (k : Nat) (l0 : List Int) : Option (Bool) := (spilelaw33_awake.f k).bind fun t502 => (if t502 = true then (if (l0.length : Int) > 12 then (some true) else ((clone14.f l0).bind fun t503 => ((rank_Ranks.f k t503).bind fun bt506 => (if bt506.2 = 0 then (if (bt506.1.length : Int) = (l0.length : Int) then (spilelaw33_RankSums.l0 k l0 bt506.1 0 (([] : List Int)) (l0.length : Int) 0) else (none)) else (some ((bt506.1.length : Int) == 0)))))) else (none))
theorem spilelaw33_RankSums.mono_l : ∀ k, (∀ y0 y1 y2 y3 y4 y5, LeO (spilelaw33_RankSums.l0 k y0 y1 y2 y3 y4 y5) (spilelaw33_RankSums.l0 (k + 1) y0 y1 y2 y3 y4 y5)) ∧ (∀ y0 y1 y2 y3 y4 y5 y6 y7 y8, LeO (spilelaw33_RankSums.l1 k y0 y1 y2 y3 y4 y5 y6 y7 y8) (spilelaw33_RankSums.l1 (k + 1) y0 y1 y2 y3 y4 y5 y6 y7 y8))
 | 0 => ⟨fun _ _ _ _ _ _ r h => by simp [spilelaw33_RankSums.l0] at h, fun _ _ _ _ _ _ _ _ _ r h => by simp [spilelaw33_RankSums.l1] at h⟩
 | k + 1 => by
  obtain ⟨ih0, ih1⟩ := spilelaw33_RankSums.mono_l k
  refine ⟨?_, ?_⟩
  ·intro y0 y1 y2 y3 y4 y5
   unfold spilelaw33_RankSums.l0
   repeat' first
   | (with_reducible exact ih0 _ _ _ _ _ _)
   | (with_reducible exact ih1 _ _ _ _ _ _ _ _ _)
   | (with_reducible exact rank_Ranks.mono _ _)
   | (with_reducible exact slices_Equal_int_int.mono _ _ _)
   | (with_reducible exact spilelaw33_awake.mono _)
   | (with_reducible exact LeO.refl _)
   | (with_reducible exact LeO.none _)
   | (with_reducible refine LeO.ite ?_ ?_)
   | (with_reducible refine LeO.bind ?_ (fun _ => ?_))
   | exact ih0 _ _ _ _ _ _
   | exact ih1 _ _ _ _ _ _ _ _ _
   | exact rank_Ranks.mono _ _
   | exact slices_Equal_int_int.mono _ _ _
   | exact spilelaw33_awake.mono _
   | exact LeO.none _
   | refine LeO.ite ?_ ?_
   | refine LeO.bind ?_ (fun _ => ?_)
  ·intro y0 y1 y2 y3 y4 y5 y6 y7 y8
   unfold spilelaw33_RankSums.l1
   repeat' first
   | (with_reducible exact ih0 _ _ _ _ _ _)
   | (with_reducible exact ih1 _ _ _ _ _ _ _ _ _)
   | (with_reducible exact rank_Ranks.mono _ _)
   | (with_reducible exact slices_Equal_int_int.mono _ _ _)
   | (with_reducible exact spilelaw33_awake.mono _)
   | (with_reducible exact LeO.refl _)
   | (with_reducible exact LeO.none _)
   | (with_reducible refine LeO.ite ?_ ?_)
   | (with_reducible refine LeO.bind ?_ (fun _ => ?_))
   | exact ih0 _ _ _ _ _ _
   | exact ih1 _ _ _ _ _ _ _ _ _
   | exact rank_Ranks.mono _ _
   | exact slices_Equal_int_int.mono _ _ _
   | exact spilelaw33_awake.mono _
   | exact LeO.none _
   | refine LeO.ite ?_ ?_
   | refine LeO.bind ?_ (fun _ => ?_)
theorem spilelaw33_RankSums.mono : ∀ a0 k, LeO (spilelaw33_RankSums.f k a0) (spilelaw33_RankSums.f (k + 1) a0) := by
 intro a0 k
 obtain ⟨ih0, ih1⟩ := spilelaw33_RankSums.mono_l k
 unfold spilelaw33_RankSums.f
 repeat' first
   | (with_reducible exact ih0 _ _ _ _ _ _)
   | (with_reducible exact ih1 _ _ _ _ _ _ _ _ _)
   | (with_reducible exact rank_Ranks.mono _ _)
   | (with_reducible exact slices_Equal_int_int.mono _ _ _)
   | (with_reducible exact spilelaw33_awake.mono _)
   | (with_reducible exact LeO.refl _)
   | (with_reducible exact LeO.none _)
   | (with_reducible refine LeO.ite ?_ ?_)
   | (with_reducible refine LeO.bind ?_ (fun _ => ?_))
   | exact ih0 _ _ _ _ _ _
   | exact ih1 _ _ _ _ _ _ _ _ _
   | exact rank_Ranks.mono _ _
   | exact slices_Equal_int_int.mono _ _ _
   | exact spilelaw33_awake.mono _
   | exact LeO.none _
   | refine LeO.ite ?_ ?_
   | refine LeO.bind ?_ (fun _ => ?_)
set_option maxHeartbeats 8000000 in
set_option maxRecDepth 100000 in
theorem spilelaw33_RankSums.calls (k : Nat) (A0 : Option Addr) (c0 : Nat) (l0 : List Int) (r : Bool) (w : World) (hr0 : Kd.C (Kd.int .i64) w A0 l0.length l0) (hc0 : l0.length ≤ c0) (h : spilelaw33_RankSums.f k l0 = some r) :
  Calls Try.prog 7 #[.slice A0 l0.length c0] w fun e w' => e = .returned (.bool r) ∧ Below w.heap.size w w' := by
 have HR0 := Aside0.mk hr0
 have HC0 := Aside0.mk hc0
 clear hr0 hc0
 have HB := Aside0.mk (Below.refl w.heap.size w)
 have H : ((spilelaw33_awake.f k).bind fun t502 => (if t502 = true then (if (l0.length : Int) > 12 then (some true) else ((clone14.f l0).bind fun t503 => ((rank_Ranks.f k t503).bind fun bt506 => (if bt506.2 = 0 then (if (bt506.1.length : Int) = (l0.length : Int) then (spilelaw33_RankSums.l0 k l0 bt506.1 0 (([] : List Int)) (l0.length : Int) 0) else (none)) else (some ((bt506.1.length : Int) == 0)))))) else (none))) = some r := h
 clear h
 replace H := Option.bind_eq_some_iff.mp H
 obtain ⟨t502, A20, H⟩ := H
 replace H : (if t502 = true then (if (l0.length : Int) > 12 then (some true) else ((clone14.f l0).bind fun t503 => ((rank_Ranks.f k t503).bind fun bt506 => (if bt506.2 = 0 then (if (bt506.1.length : Int) = (l0.length : Int) then (spilelaw33_RankSums.l0 k l0 bt506.1 0 (([] : List Int)) (l0.length : Int) 0) else (none)) else (some ((bt506.1.length : Int) == 0)))))) else (none)) = some r := H
 have A2 := Aside0.mk A20
 clear A20
 by_cases c3 : t502 = true
 ·subst c3
  have H1 : (if (l0.length : Int) > 12 then (some true) else ((clone14.f l0).bind fun t503 => ((rank_Ranks.f k t503).bind fun bt506 => (if bt506.2 = 0 then (if (bt506.1.length : Int) = (l0.length : Int) then (spilelaw33_RankSums.l0 k l0 bt506.1 0 (([] : List Int)) (l0.length : Int) 0) else (none)) else (some ((bt506.1.length : Int) == 0)))))) = some r := by rw [if_pos rfl] at H; exact H
  clear H
  have H := H1
  clear H1
  by_cases c4 : (l0.length : Int) > 12
  ·rw [if_pos c4] at H
   have c4b0 : decide (12 < (l0.length : Int)) = true := decide_eq_true c4
   have c4b1 : decide (12 < l0.length) = true := decide_eq_true (by omega)
   clear c4
   obtain rfl := Option.some.inj H
   go_enter Try.func7, Try.ntmps7
   go_wp2_with (first | (go_at_call 10; (with_reducible refine (spilelaw33_awake.calls k  true _ A2.out).mono ?_); rintro e w5 ⟨rfl, hb⟩; have n0_ := Aside0.mk (lqT (by repeat (first | (with_reducible first | exact HB.out | apply lqA | apply lqN | apply lqD) | exact HB.out)) hb); clear HB; have HB := n0_; clear n0_; (try clear hb); (try clear hb2); (try clear hk); (try clear hi)))
   repeat (go_quiet (first | (go_at_call 10; (with_reducible refine (spilelaw33_awake.calls k  true _ A2.out).mono ?_); rintro e w5 ⟨rfl, hb⟩; have n0_ := Aside0.mk (lqT (by repeat (first | (with_reducible first | exact HB.out | apply lqA | apply lqN | apply lqD) | exact HB.out)) hb); clear HB; have HB := n0_; clear n0_; (try clear hb); (try clear hb2); (try clear hk); (try clear hi))); try go_wp2_with (first | (go_at_call 10; (with_reducible refine (spilelaw33_awake.calls k  true _ A2.out).mono ?_); rintro e w5 ⟨rfl, hb⟩; have n0_ := Aside0.mk (lqT (by repeat (first | (with_reducible first | exact HB.out | apply lqA | apply lqN | apply lqD) | exact HB.out)) hb); clear HB; have HB := n0_; clear n0_; (try clear hb); (try clear hb2); (try clear hk); (try clear hi))))
   go_ret
   exact ⟨by first | rfl | (simp [errW_none, errW_some] <;> rfl) | (simp [*, errW_none, errW_some] <;> rfl), by repeat (first | (with_reducible first | exact HB.out | apply lqA | apply lqN | apply lqD) | exact HB.out)⟩
  ·rw [if_neg c4] at H
   have c4b0 : decide (12 < (l0.length : Int)) = false := decide_eq_false c4
   have c4b1 : decide (12 < l0.length) = false := decide_eq_false (by omega)
   clear c4
   replace H := Option.bind_eq_some_iff.mp H
   obtain ⟨t503, A60, H⟩ := H
   replace H : ((rank_Ranks.f k t503).bind fun bt506 => (if bt506.2 = 0 then (if (bt506.1.length : Int) = (l0.length : Int) then (spilelaw33_RankSums.l0 k l0 bt506.1 0 (([] : List Int)) (l0.length : Int) 0) else (none)) else (some ((bt506.1.length : Int) == 0)))) = some r := H
   have A6 := Aside0.mk A60
   clear A60
   replace H := Option.bind_eq_some_iff.mp H
   obtain ⟨⟨t506, t507⟩, A70, H⟩ := H
   replace H : (if t507 = 0 then (if (t506.length : Int) = (l0.length : Int) then (spilelaw33_RankSums.l0 k l0 t506 0 (([] : List Int)) (l0.length : Int) 0) else (none)) else (some ((t506.length : Int) == 0))) = some r := H
   have A7 := Aside0.mk A70
   clear A70
   by_cases c8 : t507 = 0
   ·rw [if_pos c8] at H
    have c8b0 : (t507 == 0) = true := beq_iff_eq.mpr c8
    try simp only [beq_self_eq_true, Bool.not_true, Bool.false_or, Bool.true_and] at c8b0
    have c8b1 : (t507 != 0) = false := bne_eq_false_iff_eq.mpr c8
    clear c8
    by_cases c9 : (t506.length : Int) = (l0.length : Int)
    ·rw [if_pos c9] at H
     have c9b0 : ((t506.length : Int) == (l0.length : Int)) = true := beq_iff_eq.mpr c9
     try simp only [beq_self_eq_true, Bool.not_true, Bool.false_or, Bool.true_and] at c9b0
     have c9b1 : ((t506.length : Int) != (l0.length : Int)) = false := bne_eq_false_iff_eq.mpr c9
     have c9b2 : (t506.length == l0.length) = true := by first | simpa using c9 | (simp at c9 ⊢; omega)
     clear c9
     obtain ⟨y510, hy510⟩ : ∃ y_ : List Int, y_ = (([] : List Int)) := ⟨_, rfl⟩
     replace H : (spilelaw33_RankSums.l0 k l0 t506 0 y510 (l0.length : Int) 0) = some r := by first | (rw [hy510]; with_reducible exact H) | (have H2_ := (Option.bind_some _ _).symm.trans H; rw [hy510]; with_reducible exact H2_) | (have H2_ := (Option.bind_some _ _).symm.trans H; with_reducible exact H2_) | with_reducible exact H | (rw [hy510]; exact H) | exact H
     have Ny510 := Aside0.mk hy510
     clear hy510
     have H' := Aside0.mk H
     clear H
     go_enter Try.func7, Try.ntmps7
     go_wp2_with (first | (go_at_call 10; (with_reducible refine (spilelaw33_awake.calls k  true _ A2.out).mono ?_); rintro e w10 ⟨rfl, hb⟩; have n0_ := Aside0.mk (lqT (by repeat (first | (with_reducible first | exact HB.out | apply lqA | apply lqN | apply lqD) | exact HB.out)) hb); clear HB; have HB := n0_; clear n0_; (try clear hb); (try clear hb2); (try clear hk); (try clear hi)) | (go_at_call 14; (with_reducible refine (clone14.calls _ _ l0 t503 _ ?side1 ?side2 A6.out).mono ?_); (case side1 => repeat (first | exact (Kd.C_below HR0.out HB.out) | (with_reducible refine Kd.C_alloc ?_ _) | (with_reducible refine Kd.C_drewN ?_ _) | (with_reducible refine Kd.C_drew ?_))); (case side2 => exact HC0.out); rintro e w11 ⟨v504, rfl, ho0, hb⟩; have n0_ := Aside0.mk (Kd.R_lower ho0 (lqZ (by repeat (first | (with_reducible first | exact HB.out | apply lqA | apply lqN | apply lqD) | exact HB.out)))); have n1_ := Aside0.mk (lqT (by repeat (first | (with_reducible first | exact HB.out | apply lqA | apply lqN | apply lqD) | exact HB.out)) hb); clear HB; have HO505 := n0_; have HB := n1_; clear n0_ n1_; (try clear hb); (try clear hb2); (try clear hk); (try clear hi); (try clear ho0); obtain ⟨Ao12, co12, eo12⟩ := Kd.R_slice HO505.out; subst eo12) | (go_at_call 18; (with_reducible refine (rank_Ranks.calls k _ _ t503 t506 t507 _ ?side1 ?side2 A7.out).mono ?_); (case side1 => repeat (first | exact (Kd.R_reads' HO505.out).2.2 | (with_reducible refine Kd.C_alloc ?_ _) | (with_reducible refine Kd.C_drewN ?_ _) | (with_reducible refine Kd.C_drew ?_))); (case side2 => exact (Kd.R_reads' HO505.out).2.1); rintro e w13 ⟨v508, rfl, ho0, hb⟩; have n0_ := Aside0.mk (Kd.R_elder' (by (with_reducible repeat (first | apply Kd.R_alloc | apply Kd.R_drewN | apply Kd.R_drew)); exact HO505.out) (Kd.R_base ho0) hb); have n1_ := Aside0.mk (Kd.R_lower (Kd.R_new' ho0 (Kd.R_lt (by (with_reducible repeat (first | apply Kd.R_alloc | apply Kd.R_drewN | apply Kd.R_drew)); exact HO505.out))) (lqZ (by repeat (first | (with_reducible first | exact HB.out | apply lqA | apply lqN | apply lqD) | exact HB.out)))); have n2_ := Aside0.mk (lqT (by repeat (first | (with_reducible first | exact HB.out | apply lqA | apply lqN | apply lqD) | exact HB.out)) hb); clear HO505; clear HB; have HO505 := n0_; have HO509 := n1_; have HB := n2_; clear n0_ n1_ n2_; (try clear hb); (try clear hb2); (try clear hk); (try clear hi); (try clear ho0); obtain ⟨Ao14, co14, eo14⟩ := Kd.R_slice HO509.out; subst eo14) | ((with_reducible refine gqD (N := 32) rfl ?_); refine Kd.R_lit (Kd.int .i64) _ 3 ?hg (N := 32) ?hd (xs := ([] : List Int)) (inner := []) (ok := fun _ => True) (okp := fun _ => True) ?hr ?hp (fun _ hk => hk) trivial (Below.refl _ _) (Nat.le_refl _) (by simp) ?_; (case hd => rfl); (case hg => rfl); (case hr => first | (go_simp; done) | (go_simp; rfl)); (case hp => exact (Reps.none _ _)); intro v511 w15 ho16 hb hg_ hnew_; clear hg_ hnew_; (first | rw [← Ny510.out] at ho16 | (simp only [Int.reduceToNat] at ho16; rw [← Ny510.out] at ho16)); have n0_ := Aside0.mk (Kd.R_elder' (by (with_reducible repeat (first | apply Kd.R_alloc | apply Kd.R_drewN | apply Kd.R_drew)); exact HO505.out) (Kd.R_base ho16) hb); have n1_ := Aside0.mk (Kd.R_elder' (by (with_reducible repeat (first | apply Kd.R_alloc | apply Kd.R_drewN | apply Kd.R_drew)); exact HO509.out) (Kd.R_base ho16) hb); have n2_ := Aside0.mk (Kd.R_lower (Kd.R_new' (Kd.R_new' ho16 (Kd.R_lt (by (with_reducible repeat (first | apply Kd.R_alloc | apply Kd.R_drewN | apply Kd.R_drew)); exact HO505.out))) (Kd.R_lt (by (with_reducible repeat (first | apply Kd.R_alloc | apply Kd.R_drewN | apply Kd.R_drew)); exact HO509.out))) (lqZ (by repeat (first | (with_reducible first | exact HB.out | apply lqA | apply lqN | apply lqD) | exact HB.out)))); have n3_ := Aside0.mk (lqT (by repeat (first | (with_reducible first | exact HB.out | apply lqA | apply lqN | apply lqD) | exact HB.out)) hb); clear HO505; clear HO509; clear HB; have HO505 := n0_; have HO509 := n1_; have HO512 := n2_; have HB := n3_; clear n0_ n1_ n2_ n3_; clear hb ho16))
     repeat (go_quiet (first | (go_at_call 10; (with_reducible refine (spilelaw33_awake.calls k  true _ A2.out).mono ?_); rintro e w10 ⟨rfl, hb⟩; have n0_ := Aside0.mk (lqT (by repeat (first | (with_reducible first | exact HB.out | apply lqA | apply lqN | apply lqD) | exact HB.out)) hb); clear HB; have HB := n0_; clear n0_; (try clear hb); (try clear hb2); (try clear hk); (try clear hi)) | (go_at_call 14; (with_reducible refine (clone14.calls _ _ l0 t503 _ ?side1 ?side2 A6.out).mono ?_); (case side1 => repeat (first | exact (Kd.C_below HR0.out HB.out) | (with_reducible refine Kd.C_alloc ?_ _) | (with_reducible refine Kd.C_drewN ?_ _) | (with_reducible refine Kd.C_drew ?_))); (case side2 => exact HC0.out); rintro e w11 ⟨v504, rfl, ho0, hb⟩; have n0_ := Aside0.mk (Kd.R_lower ho0 (lqZ (by repeat (first | (with_reducible first | exact HB.out | apply lqA | apply lqN | apply lqD) | exact HB.out)))); have n1_ := Aside0.mk (lqT (by repeat (first | (with_reducible first | exact HB.out | apply lqA | apply lqN | apply lqD) | exact HB.out)) hb); clear HB; have HO505 := n0_; have HB := n1_; clear n0_ n1_; (try clear hb); (try clear hb2); (try clear hk); (try clear hi); (try clear ho0); obtain ⟨Ao12, co12, eo12⟩ := Kd.R_slice HO505.out; subst eo12) | (go_at_call 18; (with_reducible refine (rank_Ranks.calls k _ _ t503 t506 t507 _ ?side1 ?side2 A7.out).mono ?_); (case side1 => repeat (first | exact (Kd.R_reads' HO505.out).2.2 | (with_reducible refine Kd.C_alloc ?_ _) | (with_reducible refine Kd.C_drewN ?_ _) | (with_reducible refine Kd.C_drew ?_))); (case side2 => exact (Kd.R_reads' HO505.out).2.1); rintro e w13 ⟨v508, rfl, ho0, hb⟩; have n0_ := Aside0.mk (Kd.R_elder' (by (with_reducible repeat (first | apply Kd.R_alloc | apply Kd.R_drewN | apply Kd.R_drew)); exact HO505.out) (Kd.R_base ho0) hb); have n1_ := Aside0.mk (Kd.R_lower (Kd.R_new' ho0 (Kd.R_lt (by (with_reducible repeat (first | apply Kd.R_alloc | apply Kd.R_drewN | apply Kd.R_drew)); exact HO505.out))) (lqZ (by repeat (first | (with_reducible first | exact HB.out | apply lqA | apply lqN | apply lqD) | exact HB.out)))); have n2_ := Aside0.mk (lqT (by repeat (first | (with_reducible first | exact HB.out | apply lqA | apply lqN | apply lqD) | exact HB.out)) hb); clear HO505; clear HB; have HO505 := n0_; have HO509 := n1_; have HB := n2_; clear n0_ n1_ n2_; (try clear hb); (try clear hb2); (try clear hk); (try clear hi); (try clear ho0); obtain ⟨Ao14, co14, eo14⟩ := Kd.R_slice HO509.out; subst eo14) | ((with_reducible refine gqD (N := 32) rfl ?_); refine Kd.R_lit (Kd.int .i64) _ 3 ?hg (N := 32) ?hd (xs := ([] : List Int)) (inner := []) (ok := fun _ => True) (okp := fun _ => True) ?hr ?hp (fun _ hk => hk) trivial (Below.refl _ _) (Nat.le_refl _) (by simp) ?_; (case hd => rfl); (case hg => rfl); (case hr => first | (go_simp; done) | (go_simp; rfl)); (case hp => exact (Reps.none _ _)); intro v511 w15 ho16 hb hg_ hnew_; clear hg_ hnew_; (first | rw [← Ny510.out] at ho16 | (simp only [Int.reduceToNat] at ho16; rw [← Ny510.out] at ho16)); have n0_ := Aside0.mk (Kd.R_elder' (by (with_reducible repeat (first | apply Kd.R_alloc | apply Kd.R_drewN | apply Kd.R_drew)); exact HO505.out) (Kd.R_base ho16) hb); have n1_ := Aside0.mk (Kd.R_elder' (by (with_reducible repeat (first | apply Kd.R_alloc | apply Kd.R_drewN | apply Kd.R_drew)); exact HO509.out) (Kd.R_base ho16) hb); have n2_ := Aside0.mk (Kd.R_lower (Kd.R_new' (Kd.R_new' ho16 (Kd.R_lt (by (with_reducible repeat (first | apply Kd.R_alloc | apply Kd.R_drewN | apply Kd.R_drew)); exact HO505.out))) (Kd.R_lt (by (with_reducible repeat (first | apply Kd.R_alloc | apply Kd.R_drewN | apply Kd.R_drew)); exact HO509.out))) (lqZ (by repeat (first | (with_reducible first | exact HB.out | apply lqA | apply lqN | apply lqD) | exact HB.out)))); have n3_ := Aside0.mk (lqT (by repeat (first | (with_reducible first | exact HB.out | apply lqA | apply lqN | apply lqD) | exact HB.out)) hb); clear HO505; clear HO509; clear HB; have HO505 := n0_; have HO509 := n1_; have HO512 := n2_; have HB := n3_; clear n0_ n1_ n2_ n3_; clear hb ho16)); try go_wp2_with (first | (go_at_call 10; (with_reducible refine (spilelaw33_awake.calls k  true _ A2.out).mono ?_); rintro e w10 ⟨rfl, hb⟩; have n0_ := Aside0.mk (lqT (by repeat (first | (with_reducible first | exact HB.out | apply lqA | apply lqN | apply lqD) | exact HB.out)) hb); clear HB; have HB := n0_; clear n0_; (try clear hb); (try clear hb2); (try clear hk); (try clear hi)) | (go_at_call 14; (with_reducible refine (clone14.calls _ _ l0 t503 _ ?side1 ?side2 A6.out).mono ?_); (case side1 => repeat (first | exact (Kd.C_below HR0.out HB.out) | (with_reducible refine Kd.C_alloc ?_ _) | (with_reducible refine Kd.C_drewN ?_ _) | (with_reducible refine Kd.C_drew ?_))); (case side2 => exact HC0.out); rintro e w11 ⟨v504, rfl, ho0, hb⟩; have n0_ := Aside0.mk (Kd.R_lower ho0 (lqZ (by repeat (first | (with_reducible first | exact HB.out | apply lqA | apply lqN | apply lqD) | exact HB.out)))); have n1_ := Aside0.mk (lqT (by repeat (first | (with_reducible first | exact HB.out | apply lqA | apply lqN | apply lqD) | exact HB.out)) hb); clear HB; have HO505 := n0_; have HB := n1_; clear n0_ n1_; (try clear hb); (try clear hb2); (try clear hk); (try clear hi); (try clear ho0); obtain ⟨Ao12, co12, eo12⟩ := Kd.R_slice HO505.out; subst eo12) | (go_at_call 18; (with_reducible refine (rank_Ranks.calls k _ _ t503 t506 t507 _ ?side1 ?side2 A7.out).mono ?_); (case side1 => repeat (first | exact (Kd.R_reads' HO505.out).2.2 | (with_reducible refine Kd.C_alloc ?_ _) | (with_reducible refine Kd.C_drewN ?_ _) | (with_reducible refine Kd.C_drew ?_))); (case side2 => exact (Kd.R_reads' HO505.out).2.1); rintro e w13 ⟨v508, rfl, ho0, hb⟩; have n0_ := Aside0.mk (Kd.R_elder' (by (with_reducible repeat (first | apply Kd.R_alloc | apply Kd.R_drewN | apply Kd.R_drew)); exact HO505.out) (Kd.R_base ho0) hb); have n1_ := Aside0.mk (Kd.R_lower (Kd.R_new' ho0 (Kd.R_lt (by (with_reducible repeat (first | apply Kd.R_alloc | apply Kd.R_drewN | apply Kd.R_drew)); exact HO505.out))) (lqZ (by repeat (first | (with_reducible first | exact HB.out | apply lqA | apply lqN | apply lqD) | exact HB.out)))); have n2_ := Aside0.mk (lqT (by repeat (first | (with_reducible first | exact HB.out | apply lqA | apply lqN | apply lqD) | exact HB.out)) hb); clear HO505; clear HB; have HO505 := n0_; have HO509 := n1_; have HB := n2_; clear n0_ n1_ n2_; (try clear hb); (try clear hb2); (try clear hk); (try clear hi); (try clear ho0); obtain ⟨Ao14, co14, eo14⟩ := Kd.R_slice HO509.out; subst eo14) | ((with_reducible refine gqD (N := 32) rfl ?_); refine Kd.R_lit (Kd.int .i64) _ 3 ?hg (N := 32) ?hd (xs := ([] : List Int)) (inner := []) (ok := fun _ => True) (okp := fun _ => True) ?hr ?hp (fun _ hk => hk) trivial (Below.refl _ _) (Nat.le_refl _) (by simp) ?_; (case hd => rfl); (case hg => rfl); (case hr => first | (go_simp; done) | (go_simp; rfl)); (case hp => exact (Reps.none _ _)); intro v511 w15 ho16 hb hg_ hnew_; clear hg_ hnew_; (first | rw [← Ny510.out] at ho16 | (simp only [Int.reduceToNat] at ho16; rw [← Ny510.out] at ho16)); have n0_ := Aside0.mk (Kd.R_elder' (by (with_reducible repeat (first | apply Kd.R_alloc | apply Kd.R_drewN | apply Kd.R_drew)); exact HO505.out) (Kd.R_base ho16) hb); have n1_ := Aside0.mk (Kd.R_elder' (by (with_reducible repeat (first | apply Kd.R_alloc | apply Kd.R_drewN | apply Kd.R_drew)); exact HO509.out) (Kd.R_base ho16) hb); have n2_ := Aside0.mk (Kd.R_lower (Kd.R_new' (Kd.R_new' ho16 (Kd.R_lt (by (with_reducible repeat (first | apply Kd.R_alloc | apply Kd.R_drewN | apply Kd.R_drew)); exact HO505.out))) (Kd.R_lt (by (with_reducible repeat (first | apply Kd.R_alloc | apply Kd.R_drewN | apply Kd.R_drew)); exact HO509.out))) (lqZ (by repeat (first | (with_reducible first | exact HB.out | apply lqA | apply lqN | apply lqD) | exact HB.out)))); have n3_ := Aside0.mk (lqT (by repeat (first | (with_reducible first | exact HB.out | apply lqA | apply lqN | apply lqD) | exact HB.out)) hb); clear HO505; clear HO509; clear HB; have HO505 := n0_; have HO509 := n1_; have HO512 := n2_; have HB := n3_; clear n0_ n1_ n2_ n3_; clear hb ho16)))
     go_loopg [5, 6, 35] k (fun kq v5 v6 v35 w' => ∃ (x5_1 : Int) (x6_1 : List Int) (x35_1 : Int), v5 = .int .i64 x5_1 ∧ v35 = .int .i64 x35_1 ∧ Aside0 (spilelaw33_RankSums.l0 kq l0 t506 x5_1 x6_1 (l0.length : Int) x35_1 = some r) ∧ Aside0 (kq ≤ k) ∧ Aside0 (Kd.R (Kd.int .i64) 3 w' w.heap.size (fun k_ => some k_ ≠ (v6 : Value).ownBlock) (.slice Ao14 t506.length co14) t506) ∧ Aside0 (Kd.R (Kd.int .i64) 3 w' w.heap.size (fun k_ => some k_ ≠ ((.slice Ao14 t506.length co14) : Value).ownBlock) v6 x6_1) ∧ Aside0 (Below w.heap.size w w'))
     case atStart => exact ⟨(0), (y510), (0), (by first | rfl | (simp; done) | (simp [*]; done)), (by first | rfl | (simp; done) | (simp [*]; done)), H', ⟨Nat.le_refl _⟩, ⟨by (with_reducible repeat (first | apply Kd.R_alloc | apply Kd.R_drewN | apply Kd.R_drew)); exact Kd.R_mono HO509.out (fun _ hk => hk.2)⟩, ⟨by (with_reducible repeat (first | apply Kd.R_alloc | apply Kd.R_drewN | apply Kd.R_drew)); exact Kd.R_mono HO512.out (fun _ hk => hk.2)⟩, ⟨by repeat (first | (with_reducible first | exact HB.out | apply lqA | apply lqN | apply lqD) | exact HB.out)⟩⟩
     case round =>
      clear H'
      try clear p2
      try clear c3
      try clear c4
      try clear c4b0
      try clear c4b1
      try clear c7
      try clear c8
      try clear c8b0
      try clear c8b1
      try clear c9
      try clear c9b0
      try clear c9b1
      try clear c9b2
      obtain ⟨x5_1, x6_1, x35_1, rfl, rfl, HA, HK1, HO_3, HO_6, HB⟩ := hrel
      cases gk with
      | zero => exact absurd HA.out (by simp [spilelaw33_RankSums.l0])
      | succ k1 =>
       have H := HA.out
       clear HA
       simp only [spilelaw33_RankSums.l0] at H
       by_cases c17 : x35_1 < (l0.length : Int)
       ·rw [if_pos c17] at H
        have c17b0 : decide (x35_1 < (l0.length : Int)) = true := decide_eq_true c17
        clear c17
        by_cases c18 : 0 ≤ x35_1
        ·rw [if_pos c18] at H
         have c18b0 : decide (0 ≤ x35_1) = true := decide_eq_true c18
         clear c18
         by_cases c19 : x35_1 < (t506.length : Int)
         ·rw [if_pos c19] at H
          have c19b0 : decide (x35_1 < (t506.length : Int)) = true := decide_eq_true c19
          clear c19
          by_cases c20 : x35_1 < (l0.length : Int)
          ·rw [if_pos c20] at H
           have c20b0 : decide (x35_1 < (l0.length : Int)) = true := decide_eq_true c20
           clear c20
           by_cases c21 : x6_1.length < 17592186044416
           ·rw [if_pos c21] at H
            have LMc21 := Aside0.mk c21
            clear c21
            obtain ⟨y515, hy515⟩ : ∃ y_ : List Int, y_ = (x6_1 ++ [wrap64 (Int.tdiv (rd l0 x35_1) 2)]) := ⟨_, rfl⟩
            replace H : (spilelaw33_RankSums.l1 k1 l0 t506 (wrap64 (x5_1 + (rd t506 x35_1))) y515 x35_1 (l0.length : Int) x35_1 (l0.length : Int) 0) = some r := by first | (rw [hy515]; with_reducible exact H) | (have H2_ := (Option.bind_some _ _).symm.trans H; rw [hy515]; with_reducible exact H2_) | (have H2_ := (Option.bind_some _ _).symm.trans H; with_reducible exact H2_) | with_reducible exact H | (rw [hy515]; exact H) | exact H
            have Ny515 := Aside0.mk hy515
            clear hy515
            have H' := Aside0.mk H
            clear H
            have p513 : 0 ≤ (x35_1 : Int) := of_decide_eq_true (by first | (with_reducible assumption) | assumption)
            have q513 : x35_1 < (t506.length : Int) := of_decide_eq_true (by first | (with_reducible assumption) | assumption)
            obtain ⟨ad513, e513, hx513_0⟩ := Kd.at_int (Kd.R_reads' HO_3.out).2.2 x35_1 p513 q513
            cases e513
            replace p513 := eq_true p513
            replace q513 := eq_true q513
            have p514 : 0 ≤ (x35_1 : Int) := of_decide_eq_true (by first | (with_reducible assumption) | assumption)
            have q514 : x35_1 < (l0.length : Int) := of_decide_eq_true (by first | (with_reducible assumption) | assumption)
            obtain ⟨ad514, e514, hx514_0⟩ := Kd.at_int HR0.out x35_1 p514 q514
            cases e514
            replace hx514_0 := (HB.out.cell (World.block_lt_of_cell? w _ hx514_0)).trans hx514_0
            replace p514 := eq_true p514
            replace q514 := eq_true q514
            go_wp2_with (first | ((with_reducible refine gate_builtin (b := .append) (xs := #[.tmp 44, .tmp 50]) rfl ?_); at_builtin; refine Kd.R_append (Kd.int .i64) (w0 := w) w.heap.size rfl (.tmp 44) (.tmp 50) 27 3 (.int .i64 0) 8 rfl Try.underlying27 info3 rfl (by decide) (by omega) u6 x6_1 (wrap64 (Int.tdiv (rd l0 x35_1) 2)) [.int .i64 (wrap64 (Int.tdiv (rd l0 x35_1) 2))] (fun k_ => some k_ ≠ (.slice (some ad513) t506.length co14 : Value).ownBlock) (fun _ => False) rfl rfl ?aP (fun _ hk => hk.elim) ?aF ?aO ?aB ?aS ?aL ?_; (case aP => exact rfl); (case aB => exact (by repeat (first | (with_reducible first | exact HB.out | apply lqA | apply lqN | apply lqD) | exact HB.out))); (case aF => exact (fun k_ hk => Kd.fresh' (Kd.R_lt (by (with_reducible repeat (first | apply Kd.R_alloc | apply Kd.R_drewN | apply Kd.R_drew)); exact HO_3.out)) k_ hk)); (case aO => exact (by (with_reducible repeat (first | apply Kd.R_alloc | apply Kd.R_drewN | apply Kd.R_drew)); exact HO_6.out)); (case aS => exact (lqZ (by repeat (first | (with_reducible first | exact HB.out | apply lqA | apply lqN | apply lqD) | exact HB.out)))); (case aL => have := LMc21.out; omega); intro v516 w22 ho hb hg hat; rw [← Ny515.out] at ho; have n0_ := Aside0.mk (Kd.R_after (ok := (fun _ => True)) (by (with_reducible repeat (first | apply Kd.R_alloc | apply Kd.R_drewN | apply Kd.R_drew)); exact Kd.R_mono HO_3.out (fun _ hk => ⟨trivial, hk⟩)) hg hat); have n1_ := Aside0.mk (hb); have n2_ := Aside0.mk (ho); clear HO_3; clear HB; clear HO_6; have HO_3 := n0_; have HB := n1_; have HO517 := n2_; clear n0_ n1_ n2_; clear ho hb hg hat))
            repeat (go_quiet (first | ((with_reducible refine gate_builtin (b := .append) (xs := #[.tmp 44, .tmp 50]) rfl ?_); at_builtin; refine Kd.R_append (Kd.int .i64) (w0 := w) w.heap.size rfl (.tmp 44) (.tmp 50) 27 3 (.int .i64 0) 8 rfl Try.underlying27 info3 rfl (by decide) (by omega) u6 x6_1 (wrap64 (Int.tdiv (rd l0 x35_1) 2)) [.int .i64 (wrap64 (Int.tdiv (rd l0 x35_1) 2))] (fun k_ => some k_ ≠ (.slice (some ad513) t506.length co14 : Value).ownBlock) (fun _ => False) rfl rfl ?aP (fun _ hk => hk.elim) ?aF ?aO ?aB ?aS ?aL ?_; (case aP => exact rfl); (case aB => exact (by repeat (first | (with_reducible first | exact HB.out | apply lqA | apply lqN | apply lqD) | exact HB.out))); (case aF => exact (fun k_ hk => Kd.fresh' (Kd.R_lt (by (with_reducible repeat (first | apply Kd.R_alloc | apply Kd.R_drewN | apply Kd.R_drew)); exact HO_3.out)) k_ hk)); (case aO => exact (by (with_reducible repeat (first | apply Kd.R_alloc | apply Kd.R_drewN | apply Kd.R_drew)); exact HO_6.out)); (case aS => exact (lqZ (by repeat (first | (with_reducible first | exact HB.out | apply lqA | apply lqN | apply lqD) | exact HB.out)))); (case aL => have := LMc21.out; omega); intro v516 w22 ho hb hg hat; rw [← Ny515.out] at ho; have n0_ := Aside0.mk (Kd.R_after (ok := (fun _ => True)) (by (with_reducible repeat (first | apply Kd.R_alloc | apply Kd.R_drewN | apply Kd.R_drew)); exact Kd.R_mono HO_3.out (fun _ hk => ⟨trivial, hk⟩)) hg hat); have n1_ := Aside0.mk (hb); have n2_ := Aside0.mk (ho); clear HO_3; clear HB; clear HO_6; have HO_3 := n0_; have HB := n1_; have HO517 := n2_; clear n0_ n1_ n2_; clear ho hb hg hat)); try go_wp2_with (first | ((with_reducible refine gate_builtin (b := .append) (xs := #[.tmp 44, .tmp 50]) rfl ?_); at_builtin; refine Kd.R_append (Kd.int .i64) (w0 := w) w.heap.size rfl (.tmp 44) (.tmp 50) 27 3 (.int .i64 0) 8 rfl Try.underlying27 info3 rfl (by decide) (by omega) u6 x6_1 (wrap64 (Int.tdiv (rd l0 x35_1) 2)) [.int .i64 (wrap64 (Int.tdiv (rd l0 x35_1) 2))] (fun k_ => some k_ ≠ (.slice (some ad513) t506.length co14 : Value).ownBlock) (fun _ => False) rfl rfl ?aP (fun _ hk => hk.elim) ?aF ?aO ?aB ?aS ?aL ?_; (case aP => exact rfl); (case aB => exact (by repeat (first | (with_reducible first | exact HB.out | apply lqA | apply lqN | apply lqD) | exact HB.out))); (case aF => exact (fun k_ hk => Kd.fresh' (Kd.R_lt (by (with_reducible repeat (first | apply Kd.R_alloc | apply Kd.R_drewN | apply Kd.R_drew)); exact HO_3.out)) k_ hk)); (case aO => exact (by (with_reducible repeat (first | apply Kd.R_alloc | apply Kd.R_drewN | apply Kd.R_drew)); exact HO_6.out)); (case aS => exact (lqZ (by repeat (first | (with_reducible first | exact HB.out | apply lqA | apply lqN | apply lqD) | exact HB.out)))); (case aL => have := LMc21.out; omega); intro v516 w22 ho hb hg hat; rw [← Ny515.out] at ho; have n0_ := Aside0.mk (Kd.R_after (ok := (fun _ => True)) (by (with_reducible repeat (first | apply Kd.R_alloc | apply Kd.R_drewN | apply Kd.R_drew)); exact Kd.R_mono HO_3.out (fun _ hk => ⟨trivial, hk⟩)) hg hat); have n1_ := Aside0.mk (hb); have n2_ := Aside0.mk (ho); clear HO_3; clear HB; clear HO_6; have HO_3 := n0_; have HB := n1_; have HO517 := n2_; clear n0_ n1_ n2_; clear ho hb hg hat)))
            go_loopg [54] k1 (fun kq v54 w' => ∃ (x54_2 : Int), v54 = .int .i64 x54_2 ∧ Aside0 (spilelaw33_RankSums.l1 kq l0 t506 (wrap64 (x5_1 + (rd t506 x35_1))) y515 x35_1 (l0.length : Int) x35_1 (l0.length : Int) x54_2 = some r) ∧ Aside0 (kq ≤ k1) ∧ Aside0 (Kd.R (Kd.int .i64) 3 w' w.heap.size (fun k_ => some k_ ≠ (v516 : Value).ownBlock) (.slice (some ad513) t506.length co14) t506) ∧ Aside0 (Kd.R (Kd.int .i64) 3 w' w.heap.size (fun k_ => some k_ ≠ ((.slice (some ad513) t506.length co14) : Value).ownBlock) v516 y515) ∧ Aside0 (Below w.heap.size w w'))
            case atStart => exact ⟨(0), (by first | rfl | (simp; done) | (simp [*]; done)), H', ⟨Nat.le_refl _⟩, ⟨by (with_reducible repeat (first | apply Kd.R_alloc | apply Kd.R_drewN | apply Kd.R_drew)); exact Kd.R_mono HO_3.out (fun _ hk => hk.2)⟩, ⟨by (with_reducible repeat (first | apply Kd.R_alloc | apply Kd.R_drewN | apply Kd.R_drew)); exact HO517.out⟩, ⟨by repeat (first | (with_reducible first | exact HB.out | apply lqA | apply lqN | apply lqD) | exact HB.out)⟩⟩
            case round =>
             clear H'
             try clear c1
             try clear c2
             try clear p2
             try clear c3
             try clear c4
             try clear c4b0
             try clear c4b1
             try clear p5
             try clear q5
             try clear hx5
             try clear p6
             try clear c7
             try clear c8
             try clear c8b0
             try clear c8b1
             try clear c9
             try clear c9b0
             try clear c9b1
             try clear c9b2
             try clear c17
             try clear c17b0
             try clear c18
             try clear c18b0
             try clear c19
             try clear c19b0
             try clear c20
             try clear c20b0
             try clear c21
             try clear hx513_0
             try clear hx514_0
             try clear p2
             try clear p513
             try clear p514
             try clear q513
             try clear q514
             obtain ⟨x54_2, rfl, HA, HK2, HO_3, HO_6, HB⟩ := hrel
             cases gk with
             | zero => exact absurd HA.out (by simp [spilelaw33_RankSums.l1])
             | succ k2 =>
              have H := HA.out
              clear HA
              simp only [spilelaw33_RankSums.l1] at H
              by_cases c23 : x54_2 < (l0.length : Int)
              ·rw [if_pos c23] at H
               have c23b0 : decide (x54_2 < (l0.length : Int)) = true := decide_eq_true c23
               clear c23
               by_cases c24 : 0 ≤ x35_1
               ·rw [if_pos c24] at H
                have c24b0 : decide (0 ≤ x35_1) = true := decide_eq_true c24
                clear c24
                by_cases c25 : x35_1 < (l0.length : Int)
                ·rw [if_pos c25] at H
                 have c25b0 : decide (x35_1 < (l0.length : Int)) = true := decide_eq_true c25
                 clear c25
                 by_cases c26 : 0 ≤ x54_2
                 ·rw [if_pos c26] at H
                  have c26b0 : decide (0 ≤ x54_2) = true := decide_eq_true c26
                  clear c26
                  by_cases c27 : x54_2 < (l0.length : Int)
                  ·rw [if_pos c27] at H
                   have c27b0 : decide (x54_2 < (l0.length : Int)) = true := decide_eq_true c27
                   clear c27
                   by_cases c28 : x35_1 < (t506.length : Int)
                   ·rw [if_pos c28] at H
                    have c28b0 : decide (x35_1 < (t506.length : Int)) = true := decide_eq_true c28
                    clear c28
                    by_cases c29 : x54_2 < (t506.length : Int)
                    ·rw [if_pos c29] at H
                     have c29b0 : decide (x54_2 < (t506.length : Int)) = true := decide_eq_true c29
                     clear c29
                     by_cases c30 : ((decide ((rd l0 x35_1) < (rd l0 x54_2))) != (decide ((rd t506 x35_1) < (rd t506 x54_2)))) = true
                     ·rw [if_pos c30] at H
                      exact absurd H (by simp)
                     ·rw [if_neg c30] at H
                      have c30b0 : ((decide ((rd l0 x35_1) < (rd l0 x54_2))) != (decide ((rd t506 x35_1) < (rd t506 x54_2)))) = false := by simpa using c30
                      (try (have c30b1 : decide ((decide ((rd l0 x35_1) < (rd l0 x54_2))) = (decide ((rd t506 x35_1) < (rd t506 x54_2)))) = true := by simpa using c30))
                      (try (have c30b2 : ((decide ((rd l0 x35_1) < (rd l0 x54_2))) == (decide ((rd t506 x35_1) < (rd t506 x54_2)))) = true := by simpa using c30))
                      clear c30
                      have H' := Aside0.mk H
                      clear H
                      have p518 : 0 ≤ (x35_1 : Int) := of_decide_eq_true (by first | (with_reducible assumption) | assumption)
                      have q518 : x35_1 < (l0.length : Int) := of_decide_eq_true (by first | (with_reducible assumption) | assumption)
                      obtain ⟨ad518, e518, hx518_0⟩ := Kd.at_int HR0.out x35_1 p518 q518
                      obtain rfl : ad514 = ad518 := (by injection e518)
                      replace hx518_0 := (HB.out.cell (World.block_lt_of_cell? w _ hx518_0)).trans hx518_0
                      replace p518 := eq_true p518
                      replace q518 := eq_true q518
                      have p519 : 0 ≤ (x54_2 : Int) := of_decide_eq_true (by first | (with_reducible assumption) | assumption)
                      have q519 : x54_2 < (l0.length : Int) := of_decide_eq_true (by first | (with_reducible assumption) | assumption)
                      obtain ⟨ad519, e519, hx519_0⟩ := Kd.at_int HR0.out x54_2 p519 q519
                      obtain rfl : ad514 = ad519 := (by injection e519)
                      replace hx519_0 := (HB.out.cell (World.block_lt_of_cell? w _ hx519_0)).trans hx519_0
                      replace p519 := eq_true p519
                      replace q519 := eq_true q519
                      have p520 : 0 ≤ (x35_1 : Int) := of_decide_eq_true (by first | (with_reducible assumption) | assumption)
                      have q520 : x35_1 < (t506.length : Int) := of_decide_eq_true (by first | (with_reducible assumption) | assumption)
                      obtain ⟨ad520, e520, hx520_0⟩ := Kd.at_int (Kd.R_reads' HO_3.out).2.2 x35_1 p520 q520
                      obtain rfl : ad513 = ad520 := (by injection e520)
                      replace p520 := eq_true p520
                      replace q520 := eq_true q520
                      have p521 : 0 ≤ (x54_2 : Int) := of_decide_eq_true (by first | (with_reducible assumption) | assumption)
                      have q521 : x54_2 < (t506.length : Int) := of_decide_eq_true (by first | (with_reducible assumption) | assumption)
                      obtain ⟨ad521, e521, hx521_0⟩ := Kd.at_int (Kd.R_reads' HO_3.out).2.2 x54_2 p521 q521
                      obtain rfl : ad513 = ad521 := (by injection e521)
                      replace p521 := eq_true p521
                      replace q521 := eq_true q521
                      go_wp2
                      repeat (go_quiet (fail); try go_wp2)
                      go_roundg k2
                      case measure => have := HK1.out; have := HK2.out; omega
                      case rel => exact ⟨(wrap64 (x54_2 + 1)), (by first | rfl | (simp; done) | (simp [*]; done)), H', ⟨by have := HK1.out; have := HK2.out; omega⟩, ⟨by (with_reducible repeat (first | apply Kd.R_alloc | apply Kd.R_drewN | apply Kd.R_drew)); exact HO_3.out⟩, ⟨by (with_reducible repeat (first | apply Kd.R_alloc | apply Kd.R_drewN | apply Kd.R_drew)); exact HO_6.out⟩, ⟨by repeat (first | (with_reducible first | exact HB.out | apply lqA | apply lqN | apply lqD) | exact HB.out)⟩⟩
                    ·rw [if_neg c29] at H
                     exact absurd H (by simp)
                   ·rw [if_neg c28] at H
                    exact absurd H (by simp)
                  ·rw [if_neg c27] at H
                   exact absurd H (by simp)
                 ·rw [if_neg c26] at H
                  exact absurd H (by simp)
                ·rw [if_neg c25] at H
                 exact absurd H (by simp)
               ·rw [if_neg c24] at H
                exact absurd H (by simp)
              ·rw [if_neg c23] at H
               have c23b0 : decide (x54_2 < (l0.length : Int)) = false := decide_eq_false c23
               clear c23
               have H' := Aside0.mk H
               clear H
               go_wp2
               repeat (go_quiet (fail); try go_wp2)
               go_roundg k2
               case measure => have := HK1.out; have := HK2.out; omega
               case rel => exact ⟨((wrap64 (x5_1 + (rd t506 x35_1)))), (y515), (wrap64 (x35_1 + 1)), (by first | rfl | (simp; done) | (simp [*]; done)), (by first | rfl | (simp; done) | (simp [*]; done)), H', ⟨by have := HK1.out; have := HK2.out; omega⟩, ⟨by (with_reducible repeat (first | apply Kd.R_alloc | apply Kd.R_drewN | apply Kd.R_drew)); exact HO_3.out⟩, ⟨by (with_reducible repeat (first | apply Kd.R_alloc | apply Kd.R_drewN | apply Kd.R_drew)); exact HO_6.out⟩, ⟨by repeat (first | (with_reducible first | exact HB.out | apply lqA | apply lqN | apply lqD) | exact HB.out)⟩⟩
           ·rw [if_neg c21] at H
            exact absurd H (by simp)
          ·rw [if_neg c20] at H
           exact absurd H (by simp)
         ·rw [if_neg c19] at H
          exact absurd H (by simp)
        ·rw [if_neg c18] at H
         exact absurd H (by simp)
       ·rw [if_neg c17] at H
        have c17b0 : decide (x35_1 < (l0.length : Int)) = false := decide_eq_false c17
        clear c17
        replace H := Option.bind_eq_some_iff.mp H
        obtain ⟨t522, A310, H⟩ := H
        replace H : (if t522 = true then (some (x5_1 == (wrap64 ((l0.length : Int) * (wrap64 ((l0.length : Int) + 1)))))) else ((rank_Ranks.f k1 x6_1).bind fun bt523 => (if bt523.2 = 0 then ((slices_Equal_int_int.f k1 bt523.1 t506).bind fun t527 => (if t527 = true then (some (x5_1 == (wrap64 ((l0.length : Int) * (wrap64 ((l0.length : Int) + 1)))))) else (none))) else (none)))) = some r := H
        have A31 := Aside0.mk A310
        clear A310
        by_cases c32 : t522 = true
        ·subst c32
         have H1 : (some (x5_1 == (wrap64 ((l0.length : Int) * (wrap64 ((l0.length : Int) + 1)))))) = some r := by rw [if_pos rfl] at H; exact H
         clear H
         have H := H1
         clear H1
         obtain rfl := Option.some.inj H
         go_wp2_with (first | (go_at_call 30; (with_reducible refine (odd30.calls _ _ l0 true _ ?side1 ?side2 A31.out).mono ?_); (case side1 => repeat (first | exact (Kd.C_below HR0.out HB.out) | (with_reducible refine Kd.C_alloc ?_ _) | (with_reducible refine Kd.C_drewN ?_ _) | (with_reducible refine Kd.C_drew ?_))); (case side2 => exact HC0.out); rintro e w33 ⟨rfl, hb⟩; have n0_ := Aside0.mk (Kd.R_below (by (with_reducible repeat (first | apply Kd.R_alloc | apply Kd.R_drewN | apply Kd.R_drew)); exact HO_3.out) hb); have n1_ := Aside0.mk (Kd.R_below (by (with_reducible repeat (first | apply Kd.R_alloc | apply Kd.R_drewN | apply Kd.R_drew)); exact HO_6.out) hb); have n2_ := Aside0.mk (lqT (by repeat (first | (with_reducible first | exact HB.out | apply lqA | apply lqN | apply lqD) | exact HB.out)) hb); clear HO_3; clear HO_6; clear HB; have HO_3 := n0_; have HO_6 := n1_; have HB := n2_; clear n0_ n1_ n2_; (try clear hb); (try clear hb2); (try clear hk); (try clear hi)))
         repeat (go_quiet (first | (go_at_call 30; (with_reducible refine (odd30.calls _ _ l0 true _ ?side1 ?side2 A31.out).mono ?_); (case side1 => repeat (first | exact (Kd.C_below HR0.out HB.out) | (with_reducible refine Kd.C_alloc ?_ _) | (with_reducible refine Kd.C_drewN ?_ _) | (with_reducible refine Kd.C_drew ?_))); (case side2 => exact HC0.out); rintro e w33 ⟨rfl, hb⟩; have n0_ := Aside0.mk (Kd.R_below (by (with_reducible repeat (first | apply Kd.R_alloc | apply Kd.R_drewN | apply Kd.R_drew)); exact HO_3.out) hb); have n1_ := Aside0.mk (Kd.R_below (by (with_reducible repeat (first | apply Kd.R_alloc | apply Kd.R_drewN | apply Kd.R_drew)); exact HO_6.out) hb); have n2_ := Aside0.mk (lqT (by repeat (first | (with_reducible first | exact HB.out | apply lqA | apply lqN | apply lqD) | exact HB.out)) hb); clear HO_3; clear HO_6; clear HB; have HO_3 := n0_; have HO_6 := n1_; have HB := n2_; clear n0_ n1_ n2_; (try clear hb); (try clear hb2); (try clear hk); (try clear hi))); try go_wp2_with (first | (go_at_call 30; (with_reducible refine (odd30.calls _ _ l0 true _ ?side1 ?side2 A31.out).mono ?_); (case side1 => repeat (first | exact (Kd.C_below HR0.out HB.out) | (with_reducible refine Kd.C_alloc ?_ _) | (with_reducible refine Kd.C_drewN ?_ _) | (with_reducible refine Kd.C_drew ?_))); (case side2 => exact HC0.out); rintro e w33 ⟨rfl, hb⟩; have n0_ := Aside0.mk (Kd.R_below (by (with_reducible repeat (first | apply Kd.R_alloc | apply Kd.R_drewN | apply Kd.R_drew)); exact HO_3.out) hb); have n1_ := Aside0.mk (Kd.R_below (by (with_reducible repeat (first | apply Kd.R_alloc | apply Kd.R_drewN | apply Kd.R_drew)); exact HO_6.out) hb); have n2_ := Aside0.mk (lqT (by repeat (first | (with_reducible first | exact HB.out | apply lqA | apply lqN | apply lqD) | exact HB.out)) hb); clear HO_3; clear HO_6; clear HB; have HO_3 := n0_; have HO_6 := n1_; have HB := n2_; clear n0_ n1_ n2_; (try clear hb); (try clear hb2); (try clear hk); (try clear hi))))
         go_ret
         exact ⟨by first | rfl | (simp [errW_none, errW_some] <;> rfl) | (simp [*, errW_none, errW_some] <;> rfl), by repeat (first | (with_reducible first | exact HB.out | apply lqA | apply lqN | apply lqD) | exact HB.out)⟩
        ·replace c32 := Bool.eq_false_iff.mpr c32
         subst c32
         have H1 : ((rank_Ranks.f k1 x6_1).bind fun bt523 => (if bt523.2 = 0 then ((slices_Equal_int_int.f k1 bt523.1 t506).bind fun t527 => (if t527 = true then (some (x5_1 == (wrap64 ((l0.length : Int) * (wrap64 ((l0.length : Int) + 1)))))) else (none))) else (none))) = some r := by rw [if_neg (show ¬ (false = true) by decide)] at H; exact H
         clear H
         have H := H1
         clear H1
         replace H := Option.bind_eq_some_iff.mp H
         obtain ⟨⟨t523, t524⟩, A340, H⟩ := H
         replace H : (if t524 = 0 then ((slices_Equal_int_int.f k1 t523 t506).bind fun t527 => (if t527 = true then (some (x5_1 == (wrap64 ((l0.length : Int) * (wrap64 ((l0.length : Int) + 1)))))) else (none))) else (none)) = some r := H
         have A34 := Aside0.mk A340
         clear A340
         by_cases c35 : t524 = 0
         ·rw [if_pos c35] at H
          have c35b0 : (t524 == 0) = true := beq_iff_eq.mpr c35
          try simp only [beq_self_eq_true, Bool.not_true, Bool.false_or, Bool.true_and] at c35b0
          have c35b1 : (t524 != 0) = false := bne_eq_false_iff_eq.mpr c35
          clear c35
          replace H := Option.bind_eq_some_iff.mp H
          obtain ⟨t527, A360, H⟩ := H
          replace H : (if t527 = true then (some (x5_1 == (wrap64 ((l0.length : Int) * (wrap64 ((l0.length : Int) + 1)))))) else (none)) = some r := H
          have A36 := Aside0.mk A360
          clear A360
          by_cases c37 : t527 = true
          ·subst c37
           have H1 : (some (x5_1 == (wrap64 ((l0.length : Int) * (wrap64 ((l0.length : Int) + 1)))))) = some r := by rw [if_pos rfl] at H; exact H
           clear H
           have H := H1
           clear H1
           obtain rfl := Option.some.inj H
           go_wp2_with (first | (go_at_call 30; (with_reducible refine (odd30.calls _ _ l0 false _ ?side1 ?side2 A31.out).mono ?_); (case side1 => repeat (first | exact (Kd.C_below HR0.out HB.out) | (with_reducible refine Kd.C_alloc ?_ _) | (with_reducible refine Kd.C_drewN ?_ _) | (with_reducible refine Kd.C_drew ?_))); (case side2 => exact HC0.out); rintro e w38 ⟨rfl, hb⟩; have n0_ := Aside0.mk (Kd.R_below (by (with_reducible repeat (first | apply Kd.R_alloc | apply Kd.R_drewN | apply Kd.R_drew)); exact HO_3.out) hb); have n1_ := Aside0.mk (Kd.R_below (by (with_reducible repeat (first | apply Kd.R_alloc | apply Kd.R_drewN | apply Kd.R_drew)); exact HO_6.out) hb); have n2_ := Aside0.mk (lqT (by repeat (first | (with_reducible first | exact HB.out | apply lqA | apply lqN | apply lqD) | exact HB.out)) hb); clear HO_3; clear HO_6; clear HB; have HO_3 := n0_; have HO_6 := n1_; have HB := n2_; clear n0_ n1_ n2_; (try clear hb); (try clear hb2); (try clear hk); (try clear hi); obtain ⟨Ao39, co39, eo39⟩ := Kd.R_slice HO_6.out; subst eo39) | (go_at_call 18; (with_reducible refine (rank_Ranks.calls k1 _ _ x6_1 t523 t524 _ ?side1 ?side2 A34.out).mono ?_); (case side1 => repeat (first | exact (Kd.R_reads' HO_6.out).2.2 | (with_reducible refine Kd.C_alloc ?_ _) | (with_reducible refine Kd.C_drewN ?_ _) | (with_reducible refine Kd.C_drew ?_))); (case side2 => exact (Kd.R_reads' HO_6.out).2.1); rintro e w40 ⟨v525, rfl, ho0, hb⟩; have n0_ := Aside0.mk (Kd.R_elder' (by (with_reducible repeat (first | apply Kd.R_alloc | apply Kd.R_drewN | apply Kd.R_drew)); exact HO_3.out) (Kd.R_base ho0) hb); have n1_ := Aside0.mk (Kd.R_elder' (by (with_reducible repeat (first | apply Kd.R_alloc | apply Kd.R_drewN | apply Kd.R_drew)); exact HO_6.out) (Kd.R_base ho0) hb); have n2_ := Aside0.mk (Kd.R_lower (Kd.R_new' (Kd.R_new' ho0 (Kd.R_lt (by (with_reducible repeat (first | apply Kd.R_alloc | apply Kd.R_drewN | apply Kd.R_drew)); exact HO_3.out))) (Kd.R_lt (by (with_reducible repeat (first | apply Kd.R_alloc | apply Kd.R_drewN | apply Kd.R_drew)); exact HO_6.out))) (lqZ (by repeat (first | (with_reducible first | exact HB.out | apply lqA | apply lqN | apply lqD) | exact HB.out)))); have n3_ := Aside0.mk (lqT (by repeat (first | (with_reducible first | exact HB.out | apply lqA | apply lqN | apply lqD) | exact HB.out)) hb); clear HO_3; clear HO_6; clear HB; have HO_3 := n0_; have HO_6 := n1_; have HO526 := n2_; have HB := n3_; clear n0_ n1_ n2_ n3_; (try clear hb); (try clear hb2); (try clear hk); (try clear hi); (try clear ho0); obtain ⟨Ao41, co41, eo41⟩ := Kd.R_slice HO526.out; subst eo41) | (go_at_call 32; (with_reducible refine (slices_Equal_int_int.calls k1 _ _ t523 _ _ t506 true _ ?side1 ?side2 ?side3 ?side4 A36.out).mono ?_); (case side1 => repeat (first | exact (Kd.R_reads' HO526.out).2.2 | (with_reducible refine Kd.C_alloc ?_ _) | (with_reducible refine Kd.C_drewN ?_ _) | (with_reducible refine Kd.C_drew ?_))); (case side2 => exact (Kd.R_reads' HO526.out).2.1); (case side3 => repeat (first | exact (Kd.R_reads' HO_3.out).2.2 | (with_reducible refine Kd.C_alloc ?_ _) | (with_reducible refine Kd.C_drewN ?_ _) | (with_reducible refine Kd.C_drew ?_))); (case side4 => exact (Kd.R_reads' HO_3.out).2.1); rintro e w' ⟨rfl, ⟨nd, rfl⟩⟩; (try first | exact ⟨rfl, _, World.drewN_drewN _ _ _⟩ | exact ⟨rfl, _, Eq.trans (World.drewN_drewN _ _ _) (congrArg (World.drewN _) (Nat.add_assoc _ _ _))⟩)))
           repeat (go_quiet (first | (go_at_call 30; (with_reducible refine (odd30.calls _ _ l0 false _ ?side1 ?side2 A31.out).mono ?_); (case side1 => repeat (first | exact (Kd.C_below HR0.out HB.out) | (with_reducible refine Kd.C_alloc ?_ _) | (with_reducible refine Kd.C_drewN ?_ _) | (with_reducible refine Kd.C_drew ?_))); (case side2 => exact HC0.out); rintro e w38 ⟨rfl, hb⟩; have n0_ := Aside0.mk (Kd.R_below (by (with_reducible repeat (first | apply Kd.R_alloc | apply Kd.R_drewN | apply Kd.R_drew)); exact HO_3.out) hb); have n1_ := Aside0.mk (Kd.R_below (by (with_reducible repeat (first | apply Kd.R_alloc | apply Kd.R_drewN | apply Kd.R_drew)); exact HO_6.out) hb); have n2_ := Aside0.mk (lqT (by repeat (first | (with_reducible first | exact HB.out | apply lqA | apply lqN | apply lqD) | exact HB.out)) hb); clear HO_3; clear HO_6; clear HB; have HO_3 := n0_; have HO_6 := n1_; have HB := n2_; clear n0_ n1_ n2_; (try clear hb); (try clear hb2); (try clear hk); (try clear hi); obtain ⟨Ao39, co39, eo39⟩ := Kd.R_slice HO_6.out; subst eo39) | (go_at_call 18; (with_reducible refine (rank_Ranks.calls k1 _ _ x6_1 t523 t524 _ ?side1 ?side2 A34.out).mono ?_); (case side1 => repeat (first | exact (Kd.R_reads' HO_6.out).2.2 | (with_reducible refine Kd.C_alloc ?_ _) | (with_reducible refine Kd.C_drewN ?_ _) | (with_reducible refine Kd.C_drew ?_))); (case side2 => exact (Kd.R_reads' HO_6.out).2.1); rintro e w40 ⟨v525, rfl, ho0, hb⟩; have n0_ := Aside0.mk (Kd.R_elder' (by (with_reducible repeat (first | apply Kd.R_alloc | apply Kd.R_drewN | apply Kd.R_drew)); exact HO_3.out) (Kd.R_base ho0) hb); have n1_ := Aside0.mk (Kd.R_elder' (by (with_reducible repeat (first | apply Kd.R_alloc | apply Kd.R_drewN | apply Kd.R_drew)); exact HO_6.out) (Kd.R_base ho0) hb); have n2_ := Aside0.mk (Kd.R_lower (Kd.R_new' (Kd.R_new' ho0 (Kd.R_lt (by (with_reducible repeat (first | apply Kd.R_alloc | apply Kd.R_drewN | apply Kd.R_drew)); exact HO_3.out))) (Kd.R_lt (by (with_reducible repeat (first | apply Kd.R_alloc | apply Kd.R_drewN | apply Kd.R_drew)); exact HO_6.out))) (lqZ (by repeat (first | (with_reducible first | exact HB.out | apply lqA | apply lqN | apply lqD) | exact HB.out)))); have n3_ := Aside0.mk (lqT (by repeat (first | (with_reducible first | exact HB.out | apply lqA | apply lqN | apply lqD) | exact HB.out)) hb); clear HO_3; clear HO_6; clear HB; have HO_3 := n0_; have HO_6 := n1_; have HO526 := n2_; have HB := n3_; clear n0_ n1_ n2_ n3_; (try clear hb); (try clear hb2); (try clear hk); (try clear hi); (try clear ho0); obtain ⟨Ao41, co41, eo41⟩ := Kd.R_slice HO526.out; subst eo41) | (go_at_call 32; (with_reducible refine (slices_Equal_int_int.calls k1 _ _ t523 _ _ t506 true _ ?side1 ?side2 ?side3 ?side4 A36.out).mono ?_); (case side1 => repeat (first | exact (Kd.R_reads' HO526.out).2.2 | (with_reducible refine Kd.C_alloc ?_ _) | (with_reducible refine Kd.C_drewN ?_ _) | (with_reducible refine Kd.C_drew ?_))); (case side2 => exact (Kd.R_reads' HO526.out).2.1); (case side3 => repeat (first | exact (Kd.R_reads' HO_3.out).2.2 | (with_reducible refine Kd.C_alloc ?_ _) | (with_reducible refine Kd.C_drewN ?_ _) | (with_reducible refine Kd.C_drew ?_))); (case side4 => exact (Kd.R_reads' HO_3.out).2.1); rintro e w' ⟨rfl, ⟨nd, rfl⟩⟩; (try first | exact ⟨rfl, _, World.drewN_drewN _ _ _⟩ | exact ⟨rfl, _, Eq.trans (World.drewN_drewN _ _ _) (congrArg (World.drewN _) (Nat.add_assoc _ _ _))⟩))); try go_wp2_with (first | (go_at_call 30; (with_reducible refine (odd30.calls _ _ l0 false _ ?side1 ?side2 A31.out).mono ?_); (case side1 => repeat (first | exact (Kd.C_below HR0.out HB.out) | (with_reducible refine Kd.C_alloc ?_ _) | (with_reducible refine Kd.C_drewN ?_ _) | (with_reducible refine Kd.C_drew ?_))); (case side2 => exact HC0.out); rintro e w38 ⟨rfl, hb⟩; have n0_ := Aside0.mk (Kd.R_below (by (with_reducible repeat (first | apply Kd.R_alloc | apply Kd.R_drewN | apply Kd.R_drew)); exact HO_3.out) hb); have n1_ := Aside0.mk (Kd.R_below (by (with_reducible repeat (first | apply Kd.R_alloc | apply Kd.R_drewN | apply Kd.R_drew)); exact HO_6.out) hb); have n2_ := Aside0.mk (lqT (by repeat (first | (with_reducible first | exact HB.out | apply lqA | apply lqN | apply lqD) | exact HB.out)) hb); clear HO_3; clear HO_6; clear HB; have HO_3 := n0_; have HO_6 := n1_; have HB := n2_; clear n0_ n1_ n2_; (try clear hb); (try clear hb2); (try clear hk); (try clear hi); obtain ⟨Ao39, co39, eo39⟩ := Kd.R_slice HO_6.out; subst eo39) | (go_at_call 18; (with_reducible refine (rank_Ranks.calls k1 _ _ x6_1 t523 t524 _ ?side1 ?side2 A34.out).mono ?_); (case side1 => repeat (first | exact (Kd.R_reads' HO_6.out).2.2 | (with_reducible refine Kd.C_alloc ?_ _) | (with_reducible refine Kd.C_drewN ?_ _) | (with_reducible refine Kd.C_drew ?_))); (case side2 => exact (Kd.R_reads' HO_6.out).2.1); rintro e w40 ⟨v525, rfl, ho0, hb⟩; have n0_ := Aside0.mk (Kd.R_elder' (by (with_reducible repeat (first | apply Kd.R_alloc | apply Kd.R_drewN | apply Kd.R_drew)); exact HO_3.out) (Kd.R_base ho0) hb); have n1_ := Aside0.mk (Kd.R_elder' (by (with_reducible repeat (first | apply Kd.R_alloc | apply Kd.R_drewN | apply Kd.R_drew)); exact HO_6.out) (Kd.R_base ho0) hb); have n2_ := Aside0.mk (Kd.R_lower (Kd.R_new' (Kd.R_new' ho0 (Kd.R_lt (by (with_reducible repeat (first | apply Kd.R_alloc | apply Kd.R_drewN | apply Kd.R_drew)); exact HO_3.out))) (Kd.R_lt (by (with_reducible repeat (first | apply Kd.R_alloc | apply Kd.R_drewN | apply Kd.R_drew)); exact HO_6.out))) (lqZ (by repeat (first | (with_reducible first | exact HB.out | apply lqA | apply lqN | apply lqD) | exact HB.out)))); have n3_ := Aside0.mk (lqT (by repeat (first | (with_reducible first | exact HB.out | apply lqA | apply lqN | apply lqD) | exact HB.out)) hb); clear HO_3; clear HO_6; clear HB; have HO_3 := n0_; have HO_6 := n1_; have HO526 := n2_; have HB := n3_; clear n0_ n1_ n2_ n3_; (try clear hb); (try clear hb2); (try clear hk); (try clear hi); (try clear ho0); obtain ⟨Ao41, co41, eo41⟩ := Kd.R_slice HO526.out; subst eo41) | (go_at_call 32; (with_reducible refine (slices_Equal_int_int.calls k1 _ _ t523 _ _ t506 true _ ?side1 ?side2 ?side3 ?side4 A36.out).mono ?_); (case side1 => repeat (first | exact (Kd.R_reads' HO526.out).2.2 | (with_reducible refine Kd.C_alloc ?_ _) | (with_reducible refine Kd.C_drewN ?_ _) | (with_reducible refine Kd.C_drew ?_))); (case side2 => exact (Kd.R_reads' HO526.out).2.1); (case side3 => repeat (first | exact (Kd.R_reads' HO_3.out).2.2 | (with_reducible refine Kd.C_alloc ?_ _) | (with_reducible refine Kd.C_drewN ?_ _) | (with_reducible refine Kd.C_drew ?_))); (case side4 => exact (Kd.R_reads' HO_3.out).2.1); rintro e w' ⟨rfl, ⟨nd, rfl⟩⟩; (try first | exact ⟨rfl, _, World.drewN_drewN _ _ _⟩ | exact ⟨rfl, _, Eq.trans (World.drewN_drewN _ _ _) (congrArg (World.drewN _) (Nat.add_assoc _ _ _))⟩))))
           go_ret
           exact ⟨by first | rfl | (simp [errW_none, errW_some] <;> rfl) | (simp [*, errW_none, errW_some] <;> rfl), by repeat (first | (with_reducible first | exact HB.out | apply lqA | apply lqN | apply lqD) | exact HB.out)⟩
          ·replace c37 := Bool.eq_false_iff.mpr c37
           subst c37
           have H1 : (none) = some r := by rw [if_neg (show ¬ (false = true) by decide)] at H; exact H
           clear H
           have H := H1
           clear H1
           exact absurd H (by simp)
         ·rw [if_neg c35] at H
          exact absurd H (by simp)
    ·rw [if_neg c9] at H
     exact absurd H (by simp)
   ·rw [if_neg c8] at H
    have c8b0 : (t507 == 0) = false := beq_eq_false_iff_ne.mpr c8
    try simp only [beq_self_eq_true, Bool.not_true, Bool.false_or, Bool.true_and] at c8b0
    have c8b1 : (t507 != 0) = true := bne_iff_ne.mpr c8
    obtain rfl := Option.some.inj H
    go_enter Try.func7, Try.ntmps7
    go_wp2_with (first | (go_at_call 10; (with_reducible refine (spilelaw33_awake.calls k  true _ A2.out).mono ?_); rintro e w42 ⟨rfl, hb⟩; have n0_ := Aside0.mk (lqT (by repeat (first | (with_reducible first | exact HB.out | apply lqA | apply lqN | apply lqD) | exact HB.out)) hb); clear HB; have HB := n0_; clear n0_; (try clear hb); (try clear hb2); (try clear hk); (try clear hi)) | (go_at_call 14; (with_reducible refine (clone14.calls _ _ l0 t503 _ ?side1 ?side2 A6.out).mono ?_); (case side1 => repeat (first | exact (Kd.C_below HR0.out HB.out) | (with_reducible refine Kd.C_alloc ?_ _) | (with_reducible refine Kd.C_drewN ?_ _) | (with_reducible refine Kd.C_drew ?_))); (case side2 => exact HC0.out); rintro e w43 ⟨v504, rfl, ho0, hb⟩; have n0_ := Aside0.mk (Kd.R_lower ho0 (lqZ (by repeat (first | (with_reducible first | exact HB.out | apply lqA | apply lqN | apply lqD) | exact HB.out)))); have n1_ := Aside0.mk (lqT (by repeat (first | (with_reducible first | exact HB.out | apply lqA | apply lqN | apply lqD) | exact HB.out)) hb); clear HB; have HO505 := n0_; have HB := n1_; clear n0_ n1_; (try clear hb); (try clear hb2); (try clear hk); (try clear hi); (try clear ho0); obtain ⟨Ao44, co44, eo44⟩ := Kd.R_slice HO505.out; subst eo44) | (go_at_call 18; (with_reducible refine (rank_Ranks.calls k _ _ t503 t506 t507 _ ?side1 ?side2 A7.out).mono ?_); (case side1 => repeat (first | exact (Kd.R_reads' HO505.out).2.2 | (with_reducible refine Kd.C_alloc ?_ _) | (with_reducible refine Kd.C_drewN ?_ _) | (with_reducible refine Kd.C_drew ?_))); (case side2 => exact (Kd.R_reads' HO505.out).2.1); rintro e w45 ⟨v508, rfl, ho0, hb⟩; have n0_ := Aside0.mk (Kd.R_elder' (by (with_reducible repeat (first | apply Kd.R_alloc | apply Kd.R_drewN | apply Kd.R_drew)); exact HO505.out) (Kd.R_base ho0) hb); have n1_ := Aside0.mk (Kd.R_lower (Kd.R_new' ho0 (Kd.R_lt (by (with_reducible repeat (first | apply Kd.R_alloc | apply Kd.R_drewN | apply Kd.R_drew)); exact HO505.out))) (lqZ (by repeat (first | (with_reducible first | exact HB.out | apply lqA | apply lqN | apply lqD) | exact HB.out)))); have n2_ := Aside0.mk (lqT (by repeat (first | (with_reducible first | exact HB.out | apply lqA | apply lqN | apply lqD) | exact HB.out)) hb); clear HO505; clear HB; have HO505 := n0_; have HO509 := n1_; have HB := n2_; clear n0_ n1_ n2_; (try clear hb); (try clear hb2); (try clear hk); (try clear hi); (try clear ho0); obtain ⟨Ao46, co46, eo46⟩ := Kd.R_slice HO509.out; subst eo46))
    repeat (go_quiet (first | (go_at_call 10; (with_reducible refine (spilelaw33_awake.calls k  true _ A2.out).mono ?_); rintro e w42 ⟨rfl, hb⟩; have n0_ := Aside0.mk (lqT (by repeat (first | (with_reducible first | exact HB.out | apply lqA | apply lqN | apply lqD) | exact HB.out)) hb); clear HB; have HB := n0_; clear n0_; (try clear hb); (try clear hb2); (try clear hk); (try clear hi)) | (go_at_call 14; (with_reducible refine (clone14.calls _ _ l0 t503 _ ?side1 ?side2 A6.out).mono ?_); (case side1 => repeat (first | exact (Kd.C_below HR0.out HB.out) | (with_reducible refine Kd.C_alloc ?_ _) | (with_reducible refine Kd.C_drewN ?_ _) | (with_reducible refine Kd.C_drew ?_))); (case side2 => exact HC0.out); rintro e w43 ⟨v504, rfl, ho0, hb⟩; have n0_ := Aside0.mk (Kd.R_lower ho0 (lqZ (by repeat (first | (with_reducible first | exact HB.out | apply lqA | apply lqN | apply lqD) | exact HB.out)))); have n1_ := Aside0.mk (lqT (by repeat (first | (with_reducible first | exact HB.out | apply lqA | apply lqN | apply lqD) | exact HB.out)) hb); clear HB; have HO505 := n0_; have HB := n1_; clear n0_ n1_; (try clear hb); (try clear hb2); (try clear hk); (try clear hi); (try clear ho0); obtain ⟨Ao44, co44, eo44⟩ := Kd.R_slice HO505.out; subst eo44) | (go_at_call 18; (with_reducible refine (rank_Ranks.calls k _ _ t503 t506 t507 _ ?side1 ?side2 A7.out).mono ?_); (case side1 => repeat (first | exact (Kd.R_reads' HO505.out).2.2 | (with_reducible refine Kd.C_alloc ?_ _) | (with_reducible refine Kd.C_drewN ?_ _) | (with_reducible refine Kd.C_drew ?_))); (case side2 => exact (Kd.R_reads' HO505.out).2.1); rintro e w45 ⟨v508, rfl, ho0, hb⟩; have n0_ := Aside0.mk (Kd.R_elder' (by (with_reducible repeat (first | apply Kd.R_alloc | apply Kd.R_drewN | apply Kd.R_drew)); exact HO505.out) (Kd.R_base ho0) hb); have n1_ := Aside0.mk (Kd.R_lower (Kd.R_new' ho0 (Kd.R_lt (by (with_reducible repeat (first | apply Kd.R_alloc | apply Kd.R_drewN | apply Kd.R_drew)); exact HO505.out))) (lqZ (by repeat (first | (with_reducible first | exact HB.out | apply lqA | apply lqN | apply lqD) | exact HB.out)))); have n2_ := Aside0.mk (lqT (by repeat (first | (with_reducible first | exact HB.out | apply lqA | apply lqN | apply lqD) | exact HB.out)) hb); clear HO505; clear HB; have HO505 := n0_; have HO509 := n1_; have HB := n2_; clear n0_ n1_ n2_; (try clear hb); (try clear hb2); (try clear hk); (try clear hi); (try clear ho0); obtain ⟨Ao46, co46, eo46⟩ := Kd.R_slice HO509.out; subst eo46)); try go_wp2_with (first | (go_at_call 10; (with_reducible refine (spilelaw33_awake.calls k  true _ A2.out).mono ?_); rintro e w42 ⟨rfl, hb⟩; have n0_ := Aside0.mk (lqT (by repeat (first | (with_reducible first | exact HB.out | apply lqA | apply lqN | apply lqD) | exact HB.out)) hb); clear HB; have HB := n0_; clear n0_; (try clear hb); (try clear hb2); (try clear hk); (try clear hi)) | (go_at_call 14; (with_reducible refine (clone14.calls _ _ l0 t503 _ ?side1 ?side2 A6.out).mono ?_); (case side1 => repeat (first | exact (Kd.C_below HR0.out HB.out) | (with_reducible refine Kd.C_alloc ?_ _) | (with_reducible refine Kd.C_drewN ?_ _) | (with_reducible refine Kd.C_drew ?_))); (case side2 => exact HC0.out); rintro e w43 ⟨v504, rfl, ho0, hb⟩; have n0_ := Aside0.mk (Kd.R_lower ho0 (lqZ (by repeat (first | (with_reducible first | exact HB.out | apply lqA | apply lqN | apply lqD) | exact HB.out)))); have n1_ := Aside0.mk (lqT (by repeat (first | (with_reducible first | exact HB.out | apply lqA | apply lqN | apply lqD) | exact HB.out)) hb); clear HB; have HO505 := n0_; have HB := n1_; clear n0_ n1_; (try clear hb); (try clear hb2); (try clear hk); (try clear hi); (try clear ho0); obtain ⟨Ao44, co44, eo44⟩ := Kd.R_slice HO505.out; subst eo44) | (go_at_call 18; (with_reducible refine (rank_Ranks.calls k _ _ t503 t506 t507 _ ?side1 ?side2 A7.out).mono ?_); (case side1 => repeat (first | exact (Kd.R_reads' HO505.out).2.2 | (with_reducible refine Kd.C_alloc ?_ _) | (with_reducible refine Kd.C_drewN ?_ _) | (with_reducible refine Kd.C_drew ?_))); (case side2 => exact (Kd.R_reads' HO505.out).2.1); rintro e w45 ⟨v508, rfl, ho0, hb⟩; have n0_ := Aside0.mk (Kd.R_elder' (by (with_reducible repeat (first | apply Kd.R_alloc | apply Kd.R_drewN | apply Kd.R_drew)); exact HO505.out) (Kd.R_base ho0) hb); have n1_ := Aside0.mk (Kd.R_lower (Kd.R_new' ho0 (Kd.R_lt (by (with_reducible repeat (first | apply Kd.R_alloc | apply Kd.R_drewN | apply Kd.R_drew)); exact HO505.out))) (lqZ (by repeat (first | (with_reducible first | exact HB.out | apply lqA | apply lqN | apply lqD) | exact HB.out)))); have n2_ := Aside0.mk (lqT (by repeat (first | (with_reducible first | exact HB.out | apply lqA | apply lqN | apply lqD) | exact HB.out)) hb); clear HO505; clear HB; have HO505 := n0_; have HO509 := n1_; have HB := n2_; clear n0_ n1_ n2_; (try clear hb); (try clear hb2); (try clear hk); (try clear hi); (try clear ho0); obtain ⟨Ao46, co46, eo46⟩ := Kd.R_slice HO509.out; subst eo46)))
    go_ret
    exact ⟨by first | rfl | (simp [errW_none, errW_some] <;> rfl) | (simp [*, errW_none, errW_some] <;> rfl), by repeat (first | (with_reducible first | exact HB.out | apply lqA | apply lqN | apply lqD) | exact HB.out)⟩
 ·replace c3 := Bool.eq_false_iff.mpr c3
  subst c3
  have H1 : (none) = some r := by rw [if_neg (show ¬ (false = true) by decide)] at H; exact H
  clear H
  have H := H1
  clear H1
  exact absurd H (by simp)

/-- THE ONE PURE STATEMENT of spilelaw33_RankSums: yours. -/
def spilelaw33_RankSums.Pure : Prop := ∀ (l0 : List Int), l0.length ≤ maxLen → l0.length * 8 ≤ 140737488351232 → (∀ x ∈ l0, (Lit.int .i64 x).wf = true) → ∃ k, spilelaw33_RankSums.f k l0 = some true
theorem spilelaw33_RankSums.walk (P : spilelaw33_RankSums.Pure) (a0 : Option Addr) (len0 cap0 : Nat) (z0 : List Int) (w : World) (w0 : (a0 = none ∧ len0 = 0 ∧ cap0 = 0 ∧ z0 = []) ∨ ∃ x, a0 = some x ∧ len0 ≤ cap0 ∧ cap0 ≤ maxLen ∧ z0.length = cap0 ∧ (∀ i, i < z0.length → w.cell? (x.add i) = some (.int .i64 (z0.getD i 0))) ∧ ∀ n ∈ z0, (Lit.int .i64 n).wf = true) (y0 : len0 * 8 ≤ 140737488351232) :
  Calls Try.prog 7 #[.slice a0 len0 cap0] w fun e w' => e = .returned (.bool true) ∧ Below w.heap.size w w' := by
 obtain ⟨l0, rfl, hr0, hm0, hw0, hc0⟩ := ReadsInt.ofRowC w0
 obtain ⟨k, h⟩ := P l0 hm0 y0 hw0
 refine (spilelaw33_RankSums.calls k _ _ l0 true w (Kd.C_of_reads (d := (0 : Int)) (h1 := fun _ => rfl) hr0) hc0 h).mono ?_
 rintro e w' ⟨rfl, hd⟩
 exact ⟨rfl, hd⟩

end Go.Proofs.Ytbkoghmbacdiiaa.K
