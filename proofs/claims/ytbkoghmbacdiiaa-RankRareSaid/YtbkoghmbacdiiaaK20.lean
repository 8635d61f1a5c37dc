-- PRINTED by print.py (a twelfth state) out of the translation. Not trusted: Lean checks it.
import Derived.Test.YtbkoghmbacdiiaaK0
import Derived.Test.YtbkoghmbacdiiaaK20a
import Derived.Test.YtbkoghmbacdiiaaK9
import Derived.Test.YtbkoghmbacdiiaaK10
import Derived.Test.YtbkoghmbacdiiaaK17a
import Derived.Test.YtbkoghmbacdiiaaK19a
import Derived.Test.YtbkoghmbacdiiaaGAtLeast
import Derived.Test.YtbkoghmbacdiiaaGClone
import Derived.Test.YtbkoghmbacdiiaaGEqual
import Derived.Test.YtbkoghmbacdiiaaGMaxMin
namespace Go.Proofs.Ytbkoghmbacdiiaa.K
open Go.RowKit Go.Proofs.YtbkoghmbacdiiaaW.PrintWords Go.Proofs.YtbkoghmbacdiiaaW.PrintLast Go.Proofs.YtbkoghmbacdiiaaW.PrintMore
attribute [local go_sem] max2_int min2_int max_two min_two max_three min_three max_four min_four   -- for this text's walks alone
set_option linter.unusedVariables false
set_option linter.unusedSimpArgs false

/-! ### spilelaw33_RankRare: function 9 -/
mutual
def spilelaw33_RankRare.j0 : Nat → List Int → List Int → Int → Int → Bool → Option (Bool)
 | 0, _, _, _, _, _ => none
 | k + 1, x0, x1, x2, x3, x29 => if x29 = true then (some true) else ((clone14.f x0).bind fun t543 => ((clone14.f x1).bind fun t546 => ((rank_AtLeast.f t543 t546).bind fun bt549 => (if bt549.2.2 = 0 then (if (x0.length : Int) = 0 then (none) else (spilelaw33_RankRare.j1 k x0 x1 x2 x3 bt549.1 bt549.2.1 ((x1.length : Int) == 0))) else (if bt549.1 = 0 then (some (bt549.2.1 == 0)) else (none))))))
def spilelaw33_RankRare.j1 : Nat → List Int → List Int → Int → Int → Int → Int → Bool → Option (Bool)
 | 0, _, _, _, _, _, _, _ => none
 | k + 1, x0, x1, x2, x3, x9, x10, x54 => if x54 = true then (none) else ((rank_Ways.f k (wrap64 ((x0.length : Int) + (x1.length : Int))) (x0.length : Int)).bind fun bt552 => (if bt552.2 = 0 then (if bt552.1 = x10 then (if x9 < 1 then (none) else (spilelaw33_RankRare.j2 k x0 x1 x2 x3 x9 x10 (decide (x9 > x10)))) else (none)) else (none)))
def spilelaw33_RankRare.j2 : Nat → List Int → List Int → Int → Int → Int → Int → Bool → Option (Bool)
 | 0, _, _, _, _, _, _, _ => none
 | k + 1, x0, x1, x2, x3, x9, x10, x81 => if x81 = true then (none) else ((max34.f x0).bind fun t554 => ((min35.f x1).bind fun t555 => (if ((x9 == x10) != (decide (t554 ≤ t555))) = true then (none) else ((clone14.f x0).bind fun t556 => (if (t556.length : Int) = 0 then (none) else (if 0 ≤ (Int.tmod (wrap64 (x2)) (t556.length : Int)) then (if (Int.tmod (wrap64 (x2)) (t556.length : Int)) < (t556.length : Int) then ((some (t556.set ((Int.tmod (wrap64 (x2)) (t556.length : Int)) : Int).toNat (mn (wrap64 ((rd t556 (Int.tmod (wrap64 (x2)) (t556.length : Int))) + (wrap64 (x3)))) 1099511627776) : List Int)).bind fun y560 => ((clone14.f y560).bind fun t561 => ((clone14.f x1).bind fun t564 => ((rank_AtLeast.f t561 t564).bind fun bt567 => (if bt567.2.2 = 0 then ((equal36.f x0 x1).bind fun t570 => (if t570 = true then (some true) else ((equal36.f y560 x1).bind fun t571 => (if t571 = true then (some true) else (some (decide (bt567.1 ≤ x9))))))) else (none)))))) else (none)) else (none)))))))
end
def spilelaw33_RankRare.f (k : Nat) (l0 : List Int) (l1 : List Int) (a2 : Int) (a3 : Int) : Option (Bool) := (spilelaw33_awake.f k).bind fun t542 => (if t542 = true then (if (l0.length : Int) > 12 then (spilelaw33_RankRare.j0 k l0 l1 a2 a3 true) else (spilelaw33_RankRare.j0 k l0 l1 a2 a3 (decide ((l1.length : Int) > 12)))) else (none))
theorem spilelaw33_RankRare.mono_l : ∀ k, (∀ y0 y1 y2 y3 y4, LeO (spilelaw33_RankRare.j0 k y0 y1 y2 y3 y4) (spilelaw33_RankRare.j0 (k + 1) y0 y1 y2 y3 y4)) ∧ (∀ y0 y1 y2 y3 y4 y5 y6, LeO (spilelaw33_RankRare.j1 k y0 y1 y2 y3 y4 y5 y6) (spilelaw33_RankRare.j1 (k + 1) y0 y1 y2 y3 y4 y5 y6)) ∧ (∀ y0 y1 y2 y3 y4 y5 y6, LeO (spilelaw33_RankRare.j2 k y0 y1 y2 y3 y4 y5 y6) (spilelaw33_RankRare.j2 (k + 1) y0 y1 y2 y3 y4 y5 y6))
 | 0 => ⟨fun _ _ _ _ _ r h => by simp [spilelaw33_RankRare.j0] at h, fun _ _ _ _ _ _ _ r h => by simp [spilelaw33_RankRare.j1] at h, fun _ _ _ _ _ _ _ r h => by simp [spilelaw33_RankRare.j2] at h⟩
 | k + 1 => by
  obtain ⟨ih0, ih1, ih2⟩ := spilelaw33_RankRare.mono_l k
  refine ⟨?_, ?_, ?_⟩
  ·intro y0 y1 y2 y3 y4
   unfold spilelaw33_RankRare.j0
   repeat' first
   | (with_reducible exact ih0 _ _ _ _ _)
   | (with_reducible exact ih1 _ _ _ _ _ _ _)
   | (with_reducible exact ih2 _ _ _ _ _ _ _)
   | (with_reducible exact rank_Ways.mono _ _ _)
   | (with_reducible exact spilelaw33_awake.mono _)
   | (with_reducible exact LeO.refl _)
   | (with_reducible exact LeO.none _)
   | (with_reducible refine LeO.ite ?_ ?_)
   | (with_reducible refine LeO.bind ?_ (fun _ => ?_))
   | exact ih0 _ _ _ _ _
   | exact ih1 _ _ _ _ _ _ _
   | exact ih2 _ _ _ _ _ _ _
   | exact rank_Ways.mono _ _ _
   | exact spilelaw33_awake.mono _
   | exact LeO.none _
   | refine LeO.ite ?_ ?_
   | refine LeO.bind ?_ (fun _ => ?_)
  ·intro y0 y1 y2 y3 y4 y5 y6
   unfold spilelaw33_RankRare.j1
   repeat' first
   | (with_reducible exact ih0 _ _ _ _ _)
   | (with_reducible exact ih1 _ _ _ _ _ _ _)
   | (with_reducible exact ih2 _ _ _ _ _ _ _)
   | (with_reducible exact rank_Ways.mono _ _ _)
   | (with_reducible exact spilelaw33_awake.mono _)
   | (with_reducible exact LeO.refl _)
   | (with_reducible exact LeO.none _)
   | (with_reducible refine LeO.ite ?_ ?_)
   | (with_reducible refine LeO.bind ?_ (fun _ => ?_))
   | exact ih0 _ _ _ _ _
   | exact ih1 _ _ _ _ _ _ _
   | exact ih2 _ _ _ _ _ _ _
   | exact rank_Ways.mono _ _ _
   | exact spilelaw33_awake.mono _
   | exact LeO.none _
   | refine LeO.ite ?_ ?_
   | refine LeO.bind ?_ (fun _ => ?_)
  ·intro y0 y1 y2 y3 y4 y5 y6
   unfold spilelaw33_RankRare.j2
   repeat' first
   | (with_reducible exact ih0 _ _ _ _ _)
   | (with_reducible exact ih1 _ _ _ _ _ _ _)
   | (with_reducible exact ih2 _ _ _ _ _ _ _)
   | (with_reducible exact rank_Ways.mono _ _ _)
   | (with_reducible exact spilelaw33_awake.mono _)
   | (with_reducible exact LeO.refl _)
   | (with_reducible exact LeO.none _)
   | (with_reducible refine LeO.ite ?_ ?_)
   | (with_reducible refine LeO.bind ?_ (fun _ => ?_))
   | exact ih0 _ _ _ _ _
   | exact ih1 _ _ _ _ _ _ _
   | exact ih2 _ _ _ _ _ _ _
   | exact rank_Ways.mono _ _ _
   | exact spilelaw33_awake.mono _
   | exact LeO.none _
   | refine LeO.ite ?_ ?_
   | refine LeO.bind ?_ (fun _ => ?_)
theorem spilelaw33_RankRare.mono : ∀ a0 a1 a2 a3 k, LeO (spilelaw33_RankRare.f k a0 a1 a2 a3) (spilelaw33_RankRare.f (k + 1) a0 a1 a2 a3) := by
 intro a0 a1 a2 a3 k
 obtain ⟨ih0, ih1, ih2⟩ := spilelaw33_RankRare.mono_l k
 unfold spilelaw33_RankRare.f
 repeat' first
   | (with_reducible exact ih0 _ _ _ _ _)
   | (with_reducible exact ih1 _ _ _ _ _ _ _)
   | (with_reducible exact ih2 _ _ _ _ _ _ _)
   | (with_reducible exact rank_Ways.mono _ _ _)
   | (with_reducible exact spilelaw33_awake.mono _)
   | (with_reducible exact LeO.refl _)
   | (with_reducible exact LeO.none _)
   | (with_reducible refine LeO.ite ?_ ?_)
   | (with_reducible refine LeO.bind ?_ (fun _ => ?_))
   | exact ih0 _ _ _ _ _
   | exact ih1 _ _ _ _ _ _ _
   | exact ih2 _ _ _ _ _ _ _
   | exact rank_Ways.mono _ _ _
   | exact spilelaw33_awake.mono _
   | exact LeO.none _
   | refine LeO.ite ?_ ?_
   | refine LeO.bind ?_ (fun _ => ?_)
set_option maxHeartbeats 8000000 in
set_option maxRecDepth 100000 in
theorem spilelaw33_RankRare.calls (k : Nat) (A0 : Option Addr) (c0 : Nat) (l0 : List Int) (A1 : Option Addr) (c1 : Nat) (l1 : List Int) (a2 : Int) (a3 : Int) (r : Bool) (w : World) (hr0 : Kd.C (Kd.int .i64) w A0 l0.length l0) (hc0 : l0.length ≤ c0) (hr1 : Kd.C (Kd.int .i64) w A1 l1.length l1) (hc1 : l1.length ≤ c1) (h : spilelaw33_RankRare.f k l0 l1 a2 a3 = some r) :
  Calls Try.prog 9 #[.slice A0 l0.length c0, .slice A1 l1.length c1, .int .u8 a2, .int .u8 a3] w fun e w' => e = .returned (.bool r) ∧ Below w.heap.size w w' := by
 have HR0 := Aside0.mk hr0
 have HC0 := Aside0.mk hc0
 clear hr0 hc0
 have HR1 := Aside0.mk hr1
 have HC1 := Aside0.mk hc1
 clear hr1 hc1
 have HB := Aside0.mk (Below.refl w.heap.size w)
 have H : ((spilelaw33_awake.f k).bind fun t542 => (if t542 = true then (if (l0.length : Int) > 12 then (spilelaw33_RankRare.j0 k l0 l1 a2 a3 true) else (spilelaw33_RankRare.j0 k l0 l1 a2 a3 (decide ((l1.length : Int) > 12)))) else (none))) = some r := h
 clear h
 replace H := Option.bind_eq_some_iff.mp H
 obtain ⟨t542, A50, H⟩ := H
 replace H : (if t542 = true then (if (l0.length : Int) > 12 then (spilelaw33_RankRare.j0 k l0 l1 a2 a3 true) else (spilelaw33_RankRare.j0 k l0 l1 a2 a3 (decide ((l1.length : Int) > 12)))) else (none)) = some r := H
 have A5 := Aside0.mk A50
 clear A50
 by_cases c6 : t542 = true
 ·subst c6
  have H1 : (if (l0.length : Int) > 12 then (spilelaw33_RankRare.j0 k l0 l1 a2 a3 true) else (spilelaw33_RankRare.j0 k l0 l1 a2 a3 (decide ((l1.length : Int) > 12)))) = some r := by rw [if_pos rfl] at H; exact H
  clear H
  have H := H1
  clear H1
  have HC7 := Aside0.mk H
  clear H
  go_enter Try.func9, Try.ntmps9
  go_upto_region 3 with (first | ((with_reducible refine gqC (f := 10) rfl ?_); refine goesL_ (some 20) rfl rfl Try.func10 (by kernel_rfl) rfl #[] rfl (by (try simp only [List.map_toArray, List.map_cons, List.map_nil]); first | done | rfl | (simp only [List.length_drop, List.length_take]; rfl)) ?_; (with_reducible refine (spilelaw33_awake.calls k  true _ A5.out).mono ?_); rintro e w8 ⟨rfl, hb⟩; refine ⟨_, rfl, ?_⟩; have n0_ := Aside0.mk (lqT (by repeat (first | (with_reducible first | exact HB.out | apply lqA | apply lqN | apply lqD) | exact HB.out)) hb); clear HB; have HB := n0_; clear n0_; (try clear hb); (try clear hb2); (try clear hk); (try clear hi)))
  (try simp only [Act.put, List.setIfInBounds_toArray, List.set_cons_zero, List.set_cons_succ])
  go_cut [29] (fun v29 wc => ∃ (kq : Nat) (x29_6 : Bool), v29 = .bool x29_6 ∧ Aside0 (spilelaw33_RankRare.j0 kq l0 l1 a2 a3 x29_6 = some r) ∧ Aside0 (kq ≤ k) ∧ Aside0 (Below w.heap.size w wc))
  case first =>
   have H := HC7.out
   clear HC7
   by_cases c9 : (l0.length : Int) > 12
   ·rw [if_pos c9] at H
    have c9b0 : decide (12 < (l0.length : Int)) = true := decide_eq_true c9
    have c9b1 : decide (12 < l0.length) = true := decide_eq_true (by omega)
    clear c9
    (first | rw [c9b0] | (simp only [i64_w, i32_w]; rw [c9b0]) | skip)
    have H' := Aside0.mk H
    clear H
    go_wp2
    go_meet
    case rel => exact ⟨_, (true), (by first | rfl | (simp; done) | (simp [*]; done)), H', ⟨by first | omega | exact Nat.le_refl _⟩, ⟨by repeat (first | (with_reducible first | exact HB.out | apply lqA | apply lqN | apply lqD) | exact HB.out)⟩⟩
   ·rw [if_neg c9] at H
    have c9b0 : decide (12 < (l0.length : Int)) = false := decide_eq_false c9
    have c9b1 : decide (12 < l0.length) = false := decide_eq_false (by omega)
    clear c9
    (first | rw [c9b0] | (simp only [i64_w, i32_w]; rw [c9b0]) | skip)
    have H' := Aside0.mk H
    clear H
    go_wp2
    go_meet
    case rel => exact ⟨_, (decide ((l1.length : Int) > 12)), (by first | rfl | (simp; done) | (simp [*]; done)), H', ⟨by first | omega | exact Nat.le_refl _⟩, ⟨by repeat (first | (with_reducible first | exact HB.out | apply lqA | apply lqN | apply lqD) | exact HB.out)⟩⟩
  case rest =>
   clear HC7
   try clear c1
   try clear p2
   try clear c6
   try clear c9
   try clear c9b0
   try clear c9b1
   obtain ⟨kq, x29_6, rfl, HA, HJ6, HB⟩ := hcut
   cases kq with
   | zero => exact absurd HA.out (by simp [spilelaw33_RankRare.j0])
   | succ kj6 =>
    have H := HA.out
    clear HA
    simp only [spilelaw33_RankRare.j0] at H
    by_cases c10 : x29_6 = true
    ·subst c10
     have H1 : (some true) = some r := by rw [if_pos rfl] at H; exact H
     clear H
     have H := H1
     clear H1
     obtain rfl := Option.some.inj H
     go_wp2
     go_ret
     exact ⟨by first | rfl | (simp [errW_none, errW_some] <;> rfl) | (simp [*, errW_none, errW_some] <;> rfl), by repeat (first | (with_reducible first | exact HB.out | apply lqA | apply lqN | apply lqD) | exact HB.out)⟩
    ·replace c10 := Bool.eq_false_iff.mpr c10
     subst c10
     have H1 : ((clone14.f l0).bind fun t543 => ((clone14.f l1).bind fun t546 => ((rank_AtLeast.f t543 t546).bind fun bt549 => (if bt549.2.2 = 0 then (if (l0.length : Int) = 0 then (none) else (spilelaw33_RankRare.j1 kj6 l0 l1 a2 a3 bt549.1 bt549.2.1 ((l1.length : Int) == 0))) else (if bt549.1 = 0 then (some (bt549.2.1 == 0)) else (none)))))) = some r := by rw [if_neg (show ¬ (false = true) by decide)] at H; exact H
     clear H
     have H := H1
     clear H1
     replace H := Option.bind_eq_some_iff.mp H
     obtain ⟨t543, A110, H⟩ := H
     replace H : ((clone14.f l1).bind fun t546 => ((rank_AtLeast.f t543 t546).bind fun bt549 => (if bt549.2.2 = 0 then (if (l0.length : Int) = 0 then (none) else (spilelaw33_RankRare.j1 kj6 l0 l1 a2 a3 bt549.1 bt549.2.1 ((l1.length : Int) == 0))) else (if bt549.1 = 0 then (some (bt549.2.1 == 0)) else (none))))) = some r := H
     have A11 := Aside0.mk A110
     clear A110
     replace H := Option.bind_eq_some_iff.mp H
     obtain ⟨t546, A120, H⟩ := H
     replace H : ((rank_AtLeast.f t543 t546).bind fun bt549 => (if bt549.2.2 = 0 then (if (l0.length : Int) = 0 then (none) else (spilelaw33_RankRare.j1 kj6 l0 l1 a2 a3 bt549.1 bt549.2.1 ((l1.length : Int) == 0))) else (if bt549.1 = 0 then (some (bt549.2.1 == 0)) else (none)))) = some r := H
     have A12 := Aside0.mk A120
     clear A120
     replace H := Option.bind_eq_some_iff.mp H
     obtain ⟨⟨t549, t550, t551⟩, A130, H⟩ := H
     replace H : (if t551 = 0 then (if (l0.length : Int) = 0 then (none) else (spilelaw33_RankRare.j1 kj6 l0 l1 a2 a3 t549 t550 ((l1.length : Int) == 0))) else (if t549 = 0 then (some (t550 == 0)) else (none))) = some r := H
     have A13 := Aside0.mk A130
     clear A130
     by_cases c14 : t551 = 0
     ·rw [if_pos c14] at H
      have c14b0 : (t551 == 0) = true := beq_iff_eq.mpr c14
      try simp only [beq_self_eq_true, Bool.not_true, Bool.false_or, Bool.true_and] at c14b0
      have c14b1 : (t551 != 0) = false := bne_eq_false_iff_eq.mpr c14
      clear c14
      have HC15 := Aside0.mk H
      clear H
      go_upto_region 8 with (first | ((with_reducible refine gqC (f := 14) rfl ?_); refine goesL_ (some 32) rfl rfl Try.func14 (by kernel_rfl) rfl #[.slice A0 l0.length c0] rfl (by (try simp only [List.map_toArray, List.map_cons, List.map_nil]); first | done | rfl | (simp only [List.length_drop, List.length_take]; rfl)) ?_; (with_reducible refine (clone14.calls _ _ l0 t543 _ ?side1 ?side2 A11.out).mono ?_); (case side1 => repeat (first | exact (Kd.C_below HR0.out HB.out) | (with_reducible refine Kd.C_alloc ?_ _) | (with_reducible refine Kd.C_drewN ?_ _) | (with_reducible refine Kd.C_drew ?_))); (case side2 => exact HC0.out); rintro e w16 ⟨v544, rfl, ho0, hb⟩; refine ⟨_, rfl, ?_⟩; have n0_ := Aside0.mk (Kd.R_lower ho0 (lqZ (by repeat (first | (with_reducible first | exact HB.out | apply lqA | apply lqN | apply lqD) | exact HB.out)))); have n1_ := Aside0.mk (lqT (by repeat (first | (with_reducible first | exact HB.out | apply lqA | apply lqN | apply lqD) | exact HB.out)) hb); clear HB; have HO545 := n0_; have HB := n1_; clear n0_ n1_; (try clear hb); (try clear hb2); (try clear hk); (try clear hi); (try clear ho0)) | ((with_reducible refine gqC (f := 14) rfl ?_); refine goesL_ (some 34) rfl rfl Try.func14 (by kernel_rfl) rfl #[.slice A1 l1.length c1] rfl (by (try simp only [List.map_toArray, List.map_cons, List.map_nil]); first | done | rfl | (simp only [List.length_drop, List.length_take]; rfl)) ?_; (with_reducible refine (clone14.calls _ _ l1 t546 _ ?side1 ?side2 A12.out).mono ?_); (case side1 => repeat (first | exact (Kd.C_below HR1.out HB.out) | (with_reducible refine Kd.C_alloc ?_ _) | (with_reducible refine Kd.C_drewN ?_ _) | (with_reducible refine Kd.C_drew ?_))); (case side2 => exact HC1.out); rintro e w17 ⟨v547, rfl, ho0, hb⟩; refine ⟨_, rfl, ?_⟩; have n0_ := Aside0.mk (Kd.R_elder' (by (with_reducible repeat (first | apply Kd.R_alloc | apply Kd.R_drewN | apply Kd.R_drew)); exact HO545.out) (Kd.R_base ho0) hb); have n1_ := Aside0.mk (Kd.R_lower (Kd.R_new' ho0 (Kd.R_lt (by (with_reducible repeat (first | apply Kd.R_alloc | apply Kd.R_drewN | apply Kd.R_drew)); exact HO545.out))) (lqZ (by repeat (first | (with_reducible first | exact HB.out | apply lqA | apply lqN | apply lqD) | exact HB.out)))); have n2_ := Aside0.mk (lqT (by repeat (first | (with_reducible first | exact HB.out | apply lqA | apply lqN | apply lqD) | exact HB.out)) hb); clear HO545; clear HB; have HO545 := n0_; have HO548 := n1_; have HB := n2_; clear n0_ n1_ n2_; (try clear hb); (try clear hb2); (try clear hk); (try clear hi); (try clear ho0); obtain ⟨Ao18, co18, eo18⟩ := Kd.R_slice HO545.out; subst eo18; obtain ⟨Ao19, co19, eo19⟩ := Kd.R_slice HO548.out; subst eo19) | ((with_reducible refine gqC (f := 25) rfl ?_); refine goesL_ (some 35) rfl rfl Try.func25 (by kernel_rfl) rfl #[.slice Ao18 t543.length co18, .slice Ao19 t546.length co19] rfl (by (try simp only [List.map_toArray, List.map_cons, List.map_nil]); first | done | rfl | (simp only [List.length_drop, List.length_take]; rfl)) ?_; (with_reducible refine (rank_AtLeast.calls _ _ t543 _ _ t546 t549 t550 t551 _ ?side1 ?side2 ?side3 ?side4 A13.out).mono ?_); (case side1 => repeat (first | exact (Kd.R_reads' HO545.out).2.2 | (with_reducible refine Kd.C_alloc ?_ _) | (with_reducible refine Kd.C_drewN ?_ _) | (with_reducible refine Kd.C_drew ?_))); (case side2 => exact (Kd.R_reads' HO545.out).2.1); (case side3 => repeat (first | exact (Kd.R_reads' HO548.out).2.2 | (with_reducible refine Kd.C_alloc ?_ _) | (with_reducible refine Kd.C_drewN ?_ _) | (with_reducible refine Kd.C_drew ?_))); (case side4 => exact (Kd.R_reads' HO548.out).2.1); rintro e w20 ⟨rfl, hb⟩; refine ⟨_, rfl, ?_⟩; have n0_ := Aside0.mk (Kd.R_below (by (with_reducible repeat (first | apply Kd.R_alloc | apply Kd.R_drewN | apply Kd.R_drew)); exact HO545.out) hb); have n1_ := Aside0.mk (Kd.R_below (by (with_reducible repeat (first | apply Kd.R_alloc | apply Kd.R_drewN | apply Kd.R_drew)); exact HO548.out) hb); have n2_ := Aside0.mk (lqT (by repeat (first | (with_reducible first | exact HB.out | apply lqA | apply lqN | apply lqD) | exact HB.out)) hb); clear HO545; clear HO548; clear HB; have HO545 := n0_; have HO548 := n1_; have HB := n2_; clear n0_ n1_ n2_; (try clear hb); (try clear hb2); (try clear hk); (try clear hi)))
      (try simp only [Act.put, List.setIfInBounds_toArray, List.set_cons_zero, List.set_cons_succ])
      go_cut [54] (fun v54 wc => ∃ (kq : Nat) (x54_14 : Bool), v54 = .bool x54_14 ∧ Aside0 (spilelaw33_RankRare.j1 kq l0 l1 a2 a3 t549 t550 x54_14 = some r) ∧ Aside0 (kq ≤ kj6) ∧ Aside0 (Below w.heap.size w wc))
      case first =>
       have H := HC15.out
       clear HC15
       by_cases c21 : (l0.length : Int) = 0
       ·rw [if_pos c21] at H
        exact absurd H (by simp)
       ·rw [if_neg c21] at H
        have c21b0 : ((l0.length : Int) == 0) = false := beq_eq_false_iff_ne.mpr c21
        try simp only [beq_self_eq_true, Bool.not_true, Bool.false_or, Bool.true_and] at c21b0
        have c21b1 : ((l0.length : Int) != 0) = true := bne_iff_ne.mpr c21
        have c21b2 : ¬ (l0 = []) := fun h_ => c21 (by rw [h_]; rfl)
        (first | rw [c21b0] | (simp only [i64_w, i32_w]; rw [c21b0]) | skip)
        have H' := Aside0.mk H
        clear H
        go_wp2
        go_meet
        case rel => exact ⟨_, (((l1.length : Int) == 0)), (by first | rfl | (simp; done) | (simp [*]; done)), H', ⟨by have := HJ6.out; first | omega | exact Nat.le_refl _⟩, ⟨by repeat (first | (with_reducible first | exact HB.out | apply lqA | apply lqN | apply lqD) | exact HB.out)⟩⟩
      case rest =>
       clear HC15
       try clear c1
       try clear c2
       try clear p2
       try clear c6
       try clear c9
       try clear c9b0
       try clear c9b1
       try clear c10
       try clear c14
       try clear c14b0
       try clear c14b1
       try clear c21
       try clear c21b0
       try clear c21b1
       try clear c21b2
       try clear p2
       obtain ⟨kq, x54_14, rfl, HA, HJ14, HB⟩ := hcut
       cases kq with
       | zero => exact absurd HA.out (by simp [spilelaw33_RankRare.j1])
       | succ kj14 =>
        have H := HA.out
        clear HA
        simp only [spilelaw33_RankRare.j1] at H
        by_cases c22 : x54_14 = true
        ·subst c22
         have H1 : (none) = some r := by rw [if_pos rfl] at H; exact H
         clear H
         have H := H1
         clear H1
         exact absurd H (by simp)
        ·replace c22 := Bool.eq_false_iff.mpr c22
         subst c22
         have H1 : ((rank_Ways.f kj14 (wrap64 ((l0.length : Int) + (l1.length : Int))) (l0.length : Int)).bind fun bt552 => (if bt552.2 = 0 then (if bt552.1 = t550 then (if t549 < 1 then (none) else (spilelaw33_RankRare.j2 kj14 l0 l1 a2 a3 t549 t550 (decide (t549 > t550)))) else (none)) else (none))) = some r := by rw [if_neg (show ¬ (false = true) by decide)] at H; exact H
         clear H
         have H := H1
         clear H1
         replace H := Option.bind_eq_some_iff.mp H
         obtain ⟨⟨t552, t553⟩, A230, H⟩ := H
         replace H : (if t553 = 0 then (if t552 = t550 then (if t549 < 1 then (none) else (spilelaw33_RankRare.j2 kj14 l0 l1 a2 a3 t549 t550 (decide (t549 > t550)))) else (none)) else (none)) = some r := H
         have A23 := Aside0.mk A230
         clear A230
         have HC24 := Aside0.mk H
         clear H
         go_upto_region 11 with (first | ((with_reducible refine gqC (f := 27) rfl ?_); refine goesL_ (some 63) rfl rfl Try.func27 (by kernel_rfl) rfl #[.int .i64 (wrap64 ((l0.length : Int) + (l1.length : Int))), .int .i64 (l0.length : Int)] rfl (by (try simp only [List.map_toArray, List.map_cons, List.map_nil]); first | done | rfl | (simp only [List.length_drop, List.length_take]; rfl)) ?_; (with_reducible refine (rank_Ways.calls kj14 (wrap64 ((l0.length : Int) + (l1.length : Int))) (l0.length : Int) t552 t553 _ A23.out).mono ?_); rintro e w25 ⟨rfl, hb⟩; refine ⟨_, rfl, ?_⟩; have n0_ := Aside0.mk (lqT (by repeat (first | (with_reducible first | exact HB.out | apply lqA | apply lqN | apply lqD) | exact HB.out)) hb); clear HB; have HB := n0_; clear n0_; (try clear hb); (try clear hb2); (try clear hk); (try clear hi)))
         (try simp only [Act.put, List.setIfInBounds_toArray, List.set_cons_zero, List.set_cons_succ])
         go_cut [81] (fun v81 wc => ∃ (kq : Nat) (x81_23 : Bool), v81 = .bool x81_23 ∧ Aside0 (spilelaw33_RankRare.j2 kq l0 l1 a2 a3 t549 t550 x81_23 = some r) ∧ Aside0 (kq ≤ kj14) ∧ Aside0 (Below w.heap.size w wc))
         case first =>
          have H := HC24.out
          clear HC24
          by_cases c26 : t553 = 0
          ·rw [if_pos c26] at H
           have c26b0 : (t553 == 0) = true := beq_iff_eq.mpr c26
           try simp only [beq_self_eq_true, Bool.not_true, Bool.false_or, Bool.true_and] at c26b0
           have c26b1 : (t553 != 0) = false := bne_eq_false_iff_eq.mpr c26
           clear c26
           (first | rw [c26b0] | (simp only [i64_w, i32_w]; rw [c26b0]) | skip)
           by_cases c27 : t552 = t550
           ·rw [if_pos c27] at H
            have c27b0 : (t552 == t550) = true := beq_iff_eq.mpr c27
            try simp only [beq_self_eq_true, Bool.not_true, Bool.false_or, Bool.true_and] at c27b0
            have c27b1 : (t552 != t550) = false := bne_eq_false_iff_eq.mpr c27
            clear c27
            by_cases c28 : t549 < 1
            ·rw [if_pos c28] at H
             exact absurd H (by simp)
            ·rw [if_neg c28] at H
             have c28b0 : decide (t549 < 1) = false := decide_eq_false c28
             clear c28
             have H' := Aside0.mk H
             clear H
             go_wp2
             go_meet
             case rel => exact ⟨_, (decide (t549 > t550)), (by first | rfl | (simp; done) | (simp [*]; done)), H', ⟨by have := HJ6.out; have := HJ14.out; first | omega | exact Nat.le_refl _⟩, ⟨by repeat (first | (with_reducible first | exact HB.out | apply lqA | apply lqN | apply lqD) | exact HB.out)⟩⟩
           ·rw [if_neg c27] at H
            exact absurd H (by simp)
          ·rw [if_neg c26] at H
           exact absurd H (by simp)
         case rest =>
          clear HC24
          try clear c1
          try clear c2
          try clear p2
          try clear c6
          try clear p6
          try clear c9
          try clear c9b0
          try clear c9b1
          try clear c10
          try clear c14
          try clear c14b0
          try clear c14b1
          try clear c21
          try clear c21b0
          try clear c21b1
          try clear c21b2
          try clear c22
          try clear c25
          try clear c26
          try clear c26b0
          try clear c26b1
          try clear c27
          try clear c27b0
          try clear c27b1
          try clear c28
          try clear c28b0
          try clear p2
          obtain ⟨kq, x81_23, rfl, HA, HJ23, HB⟩ := hcut
          cases kq with
          | zero => exact absurd HA.out (by simp [spilelaw33_RankRare.j2])
          | succ kj23 =>
           have H := HA.out
           clear HA
           simp only [spilelaw33_RankRare.j2] at H
           by_cases c29 : x81_23 = true
           ·subst c29
            have H1 : (none) = some r := by rw [if_pos rfl] at H; exact H
            clear H
            have H := H1
            clear H1
            exact absurd H (by simp)
           ·replace c29 := Bool.eq_false_iff.mpr c29
            subst c29
            have H1 : ((max34.f l0).bind fun t554 => ((min35.f l1).bind fun t555 => (if ((t549 == t550) != (decide (t554 ≤ t555))) = true then (none) else ((clone14.f l0).bind fun t556 => (if (t556.length : Int) = 0 then (none) else (if 0 ≤ (Int.tmod (wrap64 (a2)) (t556.length : Int)) then (if (Int.tmod (wrap64 (a2)) (t556.length : Int)) < (t556.length : Int) then ((some (t556.set ((Int.tmod (wrap64 (a2)) (t556.length : Int)) : Int).toNat (mn (wrap64 ((rd t556 (Int.tmod (wrap64 (a2)) (t556.length : Int))) + (wrap64 (a3)))) 1099511627776) : List Int)).bind fun y560 => ((clone14.f y560).bind fun t561 => ((clone14.f l1).bind fun t564 => ((rank_AtLeast.f t561 t564).bind fun bt567 => (if bt567.2.2 = 0 then ((equal36.f l0 l1).bind fun t570 => (if t570 = true then (some true) else ((equal36.f y560 l1).bind fun t571 => (if t571 = true then (some true) else (some (decide (bt567.1 ≤ t549))))))) else (none)))))) else (none)) else (none))))))) = some r := by rw [if_neg (show ¬ (false = true) by decide)] at H; exact H
            clear H
            have H := H1
            clear H1
            replace H := Option.bind_eq_some_iff.mp H
            obtain ⟨t554, A300, H⟩ := H
            replace H : ((min35.f l1).bind fun t555 => (if ((t549 == t550) != (decide (t554 ≤ t555))) = true then (none) else ((clone14.f l0).bind fun t556 => (if (t556.length : Int) = 0 then (none) else (if 0 ≤ (Int.tmod (wrap64 (a2)) (t556.length : Int)) then (if (Int.tmod (wrap64 (a2)) (t556.length : Int)) < (t556.length : Int) then ((some (t556.set ((Int.tmod (wrap64 (a2)) (t556.length : Int)) : Int).toNat (mn (wrap64 ((rd t556 (Int.tmod (wrap64 (a2)) (t556.length : Int))) + (wrap64 (a3)))) 1099511627776) : List Int)).bind fun y560 => ((clone14.f y560).bind fun t561 => ((clone14.f l1).bind fun t564 => ((rank_AtLeast.f t561 t564).bind fun bt567 => (if bt567.2.2 = 0 then ((equal36.f l0 l1).bind fun t570 => (if t570 = true then (some true) else ((equal36.f y560 l1).bind fun t571 => (if t571 = true then (some true) else (some (decide (bt567.1 ≤ t549))))))) else (none)))))) else (none)) else (none)))))) = some r := H
            have A30 := Aside0.mk A300
            clear A300
            replace H := Option.bind_eq_some_iff.mp H
            obtain ⟨t555, A310, H⟩ := H
            replace H : (if ((t549 == t550) != (decide (t554 ≤ t555))) = true then (none) else ((clone14.f l0).bind fun t556 => (if (t556.length : Int) = 0 then (none) else (if 0 ≤ (Int.tmod (wrap64 (a2)) (t556.length : Int)) then (if (Int.tmod (wrap64 (a2)) (t556.length : Int)) < (t556.length : Int) then ((some (t556.set ((Int.tmod (wrap64 (a2)) (t556.length : Int)) : Int).toNat (mn (wrap64 ((rd t556 (Int.tmod (wrap64 (a2)) (t556.length : Int))) + (wrap64 (a3)))) 1099511627776) : List Int)).bind fun y560 => ((clone14.f y560).bind fun t561 => ((clone14.f l1).bind fun t564 => ((rank_AtLeast.f t561 t564).bind fun bt567 => (if bt567.2.2 = 0 then ((equal36.f l0 l1).bind fun t570 => (if t570 = true then (some true) else ((equal36.f y560 l1).bind fun t571 => (if t571 = true then (some true) else (some (decide (bt567.1 ≤ t549))))))) else (none)))))) else (none)) else (none))))) = some r := H
            have A31 := Aside0.mk A310
            clear A310
            by_cases c32 : ((t549 == t550) != (decide (t554 ≤ t555))) = true
            ·rw [if_pos c32] at H
             exact absurd H (by simp)
            ·rw [if_neg c32] at H
             have c32b0 : ((t549 == t550) != (decide (t554 ≤ t555))) = false := by simpa using c32
             try simp only [beq_self_eq_true, Bool.not_true, Bool.false_or, Bool.true_and] at c32b0
             (try (have c32b1 : decide ((t549 == t550) = (decide (t554 ≤ t555))) = true := by simpa using c32))
             (try (have c32b2 : ((t549 == t550) == (decide (t554 ≤ t555))) = true := by simpa using c32))
             clear c32
             replace H := Option.bind_eq_some_iff.mp H
             obtain ⟨t556, A330, H⟩ := H
             replace H : (if (t556.length : Int) = 0 then (none) else (if 0 ≤ (Int.tmod (wrap64 (a2)) (t556.length : Int)) then (if (Int.tmod (wrap64 (a2)) (t556.length : Int)) < (t556.length : Int) then ((some (t556.set ((Int.tmod (wrap64 (a2)) (t556.length : Int)) : Int).toNat (mn (wrap64 ((rd t556 (Int.tmod (wrap64 (a2)) (t556.length : Int))) + (wrap64 (a3)))) 1099511627776) : List Int)).bind fun y560 => ((clone14.f y560).bind fun t561 => ((clone14.f l1).bind fun t564 => ((rank_AtLeast.f t561 t564).bind fun bt567 => (if bt567.2.2 = 0 then ((equal36.f l0 l1).bind fun t570 => (if t570 = true then (some true) else ((equal36.f y560 l1).bind fun t571 => (if t571 = true then (some true) else (some (decide (bt567.1 ≤ t549))))))) else (none)))))) else (none)) else (none))) = some r := H
             have A33 := Aside0.mk A330
             clear A330
             by_cases c34 : (t556.length : Int) = 0
             ·rw [if_pos c34] at H
              exact absurd H (by simp)
             ·rw [if_neg c34] at H
              have c34b0 : ((t556.length : Int) == 0) = false := beq_eq_false_iff_ne.mpr c34
              try simp only [beq_self_eq_true, Bool.not_true, Bool.false_or, Bool.true_and] at c34b0
              have c34b1 : ((t556.length : Int) != 0) = true := bne_iff_ne.mpr c34
              have c34b2 : ¬ (t556 = []) := fun h_ => c34 (by rw [h_]; rfl)
              obtain ⟨ji35, hji35⟩ : ∃ j_ : Int, (Int.tmod (wrap64 (a2)) (t556.length : Int)) = j_ := ⟨_, rfl⟩
              replace H : (if 0 ≤ (ji35) then (if (ji35) < (t556.length : Int) then ((some (t556.set ((ji35) : Int).toNat (mn (wrap64 ((rd t556 (ji35)) + (wrap64 (a3)))) 1099511627776) : List Int)).bind fun y560 => ((clone14.f y560).bind fun t561 => ((clone14.f l1).bind fun t564 => ((rank_AtLeast.f t561 t564).bind fun bt567 => (if bt567.2.2 = 0 then ((equal36.f l0 l1).bind fun t570 => (if t570 = true then (some true) else ((equal36.f y560 l1).bind fun t571 => (if t571 = true then (some true) else (some (decide (bt567.1 ≤ t549))))))) else (none)))))) else (none)) else (none)) = some r := by first | (rw [hji35] at H; exact H) | (simp only [hji35] at H ⊢; exact H)
              (try rw [hji35] at A30)
              (try rw [hji35] at A31)
              (try rw [hji35] at A33)
              by_cases c36 : 0 ≤ (ji35)
              ·rw [if_pos c36] at H
               have c36b0 : decide (0 ≤ (ji35)) = true := decide_eq_true c36
               clear c36
               by_cases c37 : (ji35) < (t556.length : Int)
               ·rw [if_pos c37] at H
                have c37b0 : decide ((ji35) < (t556.length : Int)) = true := decide_eq_true c37
                clear c37
                obtain ⟨ji38, hji38⟩ : ∃ j_ : Int, (mn (wrap64 ((rd t556 (ji35)) + (wrap64 (a3)))) 1099511627776) = j_ := ⟨_, rfl⟩
                replace H : ((some (t556.set ((ji35) : Int).toNat (ji38) : List Int)).bind fun y560 => ((clone14.f y560).bind fun t561 => ((clone14.f l1).bind fun t564 => ((rank_AtLeast.f t561 t564).bind fun bt567 => (if bt567.2.2 = 0 then ((equal36.f l0 l1).bind fun t570 => (if t570 = true then (some true) else ((equal36.f y560 l1).bind fun t571 => (if t571 = true then (some true) else (some (decide (bt567.1 ≤ t549))))))) else (none)))))) = some r := by first | (rw [hji38] at H; exact H) | (simp only [hji38] at H ⊢; exact H)
                (try rw [hji38] at A30)
                (try rw [hji38] at A31)
                (try rw [hji38] at A33)
                have hji38_ : (if 1099511627776 < (wrap64 ((rd t556 (ji35)) + (wrap64 (a3)))) then 1099511627776 else (wrap64 ((rd t556 (ji35)) + (wrap64 (a3))))) = ji38 := hji38
                obtain ⟨y560, hy560⟩ : ∃ y_ : List Int, y_ = (t556.set ((ji35) : Int).toNat (ji38)) := ⟨_, rfl⟩
                replace H : ((clone14.f y560).bind fun t561 => ((clone14.f l1).bind fun t564 => ((rank_AtLeast.f t561 t564).bind fun bt567 => (if bt567.2.2 = 0 then ((equal36.f l0 l1).bind fun t570 => (if t570 = true then (some true) else ((equal36.f y560 l1).bind fun t571 => (if t571 = true then (some true) else (some (decide (bt567.1 ≤ t549))))))) else (none))))) = some r := by first | (rw [hy560]; with_reducible exact H) | (have H2_ := (Option.bind_some _ _).symm.trans H; rw [hy560]; with_reducible exact H2_) | (have H2_ := (Option.bind_some _ _).symm.trans H; with_reducible exact H2_) | with_reducible exact H | (rw [hy560]; exact H) | exact H
                have Ny560 := Aside0.mk hy560
                clear hy560
                replace H := Option.bind_eq_some_iff.mp H
                obtain ⟨t561, A400, H⟩ := H
                replace H : ((clone14.f l1).bind fun t564 => ((rank_AtLeast.f t561 t564).bind fun bt567 => (if bt567.2.2 = 0 then ((equal36.f l0 l1).bind fun t570 => (if t570 = true then (some true) else ((equal36.f y560 l1).bind fun t571 => (if t571 = true then (some true) else (some (decide (bt567.1 ≤ t549))))))) else (none)))) = some r := H
                have A40 := Aside0.mk A400
                clear A400
                replace H := Option.bind_eq_some_iff.mp H
                obtain ⟨t564, A410, H⟩ := H
                replace H : ((rank_AtLeast.f t561 t564).bind fun bt567 => (if bt567.2.2 = 0 then ((equal36.f l0 l1).bind fun t570 => (if t570 = true then (some true) else ((equal36.f y560 l1).bind fun t571 => (if t571 = true then (some true) else (some (decide (bt567.1 ≤ t549))))))) else (none))) = some r := H
                have A41 := Aside0.mk A410
                clear A410
                replace H := Option.bind_eq_some_iff.mp H
                obtain ⟨⟨t567, t568, t569⟩, A420, H⟩ := H
                replace H : (if t569 = 0 then ((equal36.f l0 l1).bind fun t570 => (if t570 = true then (some true) else ((equal36.f y560 l1).bind fun t571 => (if t571 = true then (some true) else (some (decide (t567 ≤ t549))))))) else (none)) = some r := H
                have A42 := Aside0.mk A420
                clear A420
                by_cases c43 : t569 = 0
                ·rw [if_pos c43] at H
                 have c43b0 : (t569 == 0) = true := beq_iff_eq.mpr c43
                 try simp only [beq_self_eq_true, Bool.not_true, Bool.false_or, Bool.true_and] at c43b0
                 have c43b1 : (t569 != 0) = false := bne_eq_false_iff_eq.mpr c43
                 clear c43
                 replace H := Option.bind_eq_some_iff.mp H
                 obtain ⟨t570, A440, H⟩ := H
                 replace H : (if t570 = true then (some true) else ((equal36.f y560 l1).bind fun t571 => (if t571 = true then (some true) else (some (decide (t567 ≤ t549)))))) = some r := H
                 have A44 := Aside0.mk A440
                 clear A440
                 by_cases c45 : t570 = true
                 ·subst c45
                  have H1 : (some true) = some r := by rw [if_pos rfl] at H; exact H
                  clear H
                  have H := H1
                  clear H1
                  obtain rfl := Option.some.inj H
                  go_wp2_with (first | ((with_reducible refine gqC (f := 34) rfl ?_); refine goesL_ (some 83) rfl rfl Try.func34 (by kernel_rfl) rfl #[.slice A0 l0.length c0] rfl (by (try simp only [List.map_toArray, List.map_cons, List.map_nil]); first | done | rfl | (simp only [List.length_drop, List.length_take]; rfl)) ?_; (with_reducible refine (max34.calls _ _ l0 t554 _ ?side1 ?side2 A30.out).mono ?_); (case side1 => repeat (first | exact (Kd.C_below HR0.out HB.out) | (with_reducible refine Kd.C_alloc ?_ _) | (with_reducible refine Kd.C_drewN ?_ _) | (with_reducible refine Kd.C_drew ?_))); (case side2 => exact HC0.out); rintro e w46 ⟨rfl, hb⟩; refine ⟨_, rfl, ?_⟩; have n0_ := Aside0.mk (lqT (by repeat (first | (with_reducible first | exact HB.out | apply lqA | apply lqN | apply lqD) | exact HB.out)) hb); clear HB; have HB := n0_; clear n0_; (try clear hb); (try clear hb2); (try clear hk); (try clear hi)) | ((with_reducible refine gqC (f := 35) rfl ?_); refine goesL_ (some 85) rfl rfl Try.func35 (by kernel_rfl) rfl #[.slice A1 l1.length c1] rfl (by (try simp only [List.map_toArray, List.map_cons, List.map_nil]); first | done | rfl | (simp only [List.length_drop, List.length_take]; rfl)) ?_; (with_reducible refine (min35.calls _ _ l1 t555 _ ?side1 ?side2 A31.out).mono ?_); (case side1 => repeat (first | exact (Kd.C_below HR1.out HB.out) | (with_reducible refine Kd.C_alloc ?_ _) | (with_reducible refine Kd.C_drewN ?_ _) | (with_reducible refine Kd.C_drew ?_))); (case side2 => exact HC1.out); rintro e w47 ⟨rfl, hb⟩; refine ⟨_, rfl, ?_⟩; have n0_ := Aside0.mk (lqT (by repeat (first | (with_reducible first | exact HB.out | apply lqA | apply lqN | apply lqD) | exact HB.out)) hb); clear HB; have HB := n0_; clear n0_; (try clear hb); (try clear hb2); (try clear hk); (try clear hi)) | ((with_reducible refine gqC (f := 14) rfl ?_); refine goesL_ (some 93) rfl rfl Try.func14 (by kernel_rfl) rfl #[.slice A0 l0.length c0] rfl (by (try simp only [List.map_toArray, List.map_cons, List.map_nil]); first | done | rfl | (simp only [List.length_drop, List.length_take]; rfl)) ?_; (with_reducible refine (clone14.calls _ _ l0 t556 _ ?side1 ?side2 A33.out).mono ?_); (case side1 => repeat (first | exact (Kd.C_below HR0.out HB.out) | (with_reducible refine Kd.C_alloc ?_ _) | (with_reducible refine Kd.C_drewN ?_ _) | (with_reducible refine Kd.C_drew ?_))); (case side2 => exact HC0.out); rintro e w48 ⟨v557, rfl, ho0, hb⟩; refine ⟨_, rfl, ?_⟩; have n0_ := Aside0.mk (Kd.R_lower ho0 (lqZ (by repeat (first | (with_reducible first | exact HB.out | apply lqA | apply lqN | apply lqD) | exact HB.out)))); have n1_ := Aside0.mk (lqT (by repeat (first | (with_reducible first | exact HB.out | apply lqA | apply lqN | apply lqD) | exact HB.out)) hb); clear HB; have HO558 := n0_; have HB := n1_; clear n0_ n1_; (try clear hb); (try clear hb2); (try clear hk); (try clear hi); (try clear ho0); obtain ⟨Ao49, co49, eo49⟩ := Kd.R_slice HO558.out; subst eo49; have p559 : 0 ≤ ((ji35) : Int) := of_decide_eq_true (by first | (with_reducible assumption) | assumption); have q559 : (ji35) < (t556.length : Int) := of_decide_eq_true (by first | (with_reducible assumption) | assumption); obtain ⟨ad559, e559, hx559_0⟩ := Kd.at_int (Kd.R_reads' HO558.out).2.2 (ji35) p559 q559; cases e559; replace p559 := eq_true p559; replace q559 := eq_true q559; have p39 : 0 ≤ ((ji35) : Int) := of_decide_eq_true (by first | (with_reducible assumption) | assumption); have q39 : ((ji35) : Int) < ((t556.length : Int) : Int) := of_decide_eq_true (by first | (with_reducible assumption) | assumption); obtain ⟨go39, co39, eo39, gb39, gl39, cl39, HG39⟩ := Kd.R_form HO558.out (by omega); (first | cases eo39 | (injection eo39 with ea_ en_ ec_; (first | subst ea_ | (injection ea_ with ea_; subst ea_)); subst ec_; clear en_)); have GB39 := Aside0.mk gb39; have GG39 := Aside0.mk HG39; clear gb39 gl39 HG39; (first | simp only [add_plain] at hx559_0 | skip); obtain ⟨hx39_0, hf39_0⟩ := Kd.R_celln 0 HO558.out ((ji35) : Int) p39 q39; replace p39 := eq_true p39; replace q39 := eq_true q39; obtain ⟨hy50_, hz50_⟩ := Kd.R_celln 0 HO558.out ((ji35) : Int) (of_decide_eq_true (by first | (with_reducible assumption) | assumption)) (of_decide_eq_true (by first | (with_reducible assumption) | assumption)); have HP50 := Kd.R_putg HO558.out ((ji35) : Int) ji38) | ((with_reducible refine gate_store (t := 3) (p := 109) rfl ?_); refine store_event (t := 3) (p := 109) (v := ?vo_w51) (w1 := (w48.setCell ⟨go39, ((ji35) : Int).toNat, none⟩ (.int .i64 ji38))) ?hg ?ho ?hn ?hr ?_; (case ho => rfl); (case hg => rfl); (case hn => rfl); (case hr => first | (go_simp; done) | (go_simp; rfl)); intro w51 hw; have hg : w48.grownBy w51 (some go39) := (by rw [hw]; exact HP50.2); have hp_ : Kd.R (Kd.int .i64) 3 w51 w.heap.size (fun _ => True) (.slice (some ⟨go39, 0, none⟩) t556.length co49) y560 := (by rw [hw, Ny560.out]; exact HP50.1); clear HP50; have n0_ := Aside0.mk (hp_); have n1_ := Aside0.mk ((by rw [hw]; exact lqS (HB.out) GB39.out : Below w.heap.size w w51)); clear HO558; clear HB; have HO558 := n0_; have HB := n1_; clear n0_ n1_; clear hg hw hp_) | ((with_reducible refine gqC (f := 14) rfl ?_); refine goesL_ (some 112) rfl rfl Try.func14 (by kernel_rfl) rfl #[.slice (some ⟨go39, 0, none⟩) y560.length co49] rfl (by (try simp only [List.map_toArray, List.map_cons, List.map_nil]); first | done | (rw [show y560.length = t556.length from (Kd.R_reads' HO558.out).1.symm] <;> rfl) | rfl | (simp only [List.length_drop, List.length_take]; rfl)) ?_; (with_reducible refine (clone14.calls _ _ y560 t561 _ ?side1 ?side2 A40.out).mono ?_); (case side1 => repeat (first | exact (Kd.R_reads' HO558.out).2.2 | (with_reducible refine Kd.C_alloc ?_ _) | (with_reducible refine Kd.C_drewN ?_ _) | (with_reducible refine Kd.C_drew ?_))); (case side2 => rw [show y560.length = t556.length from (Kd.R_reads' HO558.out).1.symm]; exact (Kd.R_reads' HO558.out).2.1); rintro e w52 ⟨v562, rfl, ho0, hb⟩; refine ⟨_, rfl, ?_⟩; have n0_ := Aside0.mk (Kd.R_elder' (by (with_reducible repeat (first | apply Kd.R_alloc | apply Kd.R_drewN | apply Kd.R_drew)); exact HO558.out) (Kd.R_base ho0) hb); have n1_ := Aside0.mk (Kd.R_lower (Kd.R_new' ho0 (Kd.R_lt (by (with_reducible repeat (first | apply Kd.R_alloc | apply Kd.R_drewN | apply Kd.R_drew)); exact HO558.out))) (lqZ (by repeat (first | (with_reducible first | exact HB.out | apply lqA | apply lqN | apply lqD) | exact HB.out)))); have n2_ := Aside0.mk (lqT (by repeat (first | (with_reducible first | exact HB.out | apply lqA | apply lqN | apply lqD) | exact HB.out)) hb); clear HO558; clear HB; have HO558 := n0_; have HO563 := n1_; have HB := n2_; clear n0_ n1_ n2_; (try clear hb); (try clear hb2); (try clear hk); (try clear hi); (try clear ho0)) | ((with_reducible refine gqC (f := 14) rfl ?_); refine goesL_ (some 114) rfl rfl Try.func14 (by kernel_rfl) rfl #[.slice A1 l1.length c1] rfl (by (try simp only [List.map_toArray, List.map_cons, List.map_nil]); first | done | rfl | (simp only [List.length_drop, List.length_take]; rfl)) ?_; (with_reducible refine (clone14.calls _ _ l1 t564 _ ?side1 ?side2 A41.out).mono ?_); (case side1 => repeat (first | exact (Kd.C_below HR1.out HB.out) | (with_reducible refine Kd.C_alloc ?_ _) | (with_reducible refine Kd.C_drewN ?_ _) | (with_reducible refine Kd.C_drew ?_))); (case side2 => exact HC1.out); rintro e w53 ⟨v565, rfl, ho0, hb⟩; refine ⟨_, rfl, ?_⟩; have n0_ := Aside0.mk (Kd.R_elder' (by (with_reducible repeat (first | apply Kd.R_alloc | apply Kd.R_drewN | apply Kd.R_drew)); exact HO558.out) (Kd.R_base ho0) hb); have n1_ := Aside0.mk (Kd.R_elder' (by (with_reducible repeat (first | apply Kd.R_alloc | apply Kd.R_drewN | apply Kd.R_drew)); exact HO563.out) (Kd.R_base ho0) hb); have n2_ := Aside0.mk (Kd.R_lower (Kd.R_new' (Kd.R_new' ho0 (Kd.R_lt (by (with_reducible repeat (first | apply Kd.R_alloc | apply Kd.R_drewN | apply Kd.R_drew)); exact HO558.out))) (Kd.R_lt (by (with_reducible repeat (first | apply Kd.R_alloc | apply Kd.R_drewN | apply Kd.R_drew)); exact HO563.out))) (lqZ (by repeat (first | (with_reducible first | exact HB.out | apply lqA | apply lqN | apply lqD) | exact HB.out)))); have n3_ := Aside0.mk (lqT (by repeat (first | (with_reducible first | exact HB.out | apply lqA | apply lqN | apply lqD) | exact HB.out)) hb); clear HO558; clear HO563; clear HB; have HO558 := n0_; have HO563 := n1_; have HO566 := n2_; have HB := n3_; clear n0_ n1_ n2_ n3_; (try clear hb); (try clear hb2); (try clear hk); (try clear hi); (try clear ho0); obtain ⟨Ao54, co54, eo54⟩ := Kd.R_slice HO563.out; subst eo54; obtain ⟨Ao55, co55, eo55⟩ := Kd.R_slice HO566.out; subst eo55) | ((with_reducible refine gqC (f := 25) rfl ?_); refine goesL_ (some 115) rfl rfl Try.func25 (by kernel_rfl) rfl #[.slice Ao54 t561.length co54, .slice Ao55 t564.length co55] rfl (by (try simp only [List.map_toArray, List.map_cons, List.map_nil]); first | done | rfl | (simp only [List.length_drop, List.length_take]; rfl)) ?_; (with_reducible refine (rank_AtLeast.calls _ _ t561 _ _ t564 t567 t568 t569 _ ?side1 ?side2 ?side3 ?side4 A42.out).mono ?_); (case side1 => repeat (first | exact (Kd.R_reads' HO563.out).2.2 | (with_reducible refine Kd.C_alloc ?_ _) | (with_reducible refine Kd.C_drewN ?_ _) | (with_reducible refine Kd.C_drew ?_))); (case side2 => exact (Kd.R_reads' HO563.out).2.1); (case side3 => repeat (first | exact (Kd.R_reads' HO566.out).2.2 | (with_reducible refine Kd.C_alloc ?_ _) | (with_reducible refine Kd.C_drewN ?_ _) | (with_reducible refine Kd.C_drew ?_))); (case side4 => exact (Kd.R_reads' HO566.out).2.1); rintro e w56 ⟨rfl, hb⟩; refine ⟨_, rfl, ?_⟩; have n0_ := Aside0.mk (Kd.R_below (by (with_reducible repeat (first | apply Kd.R_alloc | apply Kd.R_drewN | apply Kd.R_drew)); exact HO558.out) hb); have n1_ := Aside0.mk (Kd.R_below (by (with_reducible repeat (first | apply Kd.R_alloc | apply Kd.R_drewN | apply Kd.R_drew)); exact HO563.out) hb); have n2_ := Aside0.mk (Kd.R_below (by (with_reducible repeat (first | apply Kd.R_alloc | apply Kd.R_drewN | apply Kd.R_drew)); exact HO566.out) hb); have n3_ := Aside0.mk (lqT (by repeat (first | (with_reducible first | exact HB.out | apply lqA | apply lqN | apply lqD) | exact HB.out)) hb); clear HO558; clear HO563; clear HO566; clear HB; have HO558 := n0_; have HO563 := n1_; have HO566 := n2_; have HB := n3_; clear n0_ n1_ n2_ n3_; (try clear hb); (try clear hb2); (try clear hk); (try clear hi)) | (go_at_call 36; (with_reducible refine (equal36.calls _ _ l0 _ _ l1 true _ ?side1 ?side2 ?side3 ?side4 A44.out).mono ?_); (case side1 => repeat (first | exact (Kd.C_below HR0.out HB.out) | (with_reducible refine Kd.C_alloc ?_ _) | (with_reducible refine Kd.C_drewN ?_ _) | (with_reducible refine Kd.C_drew ?_))); (case side2 => exact HC0.out); (case side3 => repeat (first | exact (Kd.C_below HR1.out HB.out) | (with_reducible refine Kd.C_alloc ?_ _) | (with_reducible refine Kd.C_drewN ?_ _) | (with_reducible refine Kd.C_drew ?_))); (case side4 => exact HC1.out); rintro e w57 ⟨rfl, hb⟩; have n0_ := Aside0.mk (Kd.R_below (by (with_reducible repeat (first | apply Kd.R_alloc | apply Kd.R_drewN | apply Kd.R_drew)); exact HO558.out) hb); have n1_ := Aside0.mk (Kd.R_below (by (with_reducible repeat (first | apply Kd.R_alloc | apply Kd.R_drewN | apply Kd.R_drew)); exact HO563.out) hb); have n2_ := Aside0.mk (Kd.R_below (by (with_reducible repeat (first | apply Kd.R_alloc | apply Kd.R_drewN | apply Kd.R_drew)); exact HO566.out) hb); have n3_ := Aside0.mk (lqT (by repeat (first | (with_reducible first | exact HB.out | apply lqA | apply lqN | apply lqD) | exact HB.out)) hb); clear HO558; clear HO563; clear HO566; clear HB; have HO558 := n0_; have HO563 := n1_; have HO566 := n2_; have HB := n3_; clear n0_ n1_ n2_ n3_; (try clear hb); (try clear hb2); (try clear hk); (try clear hi)))
                  go_ret
                  exact ⟨by first | rfl | (simp [errW_none, errW_some] <;> rfl) | (simp only [← hji35, ← hji38]; first | rfl | (simp [errW_none, errW_some] <;> rfl)) | (simp [*, errW_none, errW_some] <;> rfl), by repeat (first | (with_reducible first | exact HB.out | apply lqA | apply lqN | apply lqD) | exact HB.out)⟩
                 ·replace c45 := Bool.eq_false_iff.mpr c45
                  subst c45
                  have H1 : ((equal36.f y560 l1).bind fun t571 => (if t571 = true then (some true) else (some (decide (t567 ≤ t549))))) = some r := by rw [if_neg (show ¬ (false = true) by decide)] at H; exact H
                  clear H
                  have H := H1
                  clear H1
                  replace H := Option.bind_eq_some_iff.mp H
                  obtain ⟨t571, A580, H⟩ := H
                  replace H : (if t571 = true then (some true) else (some (decide (t567 ≤ t549)))) = some r := H
                  have A58 := Aside0.mk A580
                  clear A580
                  by_cases c59 : t571 = true
                  ·subst c59
                   have H1 : (some true) = some r := by rw [if_pos rfl] at H; exact H
                   clear H
                   have H := H1
                   clear H1
                   obtain rfl := Option.some.inj H
                   go_wp2_with (first | ((with_reducible refine gqC (f := 34) rfl ?_); refine goesL_ (some 83) rfl rfl Try.func34 (by kernel_rfl) rfl #[.slice A0 l0.length c0] rfl (by (try simp only [List.map_toArray, List.map_cons, List.map_nil]); first | done | rfl | (simp only [List.length_drop, List.length_take]; rfl)) ?_; (with_reducible refine (max34.calls _ _ l0 t554 _ ?side1 ?side2 A30.out).mono ?_); (case side1 => repeat (first | exact (Kd.C_below HR0.out HB.out) | (with_reducible refine Kd.C_alloc ?_ _) | (with_reducible refine Kd.C_drewN ?_ _) | (with_reducible refine Kd.C_drew ?_))); (case side2 => exact HC0.out); rintro e w60 ⟨rfl, hb⟩; refine ⟨_, rfl, ?_⟩; have n0_ := Aside0.mk (lqT (by repeat (first | (with_reducible first | exact HB.out | apply lqA | apply lqN | apply lqD) | exact HB.out)) hb); clear HB; have HB := n0_; clear n0_; (try clear hb); (try clear hb2); (try clear hk); (try clear hi)) | ((with_reducible refine gqC (f := 35) rfl ?_); refine goesL_ (some 85) rfl rfl Try.func35 (by kernel_rfl) rfl #[.slice A1 l1.length c1] rfl (by (try simp only [List.map_toArray, List.map_cons, List.map_nil]); first | done | rfl | (simp only [List.length_drop, List.length_take]; rfl)) ?_; (with_reducible refine (min35.calls _ _ l1 t555 _ ?side1 ?side2 A31.out).mono ?_); (case side1 => repeat (first | exact (Kd.C_below HR1.out HB.out) | (with_reducible refine Kd.C_alloc ?_ _) | (with_reducible refine Kd.C_drewN ?_ _) | (with_reducible refine Kd.C_drew ?_))); (case side2 => exact HC1.out); rintro e w61 ⟨rfl, hb⟩; refine ⟨_, rfl, ?_⟩; have n0_ := Aside0.mk (lqT (by repeat (first | (with_reducible first | exact HB.out | apply lqA | apply lqN | apply lqD) | exact HB.out)) hb); clear HB; have HB := n0_; clear n0_; (try clear hb); (try clear hb2); (try clear hk); (try clear hi)) | ((with_reducible refine gqC (f := 14) rfl ?_); refine goesL_ (some 93) rfl rfl Try.func14 (by kernel_rfl) rfl #[.slice A0 l0.length c0] rfl (by (try simp only [List.map_toArray, List.map_cons, List.map_nil]); first | done | rfl | (simp only [List.length_drop, List.length_take]; rfl)) ?_; (with_reducible refine (clone14.calls _ _ l0 t556 _ ?side1 ?side2 A33.out).mono ?_); (case side1 => repeat (first | exact (Kd.C_below HR0.out HB.out) | (with_reducible refine Kd.C_alloc ?_ _) | (with_reducible refine Kd.C_drewN ?_ _) | (with_reducible refine Kd.C_drew ?_))); (case side2 => exact HC0.out); rintro e w62 ⟨v557, rfl, ho0, hb⟩; refine ⟨_, rfl, ?_⟩; have n0_ := Aside0.mk (Kd.R_lower ho0 (lqZ (by repeat (first | (with_reducible first | exact HB.out | apply lqA | apply lqN | apply lqD) | exact HB.out)))); have n1_ := Aside0.mk (lqT (by repeat (first | (with_reducible first | exact HB.out | apply lqA | apply lqN | apply lqD) | exact HB.out)) hb); clear HB; have HO558 := n0_; have HB := n1_; clear n0_ n1_; (try clear hb); (try clear hb2); (try clear hk); (try clear hi); (try clear ho0); obtain ⟨Ao63, co63, eo63⟩ := Kd.R_slice HO558.out; subst eo63; have p559 : 0 ≤ ((ji35) : Int) := of_decide_eq_true (by first | (with_reducible assumption) | assumption); have q559 : (ji35) < (t556.length : Int) := of_decide_eq_true (by first | (with_reducible assumption) | assumption); obtain ⟨ad559, e559, hx559_0⟩ := Kd.at_int (Kd.R_reads' HO558.out).2.2 (ji35) p559 q559; cases e559; replace p559 := eq_true p559; replace q559 := eq_true q559; have p39 : 0 ≤ ((ji35) : Int) := of_decide_eq_true (by first | (with_reducible assumption) | assumption); have q39 : ((ji35) : Int) < ((t556.length : Int) : Int) := of_decide_eq_true (by first | (with_reducible assumption) | assumption); obtain ⟨go39, co39, eo39, gb39, gl39, cl39, HG39⟩ := Kd.R_form HO558.out (by omega); (first | cases eo39 | (injection eo39 with ea_ en_ ec_; (first | subst ea_ | (injection ea_ with ea_; subst ea_)); subst ec_; clear en_)); have GB39 := Aside0.mk gb39; have GG39 := Aside0.mk HG39; clear gb39 gl39 HG39; (first | simp only [add_plain] at hx559_0 | skip); obtain ⟨hx39_0, hf39_0⟩ := Kd.R_celln 0 HO558.out ((ji35) : Int) p39 q39; replace p39 := eq_true p39; replace q39 := eq_true q39; obtain ⟨hy64_, hz64_⟩ := Kd.R_celln 0 HO558.out ((ji35) : Int) (of_decide_eq_true (by first | (with_reducible assumption) | assumption)) (of_decide_eq_true (by first | (with_reducible assumption) | assumption)); have HP64 := Kd.R_putg HO558.out ((ji35) : Int) ji38) | ((with_reducible refine gate_store (t := 3) (p := 109) rfl ?_); refine store_event (t := 3) (p := 109) (v := ?vo_w65) (w1 := (w62.setCell ⟨go39, ((ji35) : Int).toNat, none⟩ (.int .i64 ji38))) ?hg ?ho ?hn ?hr ?_; (case ho => rfl); (case hg => rfl); (case hn => rfl); (case hr => first | (go_simp; done) | (go_simp; rfl)); intro w65 hw; have hg : w62.grownBy w65 (some go39) := (by rw [hw]; exact HP64.2); have hp_ : Kd.R (Kd.int .i64) 3 w65 w.heap.size (fun _ => True) (.slice (some ⟨go39, 0, none⟩) t556.length co63) y560 := (by rw [hw, Ny560.out]; exact HP64.1); clear HP64; have n0_ := Aside0.mk (hp_); have n1_ := Aside0.mk ((by rw [hw]; exact lqS (HB.out) GB39.out : Below w.heap.size w w65)); clear HO558; clear HB; have HO558 := n0_; have HB := n1_; clear n0_ n1_; clear hg hw hp_) | ((with_reducible refine gqC (f := 14) rfl ?_); refine goesL_ (some 112) rfl rfl Try.func14 (by kernel_rfl) rfl #[.slice (some ⟨go39, 0, none⟩) y560.length co63] rfl (by (try simp only [List.map_toArray, List.map_cons, List.map_nil]); first | done | (rw [show y560.length = t556.length from (Kd.R_reads' HO558.out).1.symm] <;> rfl) | rfl | (simp only [List.length_drop, List.length_take]; rfl)) ?_; (with_reducible refine (clone14.calls _ _ y560 t561 _ ?side1 ?side2 A40.out).mono ?_); (case side1 => repeat (first | exact (Kd.R_reads' HO558.out).2.2 | (with_reducible refine Kd.C_alloc ?_ _) | (with_reducible refine Kd.C_drewN ?_ _) | (with_reducible refine Kd.C_drew ?_))); (case side2 => rw [show y560.length = t556.length from (Kd.R_reads' HO558.out).1.symm]; exact (Kd.R_reads' HO558.out).2.1); rintro e w66 ⟨v562, rfl, ho0, hb⟩; refine ⟨_, rfl, ?_⟩; have n0_ := Aside0.mk (Kd.R_elder' (by (with_reducible repeat (first | apply Kd.R_alloc | apply Kd.R_drewN | apply Kd.R_drew)); exact HO558.out) (Kd.R_base ho0) hb); have n1_ := Aside0.mk (Kd.R_lower (Kd.R_new' ho0 (Kd.R_lt (by (with_reducible repeat (first | apply Kd.R_alloc | apply Kd.R_drewN | apply Kd.R_drew)); exact HO558.out))) (lqZ (by repeat (first | (with_reducible first | exact HB.out | apply lqA | apply lqN | apply lqD) | exact HB.out)))); have n2_ := Aside0.mk (lqT (by repeat (first | (with_reducible first | exact HB.out | apply lqA | apply lqN | apply lqD) | exact HB.out)) hb); clear HO558; clear HB; have HO558 := n0_; have HO563 := n1_; have HB := n2_; clear n0_ n1_ n2_; (try clear hb); (try clear hb2); (try clear hk); (try clear hi); (try clear ho0)) | ((with_reducible refine gqC (f := 14) rfl ?_); refine goesL_ (some 114) rfl rfl Try.func14 (by kernel_rfl) rfl #[.slice A1 l1.length c1] rfl (by (try simp only [List.map_toArray, List.map_cons, List.map_nil]); first | done | rfl | (simp only [List.length_drop, List.length_take]; rfl)) ?_; (with_reducible refine (clone14.calls _ _ l1 t564 _ ?side1 ?side2 A41.out).mono ?_); (case side1 => repeat (first | exact (Kd.C_below HR1.out HB.out) | (with_reducible refine Kd.C_alloc ?_ _) | (with_reducible refine Kd.C_drewN ?_ _) | (with_reducible refine Kd.C_drew ?_))); (case side2 => exact HC1.out); rintro e w67 ⟨v565, rfl, ho0, hb⟩; refine ⟨_, rfl, ?_⟩; have n0_ := Aside0.mk (Kd.R_elder' (by (with_reducible repeat (first | apply Kd.R_alloc | apply Kd.R_drewN | apply Kd.R_drew)); exact HO558.out) (Kd.R_base ho0) hb); have n1_ := Aside0.mk (Kd.R_elder' (by (with_reducible repeat (first | apply Kd.R_alloc | apply Kd.R_drewN | apply Kd.R_drew)); exact HO563.out) (Kd.R_base ho0) hb); have n2_ := Aside0.mk (Kd.R_lower (Kd.R_new' (Kd.R_new' ho0 (Kd.R_lt (by (with_reducible repeat (first | apply Kd.R_alloc | apply Kd.R_drewN | apply Kd.R_drew)); exact HO558.out))) (Kd.R_lt (by (with_reducible repeat (first | apply Kd.R_alloc | apply Kd.R_drewN | apply Kd.R_drew)); exact HO563.out))) (lqZ (by repeat (first | (with_reducible first | exact HB.out | apply lqA | apply lqN | apply lqD) | exact HB.out)))); have n3_ := Aside0.mk (lqT (by repeat (first | (with_reducible first | exact HB.out | apply lqA | apply lqN | apply lqD) | exact HB.out)) hb); clear HO558; clear HO563; clear HB; have HO558 := n0_; have HO563 := n1_; have HO566 := n2_; have HB := n3_; clear n0_ n1_ n2_ n3_; (try clear hb); (try clear hb2); (try clear hk); (try clear hi); (try clear ho0); obtain ⟨Ao68, co68, eo68⟩ := Kd.R_slice HO563.out; subst eo68; obtain ⟨Ao69, co69, eo69⟩ := Kd.R_slice HO566.out; subst eo69) | ((with_reducible refine gqC (f := 25) rfl ?_); refine goesL_ (some 115) rfl rfl Try.func25 (by kernel_rfl) rfl #[.slice Ao68 t561.length co68, .slice Ao69 t564.length co69] rfl (by (try simp only [List.map_toArray, List.map_cons, List.map_nil]); first | done | rfl | (simp only [List.length_drop, List.length_take]; rfl)) ?_; (with_reducible refine (rank_AtLeast.calls _ _ t561 _ _ t564 t567 t568 t569 _ ?side1 ?side2 ?side3 ?side4 A42.out).mono ?_); (case side1 => repeat (first | exact (Kd.R_reads' HO563.out).2.2 | (with_reducible refine Kd.C_alloc ?_ _) | (with_reducible refine Kd.C_drewN ?_ _) | (with_reducible refine Kd.C_drew ?_))); (case side2 => exact (Kd.R_reads' HO563.out).2.1); (case side3 => repeat (first | exact (Kd.R_reads' HO566.out).2.2 | (with_reducible refine Kd.C_alloc ?_ _) | (with_reducible refine Kd.C_drewN ?_ _) | (with_reducible refine Kd.C_drew ?_))); (case side4 => exact (Kd.R_reads' HO566.out).2.1); rintro e w70 ⟨rfl, hb⟩; refine ⟨_, rfl, ?_⟩; have n0_ := Aside0.mk (Kd.R_below (by (with_reducible repeat (first | apply Kd.R_alloc | apply Kd.R_drewN | apply Kd.R_drew)); exact HO558.out) hb); have n1_ := Aside0.mk (Kd.R_below (by (with_reducible repeat (first | apply Kd.R_alloc | apply Kd.R_drewN | apply Kd.R_drew)); exact HO563.out) hb); have n2_ := Aside0.mk (Kd.R_below (by (with_reducible repeat (first | apply Kd.R_alloc | apply Kd.R_drewN | apply Kd.R_drew)); exact HO566.out) hb); have n3_ := Aside0.mk (lqT (by repeat (first | (with_reducible first | exact HB.out | apply lqA | apply lqN | apply lqD) | exact HB.out)) hb); clear HO558; clear HO563; clear HO566; clear HB; have HO558 := n0_; have HO563 := n1_; have HO566 := n2_; have HB := n3_; clear n0_ n1_ n2_ n3_; (try clear hb); (try clear hb2); (try clear hk); (try clear hi)) | (go_at_call 36; (with_reducible refine (equal36.calls _ _ l0 _ _ l1 false _ ?side1 ?side2 ?side3 ?side4 A44.out).mono ?_); (case side1 => repeat (first | exact (Kd.C_below HR0.out HB.out) | (with_reducible refine Kd.C_alloc ?_ _) | (with_reducible refine Kd.C_drewN ?_ _) | (with_reducible refine Kd.C_drew ?_))); (case side2 => exact HC0.out); (case side3 => repeat (first | exact (Kd.C_below HR1.out HB.out) | (with_reducible refine Kd.C_alloc ?_ _) | (with_reducible refine Kd.C_drewN ?_ _) | (with_reducible refine Kd.C_drew ?_))); (case side4 => exact HC1.out); rintro e w71 ⟨rfl, hb⟩; have n0_ := Aside0.mk (Kd.R_below (by (with_reducible repeat (first | apply Kd.R_alloc | apply Kd.R_drewN | apply Kd.R_drew)); exact HO558.out) hb); have n1_ := Aside0.mk (Kd.R_below (by (with_reducible repeat (first | apply Kd.R_alloc | apply Kd.R_drewN | apply Kd.R_drew)); exact HO563.out) hb); have n2_ := Aside0.mk (Kd.R_below (by (with_reducible repeat (first | apply Kd.R_alloc | apply Kd.R_drewN | apply Kd.R_drew)); exact HO566.out) hb); have n3_ := Aside0.mk (lqT (by repeat (first | (with_reducible first | exact HB.out | apply lqA | apply lqN | apply lqD) | exact HB.out)) hb); clear HO558; clear HO563; clear HO566; clear HB; have HO558 := n0_; have HO563 := n1_; have HO566 := n2_; have HB := n3_; clear n0_ n1_ n2_ n3_; (try clear hb); (try clear hb2); (try clear hk); (try clear hi)) | (go_at_call 36; refine calls_of_args (args' := #[.slice (some ⟨go39, 0, none⟩) y560.length co63, .slice A1 l1.length c1]) (by first | (rw [show y560.length = t556.length from (Kd.R_reads' HO558.out).1.symm] <;> rfl) | rfl) ?_; (with_reducible refine (equal36.calls _ _ y560 _ _ l1 true _ ?side1 ?side2 ?side3 ?side4 A58.out).mono ?_); (case side1 => repeat (first | exact (Kd.R_reads' HO558.out).2.2 | (with_reducible refine Kd.C_alloc ?_ _) | (with_reducible refine Kd.C_drewN ?_ _) | (with_reducible refine Kd.C_drew ?_))); (case side2 => rw [show y560.length = t556.length from (Kd.R_reads' HO558.out).1.symm]; exact (Kd.R_reads' HO558.out).2.1); (case side3 => repeat (first | exact (Kd.C_below HR1.out HB.out) | (with_reducible refine Kd.C_alloc ?_ _) | (with_reducible refine Kd.C_drewN ?_ _) | (with_reducible refine Kd.C_drew ?_))); (case side4 => exact HC1.out); rintro e w72 ⟨rfl, hb⟩; have n0_ := Aside0.mk (Kd.R_below (by (with_reducible repeat (first | apply Kd.R_alloc | apply Kd.R_drewN | apply Kd.R_drew)); exact HO558.out) hb); have n1_ := Aside0.mk (Kd.R_below (by (with_reducible repeat (first | apply Kd.R_alloc | apply Kd.R_drewN | apply Kd.R_drew)); exact HO563.out) hb); have n2_ := Aside0.mk (Kd.R_below (by (with_reducible repeat (first | apply Kd.R_alloc | apply Kd.R_drewN | apply Kd.R_drew)); exact HO566.out) hb); have n3_ := Aside0.mk (lqT (by repeat (first | (with_reducible first | exact HB.out | apply lqA | apply lqN | apply lqD) | exact HB.out)) hb); clear HO558; clear HO563; clear HO566; clear HB; have HO558 := n0_; have HO563 := n1_; have HO566 := n2_; have HB := n3_; clear n0_ n1_ n2_ n3_; (try clear hb); (try clear hb2); (try clear hk); (try clear hi)))
                   go_ret
                   exact ⟨by first | rfl | (simp [errW_none, errW_some] <;> rfl) | (simp only [← hji35, ← hji38]; first | rfl | (simp [errW_none, errW_some] <;> rfl)) | (simp [*, errW_none, errW_some] <;> rfl), by repeat (first | (with_reducible first | exact HB.out | apply lqA | apply lqN | apply lqD) | exact HB.out)⟩
                  ·replace c59 := Bool.eq_false_iff.mpr c59
                   subst c59
                   have H1 : (some (decide (t567 ≤ t549))) = some r := by rw [if_neg (show ¬ (false = true) by decide)] at H; exact H
                   clear H
                   have H := H1
                   clear H1
                   obtain rfl := Option.some.inj H
                   go_wp2_with (first | ((with_reducible refine gqC (f := 34) rfl ?_); refine goesL_ (some 83) rfl rfl Try.func34 (by kernel_rfl) rfl #[.slice A0 l0.length c0] rfl (by (try simp only [List.map_toArray, List.map_cons, List.map_nil]); first | done | rfl | (simp only [List.length_drop, List.length_take]; rfl)) ?_; (with_reducible refine (max34.calls _ _ l0 t554 _ ?side1 ?side2 A30.out).mono ?_); (case side1 => repeat (first | exact (Kd.C_below HR0.out HB.out) | (with_reducible refine Kd.C_alloc ?_ _) | (with_reducible refine Kd.C_drewN ?_ _) | (with_reducible refine Kd.C_drew ?_))); (case side2 => exact HC0.out); rintro e w73 ⟨rfl, hb⟩; refine ⟨_, rfl, ?_⟩; have n0_ := Aside0.mk (lqT (by repeat (first | (with_reducible first | exact HB.out | apply lqA | apply lqN | apply lqD) | exact HB.out)) hb); clear HB; have HB := n0_; clear n0_; (try clear hb); (try clear hb2); (try clear hk); (try clear hi)) | ((with_reducible refine gqC (f := 35) rfl ?_); refine goesL_ (some 85) rfl rfl Try.func35 (by kernel_rfl) rfl #[.slice A1 l1.length c1] rfl (by (try simp only [List.map_toArray, List.map_cons, List.map_nil]); first | done | rfl | (simp only [List.length_drop, List.length_take]; rfl)) ?_; (with_reducible refine (min35.calls _ _ l1 t555 _ ?side1 ?side2 A31.out).mono ?_); (case side1 => repeat (first | exact (Kd.C_below HR1.out HB.out) | (with_reducible refine Kd.C_alloc ?_ _) | (with_reducible refine Kd.C_drewN ?_ _) | (with_reducible refine Kd.C_drew ?_))); (case side2 => exact HC1.out); rintro e w74 ⟨rfl, hb⟩; refine ⟨_, rfl, ?_⟩; have n0_ := Aside0.mk (lqT (by repeat (first | (with_reducible first | exact HB.out | apply lqA | apply lqN | apply lqD) | exact HB.out)) hb); clear HB; have HB := n0_; clear n0_; (try clear hb); (try clear hb2); (try clear hk); (try clear hi)) | ((with_reducible refine gqC (f := 14) rfl ?_); refine goesL_ (some 93) rfl rfl Try.func14 (by kernel_rfl) rfl #[.slice A0 l0.length c0] rfl (by (try simp only [List.map_toArray, List.map_cons, List.map_nil]); first | done | rfl | (simp only [List.length_drop, List.length_take]; rfl)) ?_; (with_reducible refine (clone14.calls _ _ l0 t556 _ ?side1 ?side2 A33.out).mono ?_); (case side1 => repeat (first | exact (Kd.C_below HR0.out HB.out) | (with_reducible refine Kd.C_alloc ?_ _) | (with_reducible refine Kd.C_drewN ?_ _) | (with_reducible refine Kd.C_drew ?_))); (case side2 => exact HC0.out); rintro e w75 ⟨v557, rfl, ho0, hb⟩; refine ⟨_, rfl, ?_⟩; have n0_ := Aside0.mk (Kd.R_lower ho0 (lqZ (by repeat (first | (with_reducible first | exact HB.out | apply lqA | apply lqN | apply lqD) | exact HB.out)))); have n1_ := Aside0.mk (lqT (by repeat (first | (with_reducible first | exact HB.out | apply lqA | apply lqN | apply lqD) | exact HB.out)) hb); clear HB; have HO558 := n0_; have HB := n1_; clear n0_ n1_; (try clear hb); (try clear hb2); (try clear hk); (try clear hi); (try clear ho0); obtain ⟨Ao76, co76, eo76⟩ := Kd.R_slice HO558.out; subst eo76; have p559 : 0 ≤ ((ji35) : Int) := of_decide_eq_true (by first | (with_reducible assumption) | assumption); have q559 : (ji35) < (t556.length : Int) := of_decide_eq_true (by first | (with_reducible assumption) | assumption); obtain ⟨ad559, e559, hx559_0⟩ := Kd.at_int (Kd.R_reads' HO558.out).2.2 (ji35) p559 q559; cases e559; replace p559 := eq_true p559; replace q559 := eq_true q559; have p39 : 0 ≤ ((ji35) : Int) := of_decide_eq_true (by first | (with_reducible assumption) | assumption); have q39 : ((ji35) : Int) < ((t556.length : Int) : Int) := of_decide_eq_true (by first | (with_reducible assumption) | assumption); obtain ⟨go39, co39, eo39, gb39, gl39, cl39, HG39⟩ := Kd.R_form HO558.out (by omega); (first | cases eo39 | (injection eo39 with ea_ en_ ec_; (first | subst ea_ | (injection ea_ with ea_; subst ea_)); subst ec_; clear en_)); have GB39 := Aside0.mk gb39; have GG39 := Aside0.mk HG39; clear gb39 gl39 HG39; (first | simp only [add_plain] at hx559_0 | skip); obtain ⟨hx39_0, hf39_0⟩ := Kd.R_celln 0 HO558.out ((ji35) : Int) p39 q39; replace p39 := eq_true p39; replace q39 := eq_true q39; obtain ⟨hy77_, hz77_⟩ := Kd.R_celln 0 HO558.out ((ji35) : Int) (of_decide_eq_true (by first | (with_reducible assumption) | assumption)) (of_decide_eq_true (by first | (with_reducible assumption) | assumption)); have HP77 := Kd.R_putg HO558.out ((ji35) : Int) ji38) | ((with_reducible refine gate_store (t := 3) (p := 109) rfl ?_); refine store_event (t := 3) (p := 109) (v := ?vo_w78) (w1 := (w75.setCell ⟨go39, ((ji35) : Int).toNat, none⟩ (.int .i64 ji38))) ?hg ?ho ?hn ?hr ?_; (case ho => rfl); (case hg => rfl); (case hn => rfl); (case hr => first | (go_simp; done) | (go_simp; rfl)); intro w78 hw; have hg : w75.grownBy w78 (some go39) := (by rw [hw]; exact HP77.2); have hp_ : Kd.R (Kd.int .i64) 3 w78 w.heap.size (fun _ => True) (.slice (some ⟨go39, 0, none⟩) t556.length co76) y560 := (by rw [hw, Ny560.out]; exact HP77.1); clear HP77; have n0_ := Aside0.mk (hp_); have n1_ := Aside0.mk ((by rw [hw]; exact lqS (HB.out) GB39.out : Below w.heap.size w w78)); clear HO558; clear HB; have HO558 := n0_; have HB := n1_; clear n0_ n1_; clear hg hw hp_) | ((with_reducible refine gqC (f := 14) rfl ?_); refine goesL_ (some 112) rfl rfl Try.func14 (by kernel_rfl) rfl #[.slice (some ⟨go39, 0, none⟩) y560.length co76] rfl (by (try simp only [List.map_toArray, List.map_cons, List.map_nil]); first | done | (rw [show y560.length = t556.length from (Kd.R_reads' HO558.out).1.symm] <;> rfl) | rfl | (simp only [List.length_drop, List.length_take]; rfl)) ?_; (with_reducible refine (clone14.calls _ _ y560 t561 _ ?side1 ?side2 A40.out).mono ?_); (case side1 => repeat (first | exact (Kd.R_reads' HO558.out).2.2 | (with_reducible refine Kd.C_alloc ?_ _) | (with_reducible refine Kd.C_drewN ?_ _) | (with_reducible refine Kd.C_drew ?_))); (case side2 => rw [show y560.length = t556.length from (Kd.R_reads' HO558.out).1.symm]; exact (Kd.R_reads' HO558.out).2.1); rintro e w79 ⟨v562, rfl, ho0, hb⟩; refine ⟨_, rfl, ?_⟩; have n0_ := Aside0.mk (Kd.R_elder' (by (with_reducible repeat (first | apply Kd.R_alloc | apply Kd.R_drewN | apply Kd.R_drew)); exact HO558.out) (Kd.R_base ho0) hb); have n1_ := Aside0.mk (Kd.R_lower (Kd.R_new' ho0 (Kd.R_lt (by (with_reducible repeat (first | apply Kd.R_alloc | apply Kd.R_drewN | apply Kd.R_drew)); exact HO558.out))) (lqZ (by repeat (first | (with_reducible first | exact HB.out | apply lqA | apply lqN | apply lqD) | exact HB.out)))); have n2_ := Aside0.mk (lqT (by repeat (first | (with_reducible first | exact HB.out | apply lqA | apply lqN | apply lqD) | exact HB.out)) hb); clear HO558; clear HB; have HO558 := n0_; have HO563 := n1_; have HB := n2_; clear n0_ n1_ n2_; (try clear hb); (try clear hb2); (try clear hk); (try clear hi); (try clear ho0)) | ((with_reducible refine gqC (f := 14) rfl ?_); refine goesL_ (some 114) rfl rfl Try.func14 (by kernel_rfl) rfl #[.slice A1 l1.length c1] rfl (by (try simp only [List.map_toArray, List.map_cons, List.map_nil]); first | done | rfl | (simp only [List.length_drop, List.length_take]; rfl)) ?_; (with_reducible refine (clone14.calls _ _ l1 t564 _ ?side1 ?side2 A41.out).mono ?_); (case side1 => repeat (first | exact (Kd.C_below HR1.out HB.out) | (with_reducible refine Kd.C_alloc ?_ _) | (with_reducible refine Kd.C_drewN ?_ _) | (with_reducible refine Kd.C_drew ?_))); (case side2 => exact HC1.out); rintro e w80 ⟨v565, rfl, ho0, hb⟩; refine ⟨_, rfl, ?_⟩; have n0_ := Aside0.mk (Kd.R_elder' (by (with_reducible repeat (first | apply Kd.R_alloc | apply Kd.R_drewN | apply Kd.R_drew)); exact HO558.out) (Kd.R_base ho0) hb); have n1_ := Aside0.mk (Kd.R_elder' (by (with_reducible repeat (first | apply Kd.R_alloc | apply Kd.R_drewN | apply Kd.R_drew)); exact HO563.out) (Kd.R_base ho0) hb); have n2_ := Aside0.mk (Kd.R_lower (Kd.R_new' (Kd.R_new' ho0 (Kd.R_lt (by (with_reducible repeat (first | apply Kd.R_alloc | apply Kd.R_drewN | apply Kd.R_drew)); exact HO558.out))) (Kd.R_lt (by (with_reducible repeat (first | apply Kd.R_alloc | apply Kd.R_drewN | apply Kd.R_drew)); exact HO563.out))) (lqZ (by repeat (first | (with_reducible first | exact HB.out | apply lqA | apply lqN | apply lqD) | exact HB.out)))); have n3_ := Aside0.mk (lqT (by repeat (first | (with_reducible first | exact HB.out | apply lqA | apply lqN | apply lqD) | exact HB.out)) hb); clear HO558; clear HO563; clear HB; have HO558 := n0_; have HO563 := n1_; have HO566 := n2_; have HB := n3_; clear n0_ n1_ n2_ n3_; (try clear hb); (try clear hb2); (try clear hk); (try clear hi); (try clear ho0); obtain ⟨Ao81, co81, eo81⟩ := Kd.R_slice HO563.out; subst eo81; obtain ⟨Ao82, co82, eo82⟩ := Kd.R_slice HO566.out; subst eo82) | ((with_reducible refine gqC (f := 25) rfl ?_); refine goesL_ (some 115) rfl rfl Try.func25 (by kernel_rfl) rfl #[.slice Ao81 t561.length co81, .slice Ao82 t564.length co82] rfl (by (try simp only [List.map_toArray, List.map_cons, List.map_nil]); first | done | rfl | (simp only [List.length_drop, List.length_take]; rfl)) ?_; (with_reducible refine (rank_AtLeast.calls _ _ t561 _ _ t564 t567 t568 t569 _ ?side1 ?side2 ?side3 ?side4 A42.out).mono ?_); (case side1 => repeat (first | exact (Kd.R_reads' HO563.out).2.2 | (with_reducible refine Kd.C_alloc ?_ _) | (with_reducible refine Kd.C_drewN ?_ _) | (with_reducible refine Kd.C_drew ?_))); (case side2 => exact (Kd.R_reads' HO563.out).2.1); (case side3 => repeat (first | exact (Kd.R_reads' HO566.out).2.2 | (with_reducible refine Kd.C_alloc ?_ _) | (with_reducible refine Kd.C_drewN ?_ _) | (with_reducible refine Kd.C_drew ?_))); (case side4 => exact (Kd.R_reads' HO566.out).2.1); rintro e w83 ⟨rfl, hb⟩; refine ⟨_, rfl, ?_⟩; have n0_ := Aside0.mk (Kd.R_below (by (with_reducible repeat (first | apply Kd.R_alloc | apply Kd.R_drewN | apply Kd.R_drew)); exact HO558.out) hb); have n1_ := Aside0.mk (Kd.R_below (by (with_reducible repeat (first | apply Kd.R_alloc | apply Kd.R_drewN | apply Kd.R_drew)); exact HO563.out) hb); have n2_ := Aside0.mk (Kd.R_below (by (with_reducible repeat (first | apply Kd.R_alloc | apply Kd.R_drewN | apply Kd.R_drew)); exact HO566.out) hb); have n3_ := Aside0.mk (lqT (by repeat (first | (with_reducible first | exact HB.out | apply lqA | apply lqN | apply lqD) | exact HB.out)) hb); clear HO558; clear HO563; clear HO566; clear HB; have HO558 := n0_; have HO563 := n1_; have HO566 := n2_; have HB := n3_; clear n0_ n1_ n2_ n3_; (try clear hb); (try clear hb2); (try clear hk); (try clear hi)) | (go_at_call 36; (with_reducible refine (equal36.calls _ _ l0 _ _ l1 false _ ?side1 ?side2 ?side3 ?side4 A44.out).mono ?_); (case side1 => repeat (first | exact (Kd.C_below HR0.out HB.out) | (with_reducible refine Kd.C_alloc ?_ _) | (with_reducible refine Kd.C_drewN ?_ _) | (with_reducible refine Kd.C_drew ?_))); (case side2 => exact HC0.out); (case side3 => repeat (first | exact (Kd.C_below HR1.out HB.out) | (with_reducible refine Kd.C_alloc ?_ _) | (with_reducible refine Kd.C_drewN ?_ _) | (with_reducible refine Kd.C_drew ?_))); (case side4 => exact HC1.out); rintro e w84 ⟨rfl, hb⟩; have n0_ := Aside0.mk (Kd.R_below (by (with_reducible repeat (first | apply Kd.R_alloc | apply Kd.R_drewN | apply Kd.R_drew)); exact HO558.out) hb); have n1_ := Aside0.mk (Kd.R_below (by (with_reducible repeat (first | apply Kd.R_alloc | apply Kd.R_drewN | apply Kd.R_drew)); exact HO563.out) hb); have n2_ := Aside0.mk (Kd.R_below (by (with_reducible repeat (first | apply Kd.R_alloc | apply Kd.R_drewN | apply Kd.R_drew)); exact HO566.out) hb); have n3_ := Aside0.mk (lqT (by repeat (first | (with_reducible first | exact HB.out | apply lqA | apply lqN | apply lqD) | exact HB.out)) hb); clear HO558; clear HO563; clear HO566; clear HB; have HO558 := n0_; have HO563 := n1_; have HO566 := n2_; have HB := n3_; clear n0_ n1_ n2_ n3_; (try clear hb); (try clear hb2); (try clear hk); (try clear hi)) | (go_at_call 36; refine calls_of_args (args' := #[.slice (some ⟨go39, 0, none⟩) y560.length co76, .slice A1 l1.length c1]) (by first | (rw [show y560.length = t556.length from (Kd.R_reads' HO558.out).1.symm] <;> rfl) | rfl) ?_; (with_reducible refine (equal36.calls _ _ y560 _ _ l1 false _ ?side1 ?side2 ?side3 ?side4 A58.out).mono ?_); (case side1 => repeat (first | exact (Kd.R_reads' HO558.out).2.2 | (with_reducible refine Kd.C_alloc ?_ _) | (with_reducible refine Kd.C_drewN ?_ _) | (with_reducible refine Kd.C_drew ?_))); (case side2 => rw [show y560.length = t556.length from (Kd.R_reads' HO558.out).1.symm]; exact (Kd.R_reads' HO558.out).2.1); (case side3 => repeat (first | exact (Kd.C_below HR1.out HB.out) | (with_reducible refine Kd.C_alloc ?_ _) | (with_reducible refine Kd.C_drewN ?_ _) | (with_reducible refine Kd.C_drew ?_))); (case side4 => exact HC1.out); rintro e w85 ⟨rfl, hb⟩; have n0_ := Aside0.mk (Kd.R_below (by (with_reducible repeat (first | apply Kd.R_alloc | apply Kd.R_drewN | apply Kd.R_drew)); exact HO558.out) hb); have n1_ := Aside0.mk (Kd.R_below (by (with_reducible repeat (first | apply Kd.R_alloc | apply Kd.R_drewN | apply Kd.R_drew)); exact HO563.out) hb); have n2_ := Aside0.mk (Kd.R_below (by (with_reducible repeat (first | apply Kd.R_alloc | apply Kd.R_drewN | apply Kd.R_drew)); exact HO566.out) hb); have n3_ := Aside0.mk (lqT (by repeat (first | (with_reducible first | exact HB.out | apply lqA | apply lqN | apply lqD) | exact HB.out)) hb); clear HO558; clear HO563; clear HO566; clear HB; have HO558 := n0_; have HO563 := n1_; have HO566 := n2_; have HB := n3_; clear n0_ n1_ n2_ n3_; (try clear hb); (try clear hb2); (try clear hk); (try clear hi)))
                   go_ret
                   exact ⟨by first | rfl | (simp [errW_none, errW_some] <;> rfl) | (simp only [← hji35, ← hji38]; first | rfl | (simp [errW_none, errW_some] <;> rfl)) | (simp [*, errW_none, errW_some] <;> rfl), by repeat (first | (with_reducible first | exact HB.out | apply lqA | apply lqN | apply lqD) | exact HB.out)⟩
                ·rw [if_neg c43] at H
                 exact absurd H (by simp)
               ·rw [if_neg c37] at H
                exact absurd H (by simp)
              ·rw [if_neg c36] at H
               exact absurd H (by simp)
     ·rw [if_neg c14] at H
      have c14b0 : (t551 == 0) = false := beq_eq_false_iff_ne.mpr c14
      try simp only [beq_self_eq_true, Bool.not_true, Bool.false_or, Bool.true_and] at c14b0
      have c14b1 : (t551 != 0) = true := bne_iff_ne.mpr c14
      by_cases c86 : t549 = 0
      ·rw [if_pos c86] at H
       have c86b0 : (t549 == 0) = true := beq_iff_eq.mpr c86
       try simp only [beq_self_eq_true, Bool.not_true, Bool.false_or, Bool.true_and] at c86b0
       have c86b1 : (t549 != 0) = false := bne_eq_false_iff_eq.mpr c86
       clear c86
       obtain rfl := Option.some.inj H
       go_wp2_with (first | ((with_reducible refine gqC (f := 14) rfl ?_); refine goesL_ (some 32) rfl rfl Try.func14 (by kernel_rfl) rfl #[.slice A0 l0.length c0] rfl (by (try simp only [List.map_toArray, List.map_cons, List.map_nil]); first | done | rfl | (simp only [List.length_drop, List.length_take]; rfl)) ?_; (with_reducible refine (clone14.calls _ _ l0 t543 _ ?side1 ?side2 A11.out).mono ?_); (case side1 => repeat (first | exact (Kd.C_below HR0.out HB.out) | (with_reducible refine Kd.C_alloc ?_ _) | (with_reducible refine Kd.C_drewN ?_ _) | (with_reducible refine Kd.C_drew ?_))); (case side2 => exact HC0.out); rintro e w87 ⟨v544, rfl, ho0, hb⟩; refine ⟨_, rfl, ?_⟩; have n0_ := Aside0.mk (Kd.R_lower ho0 (lqZ (by repeat (first | (with_reducible first | exact HB.out | apply lqA | apply lqN | apply lqD) | exact HB.out)))); have n1_ := Aside0.mk (lqT (by repeat (first | (with_reducible first | exact HB.out | apply lqA | apply lqN | apply lqD) | exact HB.out)) hb); clear HB; have HO545 := n0_; have HB := n1_; clear n0_ n1_; (try clear hb); (try clear hb2); (try clear hk); (try clear hi); (try clear ho0)) | ((with_reducible refine gqC (f := 14) rfl ?_); refine goesL_ (some 34) rfl rfl Try.func14 (by kernel_rfl) rfl #[.slice A1 l1.length c1] rfl (by (try simp only [List.map_toArray, List.map_cons, List.map_nil]); first | done | rfl | (simp only [List.length_drop, List.length_take]; rfl)) ?_; (with_reducible refine (clone14.calls _ _ l1 t546 _ ?side1 ?side2 A12.out).mono ?_); (case side1 => repeat (first | exact (Kd.C_below HR1.out HB.out) | (with_reducible refine Kd.C_alloc ?_ _) | (with_reducible refine Kd.C_drewN ?_ _) | (with_reducible refine Kd.C_drew ?_))); (case side2 => exact HC1.out); rintro e w88 ⟨v547, rfl, ho0, hb⟩; refine ⟨_, rfl, ?_⟩; have n0_ := Aside0.mk (Kd.R_elder' (by (with_reducible repeat (first | apply Kd.R_alloc | apply Kd.R_drewN | apply Kd.R_drew)); exact HO545.out) (Kd.R_base ho0) hb); have n1_ := Aside0.mk (Kd.R_lower (Kd.R_new' ho0 (Kd.R_lt (by (with_reducible repeat (first | apply Kd.R_alloc | apply Kd.R_drewN | apply Kd.R_drew)); exact HO545.out))) (lqZ (by repeat (first | (with_reducible first | exact HB.out | apply lqA | apply lqN | apply lqD) | exact HB.out)))); have n2_ := Aside0.mk (lqT (by repeat (first | (with_reducible first | exact HB.out | apply lqA | apply lqN | apply lqD) | exact HB.out)) hb); clear HO545; clear HB; have HO545 := n0_; have HO548 := n1_; have HB := n2_; clear n0_ n1_ n2_; (try clear hb); (try clear hb2); (try clear hk); (try clear hi); (try clear ho0); obtain ⟨Ao89, co89, eo89⟩ := Kd.R_slice HO545.out; subst eo89; obtain ⟨Ao90, co90, eo90⟩ := Kd.R_slice HO548.out; subst eo90) | ((with_reducible refine gqC (f := 25) rfl ?_); refine goesL_ (some 35) rfl rfl Try.func25 (by kernel_rfl) rfl #[.slice Ao89 t543.length co89, .slice Ao90 t546.length co90] rfl (by (try simp only [List.map_toArray, List.map_cons, List.map_nil]); first | done | rfl | (simp only [List.length_drop, List.length_take]; rfl)) ?_; (with_reducible refine (rank_AtLeast.calls _ _ t543 _ _ t546 t549 t550 t551 _ ?side1 ?side2 ?side3 ?side4 A13.out).mono ?_); (case side1 => repeat (first | exact (Kd.R_reads' HO545.out).2.2 | (with_reducible refine Kd.C_alloc ?_ _) | (with_reducible refine Kd.C_drewN ?_ _) | (with_reducible refine Kd.C_drew ?_))); (case side2 => exact (Kd.R_reads' HO545.out).2.1); (case side3 => repeat (first | exact (Kd.R_reads' HO548.out).2.2 | (with_reducible refine Kd.C_alloc ?_ _) | (with_reducible refine Kd.C_drewN ?_ _) | (with_reducible refine Kd.C_drew ?_))); (case side4 => exact (Kd.R_reads' HO548.out).2.1); rintro e w91 ⟨rfl, hb⟩; refine ⟨_, rfl, ?_⟩; have n0_ := Aside0.mk (Kd.R_below (by (with_reducible repeat (first | apply Kd.R_alloc | apply Kd.R_drewN | apply Kd.R_drew)); exact HO545.out) hb); have n1_ := Aside0.mk (Kd.R_below (by (with_reducible repeat (first | apply Kd.R_alloc | apply Kd.R_drewN | apply Kd.R_drew)); exact HO548.out) hb); have n2_ := Aside0.mk (lqT (by repeat (first | (with_reducible first | exact HB.out | apply lqA | apply lqN | apply lqD) | exact HB.out)) hb); clear HO545; clear HO548; clear HB; have HO545 := n0_; have HO548 := n1_; have HB := n2_; clear n0_ n1_ n2_; (try clear hb); (try clear hb2); (try clear hk); (try clear hi)))
       go_ret
       exact ⟨by first | rfl | (simp [errW_none, errW_some] <;> rfl) | (simp [*, errW_none, errW_some] <;> rfl), by repeat (first | (with_reducible first | exact HB.out | apply lqA | apply lqN | apply lqD) | exact HB.out)⟩
      ·rw [if_neg c86] at H
       exact absurd H (by simp)
 ·replace c6 := Bool.eq_false_iff.mpr c6
  subst c6
  have H1 : (none) = some r := by rw [if_neg (show ¬ (false = true) by decide)] at H; exact H
  clear H
  have H := H1
  clear H1
  exact absurd H (by simp)

/-- THE ONE PURE STATEMENT of spilelaw33_RankRare: yours. -/
def spilelaw33_RankRare.Pure : Prop := ∀ (l0 : List Int) (l1 : List Int) (a2 : Int) (a3 : Int), l0.length ≤ maxLen → l0.length * 8 ≤ 140737488351232 → (∀ x ∈ l0, (Lit.int .i64 x).wf = true) → l1.length ≤ maxLen → l1.length * 8 ≤ 140737488351232 → (∀ x ∈ l1, (Lit.int .i64 x).wf = true) → (Lit.int .u8 a2).wf = true → (Lit.int .u8 a3).wf = true → ∃ k, spilelaw33_RankRare.f k l0 l1 a2 a3 = some true
theorem spilelaw33_RankRare.walk (P : spilelaw33_RankRare.Pure) (a0 : Option Addr) (len0 cap0 : Nat) (z0 : List Int) (a1 : Option Addr) (len1 cap1 : Nat) (z1 : List Int) (a2 : Int) (a3 : Int) (w : World) (w0 : (a0 = none ∧ len0 = 0 ∧ cap0 = 0 ∧ z0 = []) ∨ ∃ x, a0 = some x ∧ len0 ≤ cap0 ∧ cap0 ≤ maxLen ∧ z0.length = cap0 ∧ (∀ i, i < z0.length → w.cell? (x.add i) = some (.int .i64 (z0.getD i 0))) ∧ ∀ n ∈ z0, (Lit.int .i64 n).wf = true) (y0 : len0 * 8 ≤ 140737488351232) (w1 : (a1 = none ∧ len1 = 0 ∧ cap1 = 0 ∧ z1 = []) ∨ ∃ x, a1 = some x ∧ len1 ≤ cap1 ∧ cap1 ≤ maxLen ∧ z1.length = cap1 ∧ (∀ i, i < z1.length → w.cell? (x.add i) = some (.int .i64 (z1.getD i 0))) ∧ ∀ n ∈ z1, (Lit.int .i64 n).wf = true) (y1 : len1 * 8 ≤ 140737488351232) (w2 : (Lit.int .u8 a2).wf = true) (w3 : (Lit.int .u8 a3).wf = true) :
  Calls Try.prog 9 #[.slice a0 len0 cap0, .slice a1 len1 cap1, .int .u8 a2, .int .u8 a3] w fun e w' => e = .returned (.bool true) ∧ Below w.heap.size w w' := by
 obtain ⟨l0, rfl, hr0, hm0, hw0, hc0⟩ := ReadsInt.ofRowC w0
 obtain ⟨l1, rfl, hr1, hm1, hw1, hc1⟩ := ReadsInt.ofRowC w1
 obtain ⟨k, h⟩ := P l0 l1 a2 a3 hm0 y0 hw0 hm1 y1 hw1 w2 w3
 refine (spilelaw33_RankRare.calls k _ _ l0 _ _ l1 a2 a3 true w (Kd.C_of_reads (d := (0 : Int)) (h1 := fun _ => rfl) hr0) hc0 (Kd.C_of_reads (d := (0 : Int)) (h1 := fun _ => rfl) hr1) hc1 h).mono ?_
 rintro e w' ⟨rfl, hd⟩
 exact ⟨rfl, hd⟩

end Go.Proofs.Ytbkoghmbacdiiaa.K
