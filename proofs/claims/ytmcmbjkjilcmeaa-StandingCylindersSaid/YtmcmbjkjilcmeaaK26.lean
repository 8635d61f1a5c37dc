-- PRINTED by print.py (a twelfth state) out of the translation. Not trusted: Lean checks it.
import Derived.Test.YtmcmbjkjilcmeaaK0
import Derived.Test.YtmcmbjkjilcmeaaGPu
import Derived.Test.YtmcmbjkjilcmeaaGShort
import Derived.Test.YtmcmbjkjilcmeaaGSym
import Derived.Test.YtmcmbjkjilcmeaaK1
import Derived.Test.YtmcmbjkjilcmeaaK14
import Derived.Test.YtmcmbjkjilcmeaaK16
import Derived.Test.YtmcmbjkjilcmeaaGClone
namespace Go.Proofs.Ytmcmbjkjilcmeaa.K
open Go.RowKit Go.Proofs.YtmcmbjkjilcmeaaW.PrintWords Go.Proofs.YtmcmbjkjilcmeaaW.PrintLast Go.Proofs.YtmcmbjkjilcmeaaW.PrintMore
attribute [local go_sem] max2_int min2_int max_two min_two max_three min_three max_four min_four   -- for this text's walks alone
set_option linter.unusedVariables false
set_option linter.unusedSimpArgs false

attribute [local go_sem high] eqA40
/-! ### spilelaw12_StandingCylinders: function 7 -/
mutual
def spilelaw12_StandingCylinders.j0 : Nat → Int → List Int → List (S40) → Bool → Option (Bool)
 | 0, _, _, _, _ => none
 | k + 1, x0, x2, x8, x48 => if x48 = true then (none) else (spilelaw12_StandingCylinders.l0 k x0 x2 x8 (x8.length : Int) 0)
def spilelaw12_StandingCylinders.l0 : Nat → Int → List Int → List (S40) → Int → Int → Option (Bool)
 | 0, _, _, _, _, _ => none
 | k + 1, x0, x2, x49, x50, x51 => if x51 < x50 then (if 0 ≤ x51 then (if x51 < (x49.length : Int) then (if 0 ≤ (wrap64 (x51 + 1)) then (if (wrap64 (x51 + 1)) < (x2.length : Int) then (if 0 < (x2.length : Int) then (if (!(((rd_T40 x49 x51).f0) == (wrap64 ((wrap64 ((wrap64 (3 * x0)) * x0)) * (wrap64 ((rd x2 (wrap64 (x51 + 1))) - (rd x2 0)))))) || (!(((rd_T40 x49 x51).f1) == (wrap64 ((wrap64 ((wrap64 (3 * x0)) * x0)) * (wrap64 ((rd x2 (wrap64 (x51 + 1))) - (rd x2 0)))))))) = true then (none) else (spilelaw12_StandingCylinders.l0 k x0 x2 x49 x50 (wrap64 (x51 + 1)))) else (none)) else (none)) else (none)) else (none)) else (none)) else (some true)
end
def spilelaw12_StandingCylinders.f (k : Nat) (a0 : Int) (a1 : Int) (l2 : List Int) : Option (Bool) := (spilelaw12_awake.f k).bind fun t576 => (if t576 = true then (if (l2.length : Int) > 129 then (some true) else ((some (([(⟨0, a0⟩ : S33), (⟨a1, a0⟩ : S33)] : List (S33)) : List (S33))).bind fun y577 => ((clone18.f l2).bind fun t581 => ((standing_Sums.f k (⟨#[99]⟩ : ByteArray) 2 y577 0 t581).bind fun bt584 => (if bt584.2 = 0 then ((spileref08_Check.f k y577).bind fun t588 => (if t588 = 0 then (spilelaw12_StandingCylinders.j0 k a0 l2 bt584.1 ((bt584.1.length : Int) != (wrap64 ((l2.length : Int) - 1)))) else (none))) else (some ((bt584.1.length : Int) == 0))))))) else (none))
theorem spilelaw12_StandingCylinders.mono_l : ∀ k, (∀ y0 y1 y2 y3, LeO (spilelaw12_StandingCylinders.j0 k y0 y1 y2 y3) (spilelaw12_StandingCylinders.j0 (k + 1) y0 y1 y2 y3)) ∧ (∀ y0 y1 y2 y3 y4, LeO (spilelaw12_StandingCylinders.l0 k y0 y1 y2 y3 y4) (spilelaw12_StandingCylinders.l0 (k + 1) y0 y1 y2 y3 y4))
 | 0 => ⟨fun _ _ _ _ r h => by simp [spilelaw12_StandingCylinders.j0] at h, fun _ _ _ _ _ r h => by simp [spilelaw12_StandingCylinders.l0] at h⟩
 | k + 1 => by
  obtain ⟨ih0, ih1⟩ := spilelaw12_StandingCylinders.mono_l k
  refine ⟨?_, ?_⟩
  ·intro y0 y1 y2 y3
   unfold spilelaw12_StandingCylinders.j0
   repeat' first
   | (with_reducible exact ih0 _ _ _ _)
   | (with_reducible exact ih1 _ _ _ _ _)
   | (with_reducible exact spilelaw12_awake.mono _)
   | (with_reducible exact spileref08_Check.mono _ _)
   | (with_reducible exact standing_Sums.mono _ _ _ _ _ _)
   | (with_reducible exact LeO.refl _)
   | (with_reducible exact LeO.none _)
   | (with_reducible refine LeO.ite ?_ ?_)
   | (with_reducible refine LeO.bind ?_ (fun _ => ?_))
   | exact ih0 _ _ _ _
   | exact ih1 _ _ _ _ _
   | exact spilelaw12_awake.mono _
   | exact spileref08_Check.mono _ _
   | exact standing_Sums.mono _ _ _ _ _ _
   | exact LeO.none _
   | refine LeO.ite ?_ ?_
   | refine LeO.bind ?_ (fun _ => ?_)
  ·intro y0 y1 y2 y3 y4
   unfold spilelaw12_StandingCylinders.l0
   repeat' first
   | (with_reducible exact ih0 _ _ _ _)
   | (with_reducible exact ih1 _ _ _ _ _)
   | (with_reducible exact spilelaw12_awake.mono _)
   | (with_reducible exact spileref08_Check.mono _ _)
   | (with_reducible exact standing_Sums.mono _ _ _ _ _ _)
   | (with_reducible exact LeO.refl _)
   | (with_reducible exact LeO.none _)
   | (with_reducible refine LeO.ite ?_ ?_)
   | (with_reducible refine LeO.bind ?_ (fun _ => ?_))
   | exact ih0 _ _ _ _
   | exact ih1 _ _ _ _ _
   | exact spilelaw12_awake.mono _
   | exact spileref08_Check.mono _ _
   | exact standing_Sums.mono _ _ _ _ _ _
   | exact LeO.none _
   | refine LeO.ite ?_ ?_
   | refine LeO.bind ?_ (fun _ => ?_)
theorem spilelaw12_StandingCylinders.mono : ∀ a0 a1 a2 k, LeO (spilelaw12_StandingCylinders.f k a0 a1 a2) (spilelaw12_StandingCylinders.f (k + 1) a0 a1 a2) := by
 intro a0 a1 a2 k
 obtain ⟨ih0, ih1⟩ := spilelaw12_StandingCylinders.mono_l k
 unfold spilelaw12_StandingCylinders.f
 repeat' first
   | (with_reducible exact ih0 _ _ _ _)
   | (with_reducible exact ih1 _ _ _ _ _)
   | (with_reducible exact spilelaw12_awake.mono _)
   | (with_reducible exact spileref08_Check.mono _ _)
   | (with_reducible exact standing_Sums.mono _ _ _ _ _ _)
   | (with_reducible exact LeO.refl _)
   | (with_reducible exact LeO.none _)
   | (with_reducible refine LeO.ite ?_ ?_)
   | (with_reducible refine LeO.bind ?_ (fun _ => ?_))
   | exact ih0 _ _ _ _
   | exact ih1 _ _ _ _ _
   | exact spilelaw12_awake.mono _
   | exact spileref08_Check.mono _ _
   | exact standing_Sums.mono _ _ _ _ _ _
   | exact LeO.none _
   | refine LeO.ite ?_ ?_
   | refine LeO.bind ?_ (fun _ => ?_)
def spilelaw12_StandingCylinders.T6 : Bool × List (List Nat × List Nat) := (true, [([], []), ([], []), ([1], [1]), ([0, 2, 2], [0, 2]), ([3], [3]), ([4], [4]), ([4], [4]), ([5, 3, 0, 1, 2, 3, 4, 5], [5]), ([6, 7, 0, 1, 2, 3, 4, 5, 6, 7], [6])])
def spilelaw12_StandingCylinders.B6 : List Nat := [0, 0, 2, 7, 15, 31, 31, 63, 255]
theorem spilelaw12_StandingCylinders.tab6 : rtab .any (opsOf Try.f7 6) = spilelaw12_StandingCylinders.T6 := by kernel_rfl
theorem spilelaw12_StandingCylinders.bits6 : waitsOk spilelaw12_StandingCylinders.T6.2 spilelaw12_StandingCylinders.B6 = true := by kernel_rfl
def spilelaw12_StandingCylinders.T14 : Bool × List (List Nat × List Nat) := (true, [([], []), ([0], [0]), ([], []), ([1, 2], [1, 2]), ([], []), ([], []), ([5], [5]), ([4, 6], [4, 6]), ([7], [7]), ([], []), ([9], [9]), ([10], [10]), ([8, 11], [8, 11]), ([3, 12], [3, 12]), ([13, 0, 1, 2, 3, 4, 5, 6, 7, 8, 9, 10, 11, 12, 13], [13])])
def spilelaw12_StandingCylinders.B14 : List Nat := [0, 1, 0, 7, 0, 0, 32, 112, 240, 0, 512, 1536, 4080, 8191, 16383]
theorem spilelaw12_StandingCylinders.tab14 : rtab .any (opsOf Try.f7 14) = spilelaw12_StandingCylinders.T14 := by kernel_rfl
theorem spilelaw12_StandingCylinders.bits14 : waitsOk spilelaw12_StandingCylinders.T14.2 spilelaw12_StandingCylinders.B14 = true := by kernel_rfl
set_option maxHeartbeats 8000000 in
set_option maxRecDepth 100000 in
theorem spilelaw12_StandingCylinders.calls (k : Nat) (a0 : Int) (a1 : Int) (A2 : Option Addr) (c2 : Nat) (l2 : List Int) (r : Bool) (w : World) (hr2 : Kd.C (Kd.int .i64) w A2 l2.length l2) (hc2 : l2.length ≤ c2) (h : spilelaw12_StandingCylinders.f k a0 a1 l2 = some r) :
  Calls Try.prog 7 #[.int .i64 a0, .int .i64 a1, .slice A2 l2.length c2] w fun e w' => e = .returned (.bool r) ∧ Below w.heap.size w w' := by
 have hu33 := Try.underlying33
 have hu24 := Try.underlying24
 have hu40 := Try.underlying40
 have HR2 := Aside0.mk hr2
 have HC2 := Aside0.mk hc2
 clear hr2 hc2
 have HB := Aside0.mk (Below.refl w.heap.size w)
 have H : ((spilelaw12_awake.f k).bind fun t576 => (if t576 = true then (if (l2.length : Int) > 129 then (some true) else ((some (([(⟨0, a0⟩ : S33), (⟨a1, a0⟩ : S33)] : List (S33)) : List (S33))).bind fun y577 => ((clone18.f l2).bind fun t581 => ((standing_Sums.f k (⟨#[99]⟩ : ByteArray) 2 y577 0 t581).bind fun bt584 => (if bt584.2 = 0 then ((spileref08_Check.f k y577).bind fun t588 => (if t588 = 0 then (spilelaw12_StandingCylinders.j0 k a0 l2 bt584.1 ((bt584.1.length : Int) != (wrap64 ((l2.length : Int) - 1)))) else (none))) else (some ((bt584.1.length : Int) == 0))))))) else (none))) = some r := h
 clear h
 replace H := Option.bind_eq_some_iff.mp H
 obtain ⟨t576, A40, H⟩ := H
 replace H : (if t576 = true then (if (l2.length : Int) > 129 then (some true) else ((some (([(⟨0, a0⟩ : S33), (⟨a1, a0⟩ : S33)] : List (S33)) : List (S33))).bind fun y577 => ((clone18.f l2).bind fun t581 => ((standing_Sums.f k (⟨#[99]⟩ : ByteArray) 2 y577 0 t581).bind fun bt584 => (if bt584.2 = 0 then ((spileref08_Check.f k y577).bind fun t588 => (if t588 = 0 then (spilelaw12_StandingCylinders.j0 k a0 l2 bt584.1 ((bt584.1.length : Int) != (wrap64 ((l2.length : Int) - 1)))) else (none))) else (some ((bt584.1.length : Int) == 0))))))) else (none)) = some r := H
 have A4 := Aside0.mk A40
 clear A40
 by_cases c5 : t576 = true
 ·subst c5
  have H1 : (if (l2.length : Int) > 129 then (some true) else ((some (([(⟨0, a0⟩ : S33), (⟨a1, a0⟩ : S33)] : List (S33)) : List (S33))).bind fun y577 => ((clone18.f l2).bind fun t581 => ((standing_Sums.f k (⟨#[99]⟩ : ByteArray) 2 y577 0 t581).bind fun bt584 => (if bt584.2 = 0 then ((spileref08_Check.f k y577).bind fun t588 => (if t588 = 0 then (spilelaw12_StandingCylinders.j0 k a0 l2 bt584.1 ((bt584.1.length : Int) != (wrap64 ((l2.length : Int) - 1)))) else (none))) else (some ((bt584.1.length : Int) == 0))))))) = some r := by rw [if_pos rfl] at H; exact H
  clear H
  have H := H1
  clear H1
  by_cases c6 : (l2.length : Int) > 129
  ·rw [if_pos c6] at H
   have c6b0 : decide (129 < (l2.length : Int)) = true := decide_eq_true c6
   have c6b1 : decide (129 < l2.length) = true := decide_eq_true (by omega)
   clear c6
   obtain rfl := Option.some.inj H
   go_enter Try.func7, Try.ntmps7
   go_wp2_with (first | ((with_reducible refine gqC (f := 10) rfl ?_); refine GS.gL (some 13) Try.func10 #[] ?_; (with_reducible refine (spilelaw12_awake.calls k  true _ A4.out).mono ?_); rintro e w7 ⟨rfl, hb⟩; refine ⟨_, rfl, ?_⟩; have n0_ := Aside0.mk (lqT (GS.lB HB.out) hb); clear HB; have HB := n0_; clear n0_; (try clear hb); (try clear hb2); (try clear hk); (try clear hi)))
   go_ret
   exact ⟨by first | rfl | (simp [errW_none, errW_some] <;> rfl) | (simp [*, errW_none, errW_some] <;> rfl), GS.lB HB.out⟩
  ·rw [if_neg c6] at H
   have c6b0 : decide (129 < (l2.length : Int)) = false := decide_eq_false c6
   have c6b1 : decide (129 < l2.length) = false := decide_eq_false (by omega)
   clear c6
   obtain ⟨y577, hy577⟩ : ∃ y_ : List (S33), y_ = (([(⟨0, a0⟩ : S33), (⟨a1, a0⟩ : S33)] : List (S33))) := ⟨_, rfl⟩
   replace H : ((clone18.f l2).bind fun t581 => ((standing_Sums.f k (⟨#[99]⟩ : ByteArray) 2 y577 0 t581).bind fun bt584 => (if bt584.2 = 0 then ((spileref08_Check.f k y577).bind fun t588 => (if t588 = 0 then (spilelaw12_StandingCylinders.j0 k a0 l2 bt584.1 ((bt584.1.length : Int) != (wrap64 ((l2.length : Int) - 1)))) else (none))) else (some ((bt584.1.length : Int) == 0))))) = some r := by first | (rw [hy577]; with_reducible exact H) | (have H2_ := (Option.bind_some _ _).symm.trans H; rw [hy577]; with_reducible exact H2_) | (have H2_ := (Option.bind_some _ _).symm.trans H; with_reducible exact H2_) | with_reducible exact H | (rw [hy577]; exact H) | exact H
   have Ny577 := Aside0.mk hy577
   clear hy577
   replace H := Option.bind_eq_some_iff.mp H
   obtain ⟨t581, A80, H⟩ := H
   replace H : ((standing_Sums.f k (⟨#[99]⟩ : ByteArray) 2 y577 0 t581).bind fun bt584 => (if bt584.2 = 0 then ((spileref08_Check.f k y577).bind fun t588 => (if t588 = 0 then (spilelaw12_StandingCylinders.j0 k a0 l2 bt584.1 ((bt584.1.length : Int) != (wrap64 ((l2.length : Int) - 1)))) else (none))) else (some ((bt584.1.length : Int) == 0)))) = some r := H
   have A8 := Aside0.mk A80
   clear A80
   replace H := Option.bind_eq_some_iff.mp H
   obtain ⟨⟨t584, t587⟩, A90, H⟩ := H
   replace H : (if t587 = 0 then ((spileref08_Check.f k y577).bind fun t588 => (if t588 = 0 then (spilelaw12_StandingCylinders.j0 k a0 l2 t584 ((t584.length : Int) != (wrap64 ((l2.length : Int) - 1)))) else (none))) else (some ((t584.length : Int) == 0))) = some r := H
   have A9 := Aside0.mk A90
   clear A90
   by_cases c10 : t587 = 0
   ·rw [if_pos c10] at H
    have c10b0 : (t587 == 0) = true := beq_iff_eq.mpr c10
    try simp only [beq_self_eq_true, Bool.not_true, Bool.false_or, Bool.true_and] at c10b0
    have c10b1 : (t587 != 0) = false := bne_eq_false_iff_eq.mpr c10
    clear c10
    have HC11 := Aside0.mk H
    clear H
    go_enter Try.func7, Try.ntmps7
    try go_wp2_with (first | ((with_reducible refine gqC (f := 10) rfl ?_); refine GS.gL (some 13) Try.func10 #[] ?_; (with_reducible refine (spilelaw12_awake.calls k  true _ A4.out).mono ?_); rintro e w12 ⟨rfl, hb⟩; refine ⟨_, rfl, ?_⟩; have n0_ := Aside0.mk (lqT (GS.lB HB.out) hb); clear HB; have HB := n0_; clear n0_; (try clear hb); (try clear hb2); (try clear hk); (try clear hi)) | ((with_reducible refine gqD (N := 23) rfl ?_); (try (refine gate_guard (by rfl) ?_; dsimp only)); refine Kd.R_lit k33 _ 33 ?hg (N := 23) ?hd (xs := ([(⟨0, a0⟩ : S33), (⟨a1, a0⟩ : S33)] : List (S33))) (inner := [.int .i64 0, .int .i64 a0, .int .i64 a1, .int .i64 a0]) (ok := fun _ => True) (okp := fun _ => True) ?hr ?hp (fun _ hk => hk) trivial (Below.refl _ _) (Nat.le_refl _) (by simp) ?_; (case hd => rfl); (case hg => rfl); (case hr => first | (go_simp; done) | (go_simp; rfl)); (case hp => exact (Reps.c2 (show Kd.M k33 _ _ _ (⟨0, a0⟩ : S33) [.int .i64 0, .int .i64 a0] from (k33_mkM _ _ _ (⟨0, a0⟩ : S33) )) (Reps.c2 (show Kd.M k33 _ _ _ (⟨a1, a0⟩ : S33) [.int .i64 a1, .int .i64 a0] from (k33_mkM _ _ _ (⟨a1, a0⟩ : S33) )) (Reps.none _ _)))); intro v578 w13 ho14 hb hg_ hnew_; clear hg_ hnew_; (first | rw [← Ny577.out] at ho14 | (simp only [Int.reduceToNat] at ho14; rw [← Ny577.out] at ho14)); have n0_ := Aside0.mk (Kd.R_lower ho14 (lqZ (GS.lB HB.out))); have n1_ := Aside0.mk (lqT (GS.lB HB.out) hb); clear HB; have HO579 := n0_; have HB := n1_; clear n0_ n1_; clear hb ho14; obtain ⟨Ao15, co15, eo15⟩ := Kd.R_slice HO579.out; subst eo15) | ((with_reducible refine gqD (N := 7) rfl ?_); (try (refine gate_guard (by rfl) ?_; dsimp only)); refine box_event ?hg (N := 7) ?hd (cs := #[.string (⟨#[]⟩ : ByteArray), .int .i64 0, .slice none 0 0, .int .i64 0]) (t := 24) ?hr ?_; (case hd => rfl); (case hg => rfl); (case hr => first | (go_simp; done) | (go_simp; rfl)); intro gb580 hg w16 hbox hb; have n0_ := Aside0.mk (Kd.R_below (GS.rR HO579.out) hb); have n1_ := Aside0.mk (lqT (GS.lB HB.out) hb); have n2_ := Aside0.mk (hbox); have n3_ := Aside0.mk ((by rw [hg]; exact (lqZ (GS.lB HB.out)) : w.heap.size ≤ gb580)); have n4_ := Aside0.mk ((by rw [hg]; exact (lqZ (GS.lB HB.out)) : w.heap.size ≤ gb580)); clear HO579; clear HB; have HO579 := n0_; have HB := n1_; have BK580 := n2_; have GW580 := n3_; have GE580 := n4_; clear n0_ n1_ n2_ n3_ n4_; clear hb hbox hg; obtain ⟨hcz17_0, hcz17_1, hcz17_2, hcz17_3, hfz17_0, hfz17_1, hfz17_2, hfz17_3⟩ := GS.c4 BK580.out))
    have n0_ : Aside0 (Kd.R k33 33 ((((w16.setCell ⟨gb580, 0, none⟩ (.string (⟨#[99]⟩ : ByteArray))).setCell ⟨gb580, 1, none⟩ (.int .i64 2)).setCell ⟨gb580, 2, none⟩ (.slice Ao15 y577.length co15)).setCell ⟨gb580, 3, none⟩ (.int .i64 0)) w.heap.size (fun _ => True) (.slice Ao15 y577.length co15) y577) := ⟨by (with_reducible repeat (first | apply Kd.R_alloc | apply Kd.R_drewN | apply Kd.R_drew)); exact Kd.R_mono (Kd.R_far (p := ⟨gb580, 3, none⟩) (Kd.R_far (p := ⟨gb580, 2, none⟩) (Kd.R_far (p := ⟨gb580, 1, none⟩) (Kd.R_far (p := ⟨gb580, 0, none⟩) (Kd.R_types HO579.out BK580.out (by decide)) (fun _ hk => hk.2) (.string (⟨#[99]⟩ : ByteArray))) (fun _ hk => hk.2) (.int .i64 2)) (fun _ hk => hk.2) (.slice Ao15 y577.length co15)) (fun _ hk => hk.2) (.int .i64 0)) (fun _ hk => trivial)⟩
    have n1_ : Aside0 (((((w16.setCell ⟨gb580, 0, none⟩ (.string (⟨#[99]⟩ : ByteArray))).setCell ⟨gb580, 1, none⟩ (.int .i64 2)).setCell ⟨gb580, 2, none⟩ (.slice Ao15 y577.length co15)).setCell ⟨gb580, 3, none⟩ (.int .i64 0)).heap[gb580]? = some (.cells #[.string (⟨#[99]⟩ : ByteArray), .int .i64 2, .slice Ao15 y577.length co15, .int .i64 0] 24 (0, 0))) := ⟨by (with_reducible repeat (first | refine bqN ?_ _ | refine bqD ?_ | refine bqA ?_ _)); refine bqP (cs := #[.string (⟨#[99]⟩ : ByteArray), .int .i64 2, .slice Ao15 y577.length co15, .int .i64 0]) ?_ 3 _ rfl; (with_reducible repeat (first | refine bqN ?_ _ | refine bqD ?_ | refine bqA ?_ _)); refine bqP (cs := #[.string (⟨#[99]⟩ : ByteArray), .int .i64 2, .slice none 0 0, .int .i64 0]) ?_ 2 _ rfl; (with_reducible repeat (first | refine bqN ?_ _ | refine bqD ?_ | refine bqA ?_ _)); refine bqP (cs := #[.string (⟨#[99]⟩ : ByteArray), .int .i64 0, .slice none 0 0, .int .i64 0]) ?_ 1 _ rfl; (with_reducible repeat (first | refine bqN ?_ _ | refine bqD ?_ | refine bqA ?_ _)); refine bqP (cs := #[.string (⟨#[]⟩ : ByteArray), .int .i64 0, .slice none 0 0, .int .i64 0]) ?_ 0 _ rfl; (with_reducible repeat (first | refine bqN ?_ _ | refine bqD ?_ | refine bqA ?_ _)); exact BK580.out⟩
    have n2_ : Aside0 (Below w.heap.size w ((((w16.setCell ⟨gb580, 0, none⟩ (.string (⟨#[99]⟩ : ByteArray))).setCell ⟨gb580, 1, none⟩ (.int .i64 2)).setCell ⟨gb580, 2, none⟩ (.slice Ao15 y577.length co15)).setCell ⟨gb580, 3, none⟩ (.int .i64 0))) := ⟨GS.lB HB.out⟩
    (try clear HO579)
    (try clear BK580)
    (try clear HB)
    generalize ((((w16.setCell ⟨gb580, 0, none⟩ (.string (⟨#[99]⟩ : ByteArray))).setCell ⟨gb580, 1, none⟩ (.int .i64 2)).setCell ⟨gb580, 2, none⟩ (.slice Ao15 y577.length co15)).setCell ⟨gb580, 3, none⟩ (.int .i64 0)) = w18 at n0_ n1_ n2_ ⊢
    have HO579 := n0_
    have BK580 := n1_
    have HB := n2_
    clear n0_ n1_ n2_
    have n0_ := Aside0.mk (Kd.R_drew HO579.out)
    have n1_ := Aside0.mk (bqD BK580.out)
    have n2_ := Aside0.mk (lqD HB.out)
    clear HO579
    clear BK580
    clear HB
    have HO579 := n0_
    have BK580 := n1_
    have HB := n2_
    clear n0_ n1_ n2_
    refine start_ (n := 9) (S := fun w' => w'.cell? ⟨gb580, 0, none⟩ = some (.string (⟨#[99]⟩ : ByteArray)) ∧ w'.cell? ⟨gb580, 1, none⟩ = some (.int .i64 2) ∧ w'.cell? ⟨gb580, 2, none⟩ = some (.slice Ao15 y577.length co15) ∧ w'.cell? ⟨gb580, 3, none⟩ = some (.int .i64 0)) (ds := []) #[false, false, false, false, false, false, false, false, false] (by kernel_rfl) rfl rfl ⟨(bqC BK580.out 0).trans rfl, (bqC BK580.out 1).trans rfl, (bqC BK580.out 2).trans rfl, (bqC BK580.out 3).trans rfl⟩ (fun hHeld => ?_); refine with_tabW spilelaw12_StandingCylinders.tab6 spilelaw12_StandingCylinders.bits6 (fun HT_ HW_ => ?_)
    generalize w18.drew = w19 at HO579 BK580 HB hHeld ⊢
    refine GS.pu 1 (some 27) HT_.out ?_
    refine GS.tk 0 (some 26) HT_.out HW_.out hHeld ?_
    refine one_ (i := 2) (N := some 28) #[true, true, true, false, false, false, false, false, false] rfl rfl (one_of HT_.out (by kernel_rfl)) (by decide) (fun K hK => ?_)
    refine goes_ Try.func18 (by kernel_rfl) rfl #[.slice A2 l2.length c2] (by rfl) rfl rfl (by (try simp only [List.map_toArray, List.map_cons, List.map_nil]); first | done | rfl | (simp only [List.length_drop, List.length_take]; rfl)) ?_
    with_reducible refine (clone18.calls _ _ l2 t581 _ ?side1 ?side2 A8.out).mono ?_
    (case side1 => exact GS.rC (Kd.C_below HR2.out HB.out))
    (case side2 => exact HC2.out)
    rintro e w20 ⟨v582, rfl, ho0, hb⟩
    refine ⟨_, rfl, ?_⟩
    have n0_ := Aside0.mk (Kd.R_below (GS.rR HO579.out) hb)
    have n1_ := Aside0.mk (Kd.R_lower ho0 (lqZ (GS.lB HB.out)))
    have n2_ := Aside0.mk (bqB (g := gb580) (o := .cells #[.string (⟨#[99]⟩ : ByteArray), .int .i64 2, .slice Ao15 y577.length co15, .int .i64 0] 24 (0, 0)) (GS.bqX BK580.out) hb)
    have n3_ := Aside0.mk (lqT (GS.lB HB.out) hb)
    clear HO579
    clear BK580
    clear HB
    have HO579 := n0_
    have HO583 := n1_
    have BK580 := n2_
    have HB := n3_
    clear n0_ n1_ n2_ n3_
    (try clear hb)
    (try clear hb2)
    (try clear hk)
    (try clear hi)
    (try clear ho0)
    obtain ⟨Ao21, co21, eo21⟩ := Kd.R_slice HO583.out
    (first | subst eo21 | (injection eo21 with f1_ f2_ f3_; have f4_ := f1_.symm; have f5_ := f3_.symm; clear f1_ f2_ f3_; subst f4_; subst f5_))
    refine hK.out _ _ ⟨(bqC BK580.out 0).trans rfl, (bqC BK580.out 1).trans rfl, (bqC BK580.out 2).trans rfl, (bqC BK580.out 3).trans rfl⟩ (fun hHeld => ?_)
    clear hK K
    refine norm_ (a' := ?_) ?_ ?_
    rotate_left
    ·show Act.put _ (some 28) _ = _
     simp only [Act.put, List.setIfInBounds_toArray, List.set_cons_zero, List.set_cons_succ, i64_w, i32_w]
     rfl
    refine one_ (i := 3) (N := some 29) #[true, true, true, true, false, false, false, false, false] rfl rfl (one_of HT_.out (by kernel_rfl)) (by decide) (fun K hK => ?_)
    refine goes_ Try.func22 (by kernel_rfl) rfl #[.agg #[.string (⟨#[99]⟩ : ByteArray), .int .i64 2, .slice Ao15 y577.length co15, .int .i64 0], .slice Ao21 t581.length co21] (by rfl) rfl rfl (by (try simp only [List.map_toArray, List.map_cons, List.map_nil]); first | done | rfl | (simp only [List.length_drop, List.length_take]; rfl)) ?_
    with_reducible refine (standing_Sums.calls k (⟨#[99]⟩ : ByteArray) 2 _ _ y577 0 _ _ t581 t584 t587 _ ?side1 ?side2 ?side3 ?side4 A9.out).mono ?_
    (case side1 => repeat (first | exact (Kd.R_reads' HO579.out).2.2 | (with_reducible refine Kd.C_alloc ?_ _) | (with_reducible refine Kd.C_drewN ?_ _) | (with_reducible refine Kd.C_drew ?_)))
    (case side2 => exact (Kd.R_reads' HO579.out).2.1)
    (case side3 => repeat (first | exact (Kd.R_reads' HO583.out).2.2 | (with_reducible refine Kd.C_alloc ?_ _) | (with_reducible refine Kd.C_drewN ?_ _) | (with_reducible refine Kd.C_drew ?_)))
    (case side4 => exact (Kd.R_reads' HO583.out).2.1)
    rintro e w22 ⟨v585, rfl, ho0, hb⟩
    refine ⟨_, rfl, ?_⟩
    have n0_ := Aside0.mk (Kd.R_below (GS.rR HO579.out) hb)
    have n1_ := Aside0.mk (Kd.R_below (GS.rR HO583.out) hb)
    have n2_ := Aside0.mk (Kd.R_lower ho0 (lqZ (GS.lB HB.out)))
    have n3_ := Aside0.mk (bqB (g := gb580) (o := .cells #[.string (⟨#[99]⟩ : ByteArray), .int .i64 2, .slice Ao15 y577.length co15, .int .i64 0] 24 (0, 0)) (GS.bqX BK580.out) hb)
    have n4_ := Aside0.mk (lqT (GS.lB HB.out) hb)
    clear HO579
    clear HO583
    clear BK580
    clear HB
    have HO579 := n0_
    have HO583 := n1_
    have HO586 := n2_
    have BK580 := n3_
    have HB := n4_
    clear n0_ n1_ n2_ n3_ n4_
    (try clear hb)
    (try clear hb2)
    (try clear hk)
    (try clear hi)
    (try clear ho0)
    refine hK.out _ _ ⟨(bqC BK580.out 0).trans rfl, (bqC BK580.out 1).trans rfl, (bqC BK580.out 2).trans rfl, (bqC BK580.out 3).trans rfl⟩ (fun hHeld => ?_)
    clear hK K
    refine norm_ (a' := ?_) ?_ ?_
    rotate_left
    ·show Act.put _ (some 29) _ = _
     simp only [Act.put, List.setIfInBounds_toArray, List.set_cons_zero, List.set_cons_succ, i64_w, i32_w]
     rfl
    refine GS.pu 4 (some 25) HT_.out ?_
    refine GS.pu 5 (some 30) HT_.out ?_
    refine GS.pu 6 (some 31) HT_.out ?_
    refine GS.pu 7 (some 8) HT_.out ?_
    refine GS.pu 8 (some 9) HT_.out ?_
    refine done_ (done_of HT_.out (by kernel_rfl)) ?_
    go_upto_region 9 with (fail)
    go_cut [48] (fun v48 wc => ∃ (kq : Nat) (x48_10 : Bool), v48 = .bool x48_10 ∧ Aside0 (spilelaw12_StandingCylinders.j0 kq a0 l2 t584 x48_10 = some r) ∧ Aside0 (kq ≤ k) ∧ Aside0 (Kd.R k40 40 wc w.heap.size (fun _ => True) v585 t584) ∧ Aside0 (Kd.R k33 33 wc w.heap.size (fun _ => True) (.slice Ao15 y577.length co15) y577) ∧ Aside0 (wc.heap[gb580]? = some (.cells #[.string (⟨#[99]⟩ : ByteArray), .int .i64 2, (.slice Ao15 y577.length co15), .int .i64 0] 24 (0, 0))) ∧ Aside0 (Below w.heap.size w wc))
    case first =>
     have H := HC11.out
     clear HC11
     replace H := Option.bind_eq_some_iff.mp H
     obtain ⟨t588, A230, H⟩ := H
     replace H : (if t588 = 0 then (spilelaw12_StandingCylinders.j0 k a0 l2 t584 ((t584.length : Int) != (wrap64 ((l2.length : Int) - 1)))) else (none)) = some r := H
     have A23 := Aside0.mk A230
     clear A230
     by_cases c24 : t588 = 0
     ·rw [if_pos c24] at H
      have c24b0 : (t588 == 0) = true := beq_iff_eq.mpr c24
      try simp only [beq_self_eq_true, Bool.not_true, Bool.false_or, Bool.true_and] at c24b0
      have c24b1 : (t588 != 0) = false := bne_eq_false_iff_eq.mpr c24
      clear c24
      (first | rw [c24b0] | (simp only [i64_w, i32_w]; rw [c24b0]) | skip)
      have H' := Aside0.mk H
      clear H
      obtain ⟨hcz25_0, hcz25_1, hcz25_2, hcz25_3, hfz25_0, hfz25_1, hfz25_2, hfz25_3⟩ := GS.c4 BK580.out
      go_wp2_with (first | ((with_reducible refine gqC (f := 27) rfl ?_); refine GS.gL (some 39) Try.func27 #[.slice Ao15 y577.length co15] ?_; (with_reducible refine (spileref08_Check.calls k _ _ y577 t588 _ ?side1 ?side2 A23.out).mono ?_); (case side1 => repeat (first | exact (Kd.R_reads' HO579.out).2.2 | (with_reducible refine Kd.C_alloc ?_ _) | (with_reducible refine Kd.C_drewN ?_ _) | (with_reducible refine Kd.C_drew ?_))); (case side2 => exact (Kd.R_reads' HO579.out).2.1); rintro e w' ⟨rfl, ⟨nd, rfl⟩⟩; refine ⟨_, rfl, ?_⟩; obtain ⟨Ao26, co26, eo26⟩ := Kd.R_slice HO586.out; subst eo26))
      go_meet
      case rel => exact ⟨_, (((t584.length : Int) != (wrap64 ((l2.length : Int) - 1)))), (by first | rfl | (simp; done) | (simp [*]; done)), H', ⟨by first | omega | exact Nat.le_refl _⟩, ⟨by (with_reducible repeat (first | apply Kd.R_alloc | apply Kd.R_drewN | apply Kd.R_drew)); exact HO586.out⟩, ⟨by (with_reducible repeat (first | apply Kd.R_alloc | apply Kd.R_drewN | apply Kd.R_drew)); exact HO579.out⟩, ⟨GS.bqX BK580.out⟩, ⟨GS.lB HB.out⟩⟩
     ·rw [if_neg c24] at H
      exact absurd H (by simp)
    case rest =>
     clear HC11
     try clear c1
     try clear c2
     try clear p2
     try clear c5
     try clear c6
     try clear c6b0
     try clear c6b1
     try clear p6
     try clear c7
     try clear c10
     try clear c10b0
     try clear c10b1
     try clear c18
     try clear c22
     try clear c24
     try clear c24b0
     try clear c24b1
     try clear hcz17_0
     try clear hcz17_1
     try clear hcz17_2
     try clear hcz17_3
     try clear hcz25_0
     try clear hcz25_1
     try clear hcz25_2
     try clear hcz25_3
     try clear hfz17_0
     try clear hfz17_1
     try clear hfz17_2
     try clear hfz17_3
     try clear hfz25_0
     try clear hfz25_1
     try clear hfz25_2
     try clear hfz25_3
     obtain ⟨kq, x48_10, rfl, HA, HJ10, HO_8, HO_581002, BK580, HB⟩ := hcut
     cases kq with
     | zero => exact absurd HA.out (by simp [spilelaw12_StandingCylinders.j0])
     | succ kj10 =>
      have H := HA.out
      clear HA
      simp only [spilelaw12_StandingCylinders.j0] at H
      by_cases c27 : x48_10 = true
      ·subst c27
       have H1 : (none) = some r := by rw [if_pos rfl] at H; exact H
       clear H
       have H := H1
       clear H1
       exact absurd H (by simp)
      ·replace c27 := Bool.eq_false_iff.mpr c27
       subst c27
       have H1 : (spilelaw12_StandingCylinders.l0 kj10 a0 l2 t584 (t584.length : Int) 0) = some r := by rw [if_neg (show ¬ (false = true) by decide)] at H; exact H
       clear H
       have H := H1
       clear H1
       have H' := Aside0.mk H
       clear H
       obtain ⟨Ao28, co28, eo28⟩ := Kd.R_slice HO_8.out
       subst eo28
       go_wp2
       go_loopg [51] kj10 (fun kq v51 w' => ∃ (x51_2 : Int), v51 = .int .i64 x51_2 ∧ Aside0 (spilelaw12_StandingCylinders.l0 kq a0 l2 t584 (t584.length : Int) x51_2 = some r) ∧ Aside0 (kq ≤ kj10) ∧ Aside0 (Kd.R k40 40 w' w.heap.size (fun _ => True) (.slice Ao28 t584.length co28) t584) ∧ Aside0 (Kd.R k33 33 w' w.heap.size (fun _ => True) (.slice Ao15 y577.length co15) y577) ∧ Aside0 (w'.heap[gb580]? = some (.cells #[.string (⟨#[99]⟩ : ByteArray), .int .i64 2, (.slice Ao15 y577.length co15), .int .i64 0] 24 (0, 0))) ∧ Aside0 (Below w.heap.size w w'))
       case atStart => exact ⟨(0), (by first | rfl | (simp; done) | (simp [*]; done)), H', ⟨Nat.le_refl _⟩, ⟨by (with_reducible repeat (first | apply Kd.R_alloc | apply Kd.R_drewN | apply Kd.R_drew)); exact HO_8.out⟩, ⟨by (with_reducible repeat (first | apply Kd.R_alloc | apply Kd.R_drewN | apply Kd.R_drew)); exact HO_581002.out⟩, ⟨GS.bqX BK580.out⟩, ⟨GS.lB HB.out⟩⟩
       case round =>
        clear H'
        try clear c1
        try clear c2
        try clear p2
        try clear c5
        try clear c6
        try clear c6b0
        try clear c6b1
        try clear p6
        try clear c7
        try clear c10
        try clear c10b0
        try clear c10b1
        try clear c18
        try clear c22
        try clear c24
        try clear c24b0
        try clear c24b1
        try clear c27
        try clear hcz17_0
        try clear hcz17_1
        try clear hcz17_2
        try clear hcz17_3
        try clear hcz25_0
        try clear hcz25_1
        try clear hcz25_2
        try clear hcz25_3
        try clear hfz17_0
        try clear hfz17_1
        try clear hfz17_2
        try clear hfz17_3
        try clear hfz25_0
        try clear hfz25_1
        try clear hfz25_2
        try clear hfz25_3
        try clear p2
        try clear p6
        obtain ⟨x51_2, rfl, HA, HK2, HO_49, HO_581002, BK580, HB⟩ := hrel
        cases gk with
        | zero => exact absurd HA.out (by simp [spilelaw12_StandingCylinders.l0])
        | succ k2 =>
         have H := HA.out
         clear HA
         simp only [spilelaw12_StandingCylinders.l0] at H
         by_cases c29 : x51_2 < (t584.length : Int)
         ·rw [if_pos c29] at H
          have c29b0 : decide (x51_2 < (t584.length : Int)) = true := decide_eq_true c29
          clear c29
          by_cases c30 : 0 ≤ x51_2
          ·rw [if_pos c30] at H
           have c30b0 : decide (0 ≤ x51_2) = true := decide_eq_true c30
           clear c30
           by_cases c31 : x51_2 < (t584.length : Int)
           ·rw [if_pos c31] at H
            have c31b0 : decide (x51_2 < (t584.length : Int)) = true := decide_eq_true c31
            clear c31
            obtain ⟨ji32, hji32⟩ : ∃ j_ : Int, (wrap64 (x51_2 + 1)) = j_ := ⟨_, rfl⟩
            replace H : (if 0 ≤ (ji32) then (if (ji32) < (l2.length : Int) then (if 0 < (l2.length : Int) then (if (!(((rd_T40 t584 x51_2).f0) == (wrap64 ((wrap64 ((wrap64 (3 * a0)) * a0)) * (wrap64 ((rd l2 (ji32)) - (rd l2 0)))))) || (!(((rd_T40 t584 x51_2).f1) == (wrap64 ((wrap64 ((wrap64 (3 * a0)) * a0)) * (wrap64 ((rd l2 (ji32)) - (rd l2 0)))))))) = true then (none) else (spilelaw12_StandingCylinders.l0 k2 a0 l2 t584 (t584.length : Int) ji32)) else (none)) else (none)) else (none)) = some r := by first | (rw [hji32] at H; exact H) | (simp only [hji32] at H ⊢; exact H)
            have hji32w : (IntKind.i64.wrap (x51_2 + 1)) = ji32 := (i64_w _).trans hji32
            by_cases c33 : 0 ≤ (ji32)
            ·rw [if_pos c33] at H
             have c33b0 : decide (0 ≤ (ji32)) = true := decide_eq_true c33
             clear c33
             by_cases c34 : (ji32) < (l2.length : Int)
             ·rw [if_pos c34] at H
              have c34b0 : decide ((ji32) < (l2.length : Int)) = true := decide_eq_true c34
              clear c34
              by_cases c35 : 0 < (l2.length : Int)
              ·rw [if_pos c35] at H
               have c35b0 : decide (0 < (l2.length : Int)) = true := decide_eq_true c35
               have c35b1 : decide (0 < l2.length) = true := decide_eq_true (by omega)
               clear c35
               by_cases c36 : (!(((rd_T40 t584 x51_2).f0) == (wrap64 ((wrap64 ((wrap64 (3 * a0)) * a0)) * (wrap64 ((rd l2 (ji32)) - (rd l2 0)))))) || (!(((rd_T40 t584 x51_2).f1) == (wrap64 ((wrap64 ((wrap64 (3 * a0)) * a0)) * (wrap64 ((rd l2 (ji32)) - (rd l2 0)))))))) = true
               ·rw [if_pos c36] at H
                exact absurd H (by simp)
               ·rw [if_neg c36] at H
                have c36b0 : (!(((rd_T40 t584 x51_2).f0) == (wrap64 ((wrap64 ((wrap64 (3 * a0)) * a0)) * (wrap64 ((rd l2 (ji32)) - (rd l2 0)))))) || (!(((rd_T40 t584 x51_2).f1) == (wrap64 ((wrap64 ((wrap64 (3 * a0)) * a0)) * (wrap64 ((rd l2 (ji32)) - (rd l2 0)))))))) = false := by simpa using c36
                try simp only [beq_self_eq_true, Bool.not_true, Bool.false_or, Bool.true_and] at c36b0
                clear c36
                have H' := Aside0.mk H
                clear H
                have p589 : 0 ≤ (x51_2 : Int) := of_decide_eq_true (by first | (with_reducible assumption) | assumption)
                have q589 : x51_2 < (t584.length : Int) := of_decide_eq_true (by first | (with_reducible assumption) | assumption)
                obtain ⟨ad589, e589, hx589_0, hx589_1⟩ := at_T40 (Kd.R_reads' HO_49.out).2.2 x51_2 p589 q589
                cases e589
                replace p589 := eq_true p589
                replace q589 := eq_true q589
                try go_wp2_with (first | ((with_reducible refine gqD (N := 11) rfl ?_); (try (refine gate_guard (by rfl) ?_; dsimp only)); refine GS.bx (N := 11) (cs := #[.int .i64 0, .int .i64 0]) (t := 40) ?_; intro gb590 hg w37 hbox hb; have n0_ := Aside0.mk (Kd.R_below (Kd.R_elderB (GS.rR HO_49.out) gb590 (Nat.le_of_eq hg.symm)) hb); have n1_ := Aside0.mk (Kd.R_below (GS.rR HO_581002.out) hb); have n2_ := Aside0.mk (bqB (g := gb580) (o := .cells #[.string (⟨#[99]⟩ : ByteArray), .int .i64 2, .slice Ao15 y577.length co15, .int .i64 0] 24 (0, 0)) (GS.bqX BK580.out) hb); have n3_ := Aside0.mk (lqT (GS.lB HB.out) hb); have n4_ := Aside0.mk (hbox); have n5_ := Aside0.mk ((by rw [hg]; exact (lqZ (GS.lB HB.out)) : w.heap.size ≤ gb590)); have n6_ := Aside0.mk ((by rw [hg]; exact (lqZ (GS.lB HB.out)) : w.heap.size ≤ gb590)); have n7_ := Aside0.mk ((by rw [hg]; exact Nat.ne_of_lt (blk_lt (g := gb580) (o := .cells #[.string (⟨#[99]⟩ : ByteArray), .int .i64 2, .slice Ao15 y577.length co15, .int .i64 0] 24 (0, 0)) (GS.bqX BK580.out)) : gb580 ≠ gb590)); have n8_ := Aside0.mk ((by rw [hg]; exact Nat.ne_of_gt (blk_lt (g := gb580) (o := .cells #[.string (⟨#[99]⟩ : ByteArray), .int .i64 2, .slice Ao15 y577.length co15, .int .i64 0] 24 (0, 0)) (GS.bqX BK580.out)) : gb590 ≠ gb580)); clear HO_49; clear HO_581002; clear BK580; clear HB; have HO_49 := n0_; have HO_581002 := n1_; have BK580 := n2_; have HB := n3_; have BK590 := n4_; have GW590 := n5_; have GE590 := n6_; have NB580_590 := n7_; have NB590_580 := n8_; clear n0_ n1_ n2_ n3_ n4_ n5_ n6_ n7_ n8_; clear hb hbox hg; have hnb38 := NB590_580.out; have hnc38 := NB580_590.out; obtain ⟨hcz39_0, hcz39_1, hfz39_0, hfz39_1⟩ := GS.c2 BK590.out))
                have n0_ : Aside0 (Kd.R k40 40 ((w37.setCell ⟨gb590, 0, none⟩ (.int .i64 ((rd_T40 t584 x51_2).f0))).setCell ⟨gb590, 1, none⟩ (.int .i64 ((rd_T40 t584 x51_2).f1))) w.heap.size (fun k_ => k_ ≠ gb590) (.slice (some ad589) t584.length co28) t584) := ⟨by (with_reducible repeat (first | apply Kd.R_alloc | apply Kd.R_drewN | apply Kd.R_drew)); exact Kd.R_mono (Kd.R_far (p := ⟨gb590, 1, none⟩) (Kd.R_far (p := ⟨gb590, 0, none⟩) (Kd.R_mono HO_49.out (fun k_ hk => (⟨hk, GS.cj hk⟩ : _ ∧ k_ ≠ gb590))) (fun _ hk => hk.2) (.int .i64 ((rd_T40 t584 x51_2).f0))) (fun _ hk => hk.2) (.int .i64 ((rd_T40 t584 x51_2).f1))) (fun _ hk => GS.cj hk)⟩
                have n1_ : Aside0 (Kd.R k33 33 ((w37.setCell ⟨gb590, 0, none⟩ (.int .i64 ((rd_T40 t584 x51_2).f0))).setCell ⟨gb590, 1, none⟩ (.int .i64 ((rd_T40 t584 x51_2).f1))) w.heap.size (fun _ => True) (.slice Ao15 y577.length co15) y577) := ⟨by (with_reducible repeat (first | apply Kd.R_alloc | apply Kd.R_drewN | apply Kd.R_drew)); exact Kd.R_mono (Kd.R_far (p := ⟨gb590, 1, none⟩) (Kd.R_far (p := ⟨gb590, 0, none⟩) (Kd.R_types HO_581002.out BK590.out (by decide)) (fun _ hk => hk.2) (.int .i64 ((rd_T40 t584 x51_2).f0))) (fun _ hk => hk.2) (.int .i64 ((rd_T40 t584 x51_2).f1))) (fun _ hk => trivial)⟩
                have n2_ : Aside0 (((w37.setCell ⟨gb590, 0, none⟩ (.int .i64 ((rd_T40 t584 x51_2).f0))).setCell ⟨gb590, 1, none⟩ (.int .i64 ((rd_T40 t584 x51_2).f1))).heap[gb580]? = some (.cells #[.string (⟨#[99]⟩ : ByteArray), .int .i64 2, .slice Ao15 y577.length co15, .int .i64 0] 24 (0, 0))) := ⟨GS.bqX BK580.out⟩
                have n3_ : Aside0 (((w37.setCell ⟨gb590, 0, none⟩ (.int .i64 ((rd_T40 t584 x51_2).f0))).setCell ⟨gb590, 1, none⟩ (.int .i64 ((rd_T40 t584 x51_2).f1))).heap[gb590]? = some (.cells #[.int .i64 ((rd_T40 t584 x51_2).f0), .int .i64 ((rd_T40 t584 x51_2).f1)] 40 (0, 0))) := ⟨GS.bqZ BK590.out⟩
                have n4_ : Aside0 (Below w.heap.size w ((w37.setCell ⟨gb590, 0, none⟩ (.int .i64 ((rd_T40 t584 x51_2).f0))).setCell ⟨gb590, 1, none⟩ (.int .i64 ((rd_T40 t584 x51_2).f1)))) := ⟨GS.lB HB.out⟩
                (try clear HO_49)
                (try clear HO_581002)
                (try clear BK580)
                (try clear BK590)
                (try clear HB)
                generalize ((w37.setCell ⟨gb590, 0, none⟩ (.int .i64 ((rd_T40 t584 x51_2).f0))).setCell ⟨gb590, 1, none⟩ (.int .i64 ((rd_T40 t584 x51_2).f1))) = w40 at n0_ n1_ n2_ n3_ n4_ ⊢
                have HO_49 := n0_
                have HO_581002 := n1_
                have BK580 := n2_
                have BK590 := n3_
                have HB := n4_
                clear n0_ n1_ n2_ n3_ n4_
                have n0_ := Aside0.mk (Kd.R_drew HO_49.out)
                have n1_ := Aside0.mk (Kd.R_drew HO_581002.out)
                have n2_ := Aside0.mk (bqD BK580.out)
                have n3_ := Aside0.mk (bqD BK590.out)
                have n4_ := Aside0.mk (lqD HB.out)
                clear HO_49
                clear HO_581002
                clear BK580
                clear BK590
                clear HB
                have HO_49 := n0_
                have HO_581002 := n1_
                have BK580 := n2_
                have BK590 := n3_
                have HB := n4_
                clear n0_ n1_ n2_ n3_ n4_
                have p591 : 0 ≤ ((ji32) : Int) := of_decide_eq_true (by first | (with_reducible assumption) | assumption)
                have q591 : (ji32) < (l2.length : Int) := of_decide_eq_true (by first | (with_reducible assumption) | assumption)
                obtain ⟨ad591, e591, hx591_0⟩ := Kd.at_int HR2.out (ji32) p591 q591
                have hw591_0 := hx591_0
                cases e591
                replace hx591_0 := (HB.out.cell (World.block_lt_of_cell? w _ hx591_0)).trans hx591_0
                replace p591 := eq_true p591
                replace q591 := eq_true q591
                have p592 : 0 ≤ (0 : Int) := (by omega)
                have q592 : 0 < (l2.length : Int) := of_decide_eq_true (by first | (with_reducible assumption) | assumption)
                obtain ⟨ad592, e592, hx592_0⟩ := Kd.at_int HR2.out 0 p592 q592
                have hw592_0 := hx592_0
                (try rw [show ((0 : Int)).toNat = 0 from rfl] at hw592_0)
                (try rw [show 0 * 1 = 0 from rfl] at hw592_0)
                (try rw [Addr.add_zero'] at hw592_0)
                obtain rfl : ad591 = ad592 := (by injection e592)
                have qi592 : (0 < l2.length) = True := eq_true (by omega)
                (try rw [show ((0 : Int)).toNat = 0 from rfl] at hx592_0)
                (try rw [Addr.add_zero'] at hx592_0)
                replace hx592_0 := (HB.out.cell (World.block_lt_of_cell? w _ hx592_0)).trans hx592_0
                replace p592 := eq_true p592
                replace q592 := eq_true q592
                refine start_ (n := 15) (S := fun w' => w'.cell? (ad591.add ((ji32)).toNat) = some (.int .i64 (rd l2 (ji32))) ∧ w'.cell? ad591 = some (.int .i64 (rd l2 0))) (ds := []) #[false, false, false, false, false, false, false, false, false, false, false, false, false, false, false] (by kernel_rfl) rfl rfl ⟨((HB.out.cell (World.block_lt_of_cell? w _ hw591_0)).trans hw591_0), ((HB.out.cell (World.block_lt_of_cell? w _ hw592_0)).trans hw592_0)⟩ (fun hHeld => ?_); refine with_tabW spilelaw12_StandingCylinders.tab14 spilelaw12_StandingCylinders.bits14 (fun HT_ HW_ => ?_)
                generalize w40.drew = w41 at HO_49 HO_581002 BK580 BK590 HB hx591_0 hx592_0 hHeld ⊢
                refine GS.pu 0 (some 56) HT_.out ?_
                refine GS.pu 1 (some 57) HT_.out ?_
                refine GS.pu 2 (some 58) HT_.out ?_
                refine GS.pu 3 (some 59) HT_.out ?_
                refine GS.pu 4 (some 60) HT_.out ?_
                refine GS.pu 5 (some 61) HT_.out ?_
                refine GS.pu 6 (some 62) HT_.out ?_
                refine GS.pu 7 (some 63) HT_.out ?_
                refine GS.pu 9 (some 65) HT_.out ?_
                refine GS.pu 10 (some 66) HT_.out ?_
                refine GS.tk 8 (some 64) HT_.out HW_.out hHeld ?_
                refine GS.tk 11 (some 67) HT_.out HW_.out hHeld ?_
                refine GS.pu 12 (some 68) HT_.out ?_
                refine GS.pu 13 (some 69) HT_.out ?_
                refine GS.pu 14 (some 12) HT_.out ?_
                refine done_ (done_of HT_.out (by kernel_rfl)) ?_
                obtain ⟨hcz42_0, hcz42_1, hfz42_0, hfz42_1⟩ := GS.c2 BK590.out
                try go_wp2
                go_roundg k2
                case measure => have := HJ10.out; have := HK2.out; omega
                case rel => exact ⟨(ji32), (by first | rfl | (simp; done) | (simp only [← hji32] <;> (first | rfl | simp)) | (simp [*]; done)), H', ⟨by have := HJ10.out; have := HK2.out; omega⟩, ⟨by (with_reducible repeat (first | apply Kd.R_alloc | apply Kd.R_drewN | apply Kd.R_drew)); exact Kd.R_mono HO_49.out (fun _ hk => trivial)⟩, ⟨by (with_reducible repeat (first | apply Kd.R_alloc | apply Kd.R_drewN | apply Kd.R_drew)); exact HO_581002.out⟩, ⟨GS.bqX BK580.out⟩, ⟨GS.lB HB.out⟩⟩
              ·rw [if_neg c35] at H
               exact absurd H (by simp)
             ·rw [if_neg c34] at H
              exact absurd H (by simp)
            ·rw [if_neg c33] at H
             exact absurd H (by simp)
           ·rw [if_neg c31] at H
            exact absurd H (by simp)
          ·rw [if_neg c30] at H
           exact absurd H (by simp)
         ·rw [if_neg c29] at H
          have c29b0 : decide (x51_2 < (t584.length : Int)) = false := decide_eq_false c29
          clear c29
          obtain rfl := Option.some.inj H
          go_wp2
          go_ret
          exact ⟨by first | rfl | (simp [errW_none, errW_some] <;> rfl) | (simp [*, errW_none, errW_some] <;> rfl), GS.lB HB.out⟩
   ·rw [if_neg c10] at H
    have c10b0 : (t587 == 0) = false := beq_eq_false_iff_ne.mpr c10
    try simp only [beq_self_eq_true, Bool.not_true, Bool.false_or, Bool.true_and] at c10b0
    have c10b1 : (t587 != 0) = true := bne_iff_ne.mpr c10
    obtain rfl := Option.some.inj H
    go_enter Try.func7, Try.ntmps7
    try go_wp2_with (first | ((with_reducible refine gqC (f := 10) rfl ?_); refine GS.gL (some 13) Try.func10 #[] ?_; (with_reducible refine (spilelaw12_awake.calls k  true _ A4.out).mono ?_); rintro e w43 ⟨rfl, hb⟩; refine ⟨_, rfl, ?_⟩; have n0_ := Aside0.mk (lqT (GS.lB HB.out) hb); clear HB; have HB := n0_; clear n0_; (try clear hb); (try clear hb2); (try clear hk); (try clear hi)) | ((with_reducible refine gqD (N := 23) rfl ?_); (try (refine gate_guard (by rfl) ?_; dsimp only)); refine Kd.R_lit k33 _ 33 ?hg (N := 23) ?hd (xs := ([(⟨0, a0⟩ : S33), (⟨a1, a0⟩ : S33)] : List (S33))) (inner := [.int .i64 0, .int .i64 a0, .int .i64 a1, .int .i64 a0]) (ok := fun _ => True) (okp := fun _ => True) ?hr ?hp (fun _ hk => hk) trivial (Below.refl _ _) (Nat.le_refl _) (by simp) ?_; (case hd => rfl); (case hg => rfl); (case hr => first | (go_simp; done) | (go_simp; rfl)); (case hp => exact (Reps.c2 (show Kd.M k33 _ _ _ (⟨0, a0⟩ : S33) [.int .i64 0, .int .i64 a0] from (k33_mkM _ _ _ (⟨0, a0⟩ : S33) )) (Reps.c2 (show Kd.M k33 _ _ _ (⟨a1, a0⟩ : S33) [.int .i64 a1, .int .i64 a0] from (k33_mkM _ _ _ (⟨a1, a0⟩ : S33) )) (Reps.none _ _)))); intro v578 w44 ho45 hb hg_ hnew_; clear hg_ hnew_; (first | rw [← Ny577.out] at ho45 | (simp only [Int.reduceToNat] at ho45; rw [← Ny577.out] at ho45)); have n0_ := Aside0.mk (Kd.R_lower ho45 (lqZ (GS.lB HB.out))); have n1_ := Aside0.mk (lqT (GS.lB HB.out) hb); clear HB; have HO579 := n0_; have HB := n1_; clear n0_ n1_; clear hb ho45; obtain ⟨Ao46, co46, eo46⟩ := Kd.R_slice HO579.out; subst eo46) | ((with_reducible refine gqD (N := 7) rfl ?_); (try (refine gate_guard (by rfl) ?_; dsimp only)); refine box_event ?hg (N := 7) ?hd (cs := #[.string (⟨#[]⟩ : ByteArray), .int .i64 0, .slice none 0 0, .int .i64 0]) (t := 24) ?hr ?_; (case hd => rfl); (case hg => rfl); (case hr => first | (go_simp; done) | (go_simp; rfl)); intro gb580 hg w47 hbox hb; have n0_ := Aside0.mk (Kd.R_below (GS.rR HO579.out) hb); have n1_ := Aside0.mk (lqT (GS.lB HB.out) hb); have n2_ := Aside0.mk (hbox); have n3_ := Aside0.mk ((by rw [hg]; exact (lqZ (GS.lB HB.out)) : w.heap.size ≤ gb580)); have n4_ := Aside0.mk ((by rw [hg]; exact (lqZ (GS.lB HB.out)) : w.heap.size ≤ gb580)); clear HO579; clear HB; have HO579 := n0_; have HB := n1_; have BK580 := n2_; have GW580 := n3_; have GE580 := n4_; clear n0_ n1_ n2_ n3_ n4_; clear hb hbox hg; obtain ⟨hcz48_0, hcz48_1, hcz48_2, hcz48_3, hfz48_0, hfz48_1, hfz48_2, hfz48_3⟩ := GS.c4 BK580.out))
    have n0_ : Aside0 (Kd.R k33 33 ((((w47.setCell ⟨gb580, 0, none⟩ (.string (⟨#[99]⟩ : ByteArray))).setCell ⟨gb580, 1, none⟩ (.int .i64 2)).setCell ⟨gb580, 2, none⟩ (.slice Ao46 y577.length co46)).setCell ⟨gb580, 3, none⟩ (.int .i64 0)) w.heap.size (fun _ => True) (.slice Ao46 y577.length co46) y577) := ⟨by (with_reducible repeat (first | apply Kd.R_alloc | apply Kd.R_drewN | apply Kd.R_drew)); exact Kd.R_mono (Kd.R_far (p := ⟨gb580, 3, none⟩) (Kd.R_far (p := ⟨gb580, 2, none⟩) (Kd.R_far (p := ⟨gb580, 1, none⟩) (Kd.R_far (p := ⟨gb580, 0, none⟩) (Kd.R_types HO579.out BK580.out (by decide)) (fun _ hk => hk.2) (.string (⟨#[99]⟩ : ByteArray))) (fun _ hk => hk.2) (.int .i64 2)) (fun _ hk => hk.2) (.slice Ao46 y577.length co46)) (fun _ hk => hk.2) (.int .i64 0)) (fun _ hk => trivial)⟩
    have n1_ : Aside0 (((((w47.setCell ⟨gb580, 0, none⟩ (.string (⟨#[99]⟩ : ByteArray))).setCell ⟨gb580, 1, none⟩ (.int .i64 2)).setCell ⟨gb580, 2, none⟩ (.slice Ao46 y577.length co46)).setCell ⟨gb580, 3, none⟩ (.int .i64 0)).heap[gb580]? = some (.cells #[.string (⟨#[99]⟩ : ByteArray), .int .i64 2, .slice Ao46 y577.length co46, .int .i64 0] 24 (0, 0))) := ⟨by (with_reducible repeat (first | refine bqN ?_ _ | refine bqD ?_ | refine bqA ?_ _)); refine bqP (cs := #[.string (⟨#[99]⟩ : ByteArray), .int .i64 2, .slice Ao46 y577.length co46, .int .i64 0]) ?_ 3 _ rfl; (with_reducible repeat (first | refine bqN ?_ _ | refine bqD ?_ | refine bqA ?_ _)); refine bqP (cs := #[.string (⟨#[99]⟩ : ByteArray), .int .i64 2, .slice none 0 0, .int .i64 0]) ?_ 2 _ rfl; (with_reducible repeat (first | refine bqN ?_ _ | refine bqD ?_ | refine bqA ?_ _)); refine bqP (cs := #[.string (⟨#[99]⟩ : ByteArray), .int .i64 0, .slice none 0 0, .int .i64 0]) ?_ 1 _ rfl; (with_reducible repeat (first | refine bqN ?_ _ | refine bqD ?_ | refine bqA ?_ _)); refine bqP (cs := #[.string (⟨#[]⟩ : ByteArray), .int .i64 0, .slice none 0 0, .int .i64 0]) ?_ 0 _ rfl; (with_reducible repeat (first | refine bqN ?_ _ | refine bqD ?_ | refine bqA ?_ _)); exact BK580.out⟩
    have n2_ : Aside0 (Below w.heap.size w ((((w47.setCell ⟨gb580, 0, none⟩ (.string (⟨#[99]⟩ : ByteArray))).setCell ⟨gb580, 1, none⟩ (.int .i64 2)).setCell ⟨gb580, 2, none⟩ (.slice Ao46 y577.length co46)).setCell ⟨gb580, 3, none⟩ (.int .i64 0))) := ⟨GS.lB HB.out⟩
    (try clear HO579)
    (try clear BK580)
    (try clear HB)
    generalize ((((w47.setCell ⟨gb580, 0, none⟩ (.string (⟨#[99]⟩ : ByteArray))).setCell ⟨gb580, 1, none⟩ (.int .i64 2)).setCell ⟨gb580, 2, none⟩ (.slice Ao46 y577.length co46)).setCell ⟨gb580, 3, none⟩ (.int .i64 0)) = w49 at n0_ n1_ n2_ ⊢
    have HO579 := n0_
    have BK580 := n1_
    have HB := n2_
    clear n0_ n1_ n2_
    have n0_ := Aside0.mk (Kd.R_drew HO579.out)
    have n1_ := Aside0.mk (bqD BK580.out)
    have n2_ := Aside0.mk (lqD HB.out)
    clear HO579
    clear BK580
    clear HB
    have HO579 := n0_
    have BK580 := n1_
    have HB := n2_
    clear n0_ n1_ n2_
    refine start_ (n := 9) (S := fun w' => w'.cell? ⟨gb580, 0, none⟩ = some (.string (⟨#[99]⟩ : ByteArray)) ∧ w'.cell? ⟨gb580, 1, none⟩ = some (.int .i64 2) ∧ w'.cell? ⟨gb580, 2, none⟩ = some (.slice Ao46 y577.length co46) ∧ w'.cell? ⟨gb580, 3, none⟩ = some (.int .i64 0)) (ds := []) #[false, false, false, false, false, false, false, false, false] (by kernel_rfl) rfl rfl ⟨(bqC BK580.out 0).trans rfl, (bqC BK580.out 1).trans rfl, (bqC BK580.out 2).trans rfl, (bqC BK580.out 3).trans rfl⟩ (fun hHeld => ?_); refine with_tabW spilelaw12_StandingCylinders.tab6 spilelaw12_StandingCylinders.bits6 (fun HT_ HW_ => ?_)
    generalize w49.drew = w50 at HO579 BK580 HB hHeld ⊢
    refine GS.pu 1 (some 27) HT_.out ?_
    refine GS.tk 0 (some 26) HT_.out HW_.out hHeld ?_
    refine one_ (i := 2) (N := some 28) #[true, true, true, false, false, false, false, false, false] rfl rfl (one_of HT_.out (by kernel_rfl)) (by decide) (fun K hK => ?_)
    refine goes_ Try.func18 (by kernel_rfl) rfl #[.slice A2 l2.length c2] (by rfl) rfl rfl (by (try simp only [List.map_toArray, List.map_cons, List.map_nil]); first | done | rfl | (simp only [List.length_drop, List.length_take]; rfl)) ?_
    with_reducible refine (clone18.calls _ _ l2 t581 _ ?side1 ?side2 A8.out).mono ?_
    (case side1 => exact GS.rC (Kd.C_below HR2.out HB.out))
    (case side2 => exact HC2.out)
    rintro e w51 ⟨v582, rfl, ho0, hb⟩
    refine ⟨_, rfl, ?_⟩
    have n0_ := Aside0.mk (Kd.R_below (GS.rR HO579.out) hb)
    have n1_ := Aside0.mk (Kd.R_lower ho0 (lqZ (GS.lB HB.out)))
    have n2_ := Aside0.mk (bqB (g := gb580) (o := .cells #[.string (⟨#[99]⟩ : ByteArray), .int .i64 2, .slice Ao46 y577.length co46, .int .i64 0] 24 (0, 0)) (GS.bqX BK580.out) hb)
    have n3_ := Aside0.mk (lqT (GS.lB HB.out) hb)
    clear HO579
    clear BK580
    clear HB
    have HO579 := n0_
    have HO583 := n1_
    have BK580 := n2_
    have HB := n3_
    clear n0_ n1_ n2_ n3_
    (try clear hb)
    (try clear hb2)
    (try clear hk)
    (try clear hi)
    (try clear ho0)
    obtain ⟨Ao52, co52, eo52⟩ := Kd.R_slice HO583.out
    (first | subst eo52 | (injection eo52 with f1_ f2_ f3_; have f4_ := f1_.symm; have f5_ := f3_.symm; clear f1_ f2_ f3_; subst f4_; subst f5_))
    refine hK.out _ _ ⟨(bqC BK580.out 0).trans rfl, (bqC BK580.out 1).trans rfl, (bqC BK580.out 2).trans rfl, (bqC BK580.out 3).trans rfl⟩ (fun hHeld => ?_)
    clear hK K
    refine norm_ (a' := ?_) ?_ ?_
    rotate_left
    ·show Act.put _ (some 28) _ = _
     simp only [Act.put, List.setIfInBounds_toArray, List.set_cons_zero, List.set_cons_succ, i64_w, i32_w]
     rfl
    refine one_ (i := 3) (N := some 29) #[true, true, true, true, false, false, false, false, false] rfl rfl (one_of HT_.out (by kernel_rfl)) (by decide) (fun K hK => ?_)
    refine goes_ Try.func22 (by kernel_rfl) rfl #[.agg #[.string (⟨#[99]⟩ : ByteArray), .int .i64 2, .slice Ao46 y577.length co46, .int .i64 0], .slice Ao52 t581.length co52] (by rfl) rfl rfl (by (try simp only [List.map_toArray, List.map_cons, List.map_nil]); first | done | rfl | (simp only [List.length_drop, List.length_take]; rfl)) ?_
    with_reducible refine (standing_Sums.calls k (⟨#[99]⟩ : ByteArray) 2 _ _ y577 0 _ _ t581 t584 t587 _ ?side1 ?side2 ?side3 ?side4 A9.out).mono ?_
    (case side1 => repeat (first | exact (Kd.R_reads' HO579.out).2.2 | (with_reducible refine Kd.C_alloc ?_ _) | (with_reducible refine Kd.C_drewN ?_ _) | (with_reducible refine Kd.C_drew ?_)))
    (case side2 => exact (Kd.R_reads' HO579.out).2.1)
    (case side3 => repeat (first | exact (Kd.R_reads' HO583.out).2.2 | (with_reducible refine Kd.C_alloc ?_ _) | (with_reducible refine Kd.C_drewN ?_ _) | (with_reducible refine Kd.C_drew ?_)))
    (case side4 => exact (Kd.R_reads' HO583.out).2.1)
    rintro e w53 ⟨v585, rfl, ho0, hb⟩
    refine ⟨_, rfl, ?_⟩
    have n0_ := Aside0.mk (Kd.R_below (GS.rR HO579.out) hb)
    have n1_ := Aside0.mk (Kd.R_below (GS.rR HO583.out) hb)
    have n2_ := Aside0.mk (Kd.R_lower ho0 (lqZ (GS.lB HB.out)))
    have n3_ := Aside0.mk (bqB (g := gb580) (o := .cells #[.string (⟨#[99]⟩ : ByteArray), .int .i64 2, .slice Ao46 y577.length co46, .int .i64 0] 24 (0, 0)) (GS.bqX BK580.out) hb)
    have n4_ := Aside0.mk (lqT (GS.lB HB.out) hb)
    clear HO579
    clear HO583
    clear BK580
    clear HB
    have HO579 := n0_
    have HO583 := n1_
    have HO586 := n2_
    have BK580 := n3_
    have HB := n4_
    clear n0_ n1_ n2_ n3_ n4_
    (try clear hb)
    (try clear hb2)
    (try clear hk)
    (try clear hi)
    (try clear ho0)
    refine hK.out _ _ ⟨(bqC BK580.out 0).trans rfl, (bqC BK580.out 1).trans rfl, (bqC BK580.out 2).trans rfl, (bqC BK580.out 3).trans rfl⟩ (fun hHeld => ?_)
    clear hK K
    refine norm_ (a' := ?_) ?_ ?_
    rotate_left
    ·show Act.put _ (some 29) _ = _
     simp only [Act.put, List.setIfInBounds_toArray, List.set_cons_zero, List.set_cons_succ, i64_w, i32_w]
     rfl
    refine GS.pu 4 (some 25) HT_.out ?_
    refine GS.pu 5 (some 30) HT_.out ?_
    refine GS.pu 6 (some 31) HT_.out ?_
    refine GS.pu 7 (some 8) HT_.out ?_
    refine GS.pu 8 (some 9) HT_.out ?_
    refine done_ (done_of HT_.out (by kernel_rfl)) ?_
    obtain ⟨Ao54, co54, eo54⟩ := Kd.R_slice HO586.out
    subst eo54
    try go_wp2
    go_ret
    exact ⟨by first | rfl | (simp [errW_none, errW_some] <;> rfl) | (simp [*, errW_none, errW_some] <;> rfl), GS.lB HB.out⟩
 ·replace c5 := Bool.eq_false_iff.mpr c5
  subst c5
  have H1 : (none) = some r := by rw [if_neg (show ¬ (false = true) by decide)] at H; exact H
  clear H
  have H := H1
  clear H1
  exact absurd H (by simp)

/-- THE ONE PURE STATEMENT of spilelaw12_StandingCylinders: yours. -/
def spilelaw12_StandingCylinders.Pure : Prop := ∀ (a0 : Int) (a1 : Int) (l2 : List Int), (Lit.int .i64 a0).wf = true → (Lit.int .i64 a1).wf = true → l2.length ≤ maxLen → l2.length * 8 ≤ 140737488351232 → (∀ x ∈ l2, (Lit.int .i64 x).wf = true) → ∃ k, spilelaw12_StandingCylinders.f k a0 a1 l2 = some true
theorem spilelaw12_StandingCylinders.walk (P : spilelaw12_StandingCylinders.Pure) (a0 : Int) (a1 : Int) (a2 : Option Addr) (len2 cap2 : Nat) (z2 : List Int) (w : World) (w0 : (Lit.int .i64 a0).wf = true) (w1 : (Lit.int .i64 a1).wf = true) (w2 : (a2 = none ∧ len2 = 0 ∧ cap2 = 0 ∧ z2 = []) ∨ ∃ x, a2 = some x ∧ len2 ≤ cap2 ∧ cap2 ≤ maxLen ∧ z2.length = cap2 ∧ (∀ i, i < z2.length → w.cell? (x.add i) = some (.int .i64 (z2.getD i 0))) ∧ ∀ n ∈ z2, (Lit.int .i64 n).wf = true) (y2 : len2 * 8 ≤ 140737488351232) :
  Calls Try.prog 7 #[.int .i64 a0, .int .i64 a1, .slice a2 len2 cap2] w fun e w' => e = .returned (.bool true) ∧ Below w.heap.size w w' := by
 obtain ⟨l2, rfl, hr2, hm2, hw2, hc2⟩ := ReadsInt.ofRowC w2
 obtain ⟨k, h⟩ := P a0 a1 l2 w0 w1 hm2 y2 hw2
 refine (spilelaw12_StandingCylinders.calls k a0 a1 _ _ l2 true w (Kd.C_of_reads (d := (0 : Int)) (h1 := fun _ => rfl) hr2) hc2 h).mono ?_
 rintro e w' ⟨rfl, hd⟩
 exact ⟨rfl, hd⟩

-- GIVEN: function 48 (capacity_Frustums)

end Go.Proofs.Ytmcmbjkjilcmeaa.K
