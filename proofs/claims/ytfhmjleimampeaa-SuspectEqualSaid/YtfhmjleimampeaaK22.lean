-- PRINTED by print.py (a twelfth state) out of the translation. Not trusted: Lean checks it.
import Derived.Test.YtfhmjleimampeaaK0
import Derived.Test.YtfhmjleimampeaaGPu
import Derived.Test.YtfhmjleimampeaaGShort
import Derived.Test.YtfhmjleimampeaaGSym
import Derived.Test.YtfhmjleimampeaaK3
import Derived.Test.YtfhmjleimampeaaK12
import Derived.Test.YtfhmjleimampeaaGCloneF
import Derived.Test.YtfhmjleimampeaaGSuspects
import Derived.Test.YtfhmjleimampeaaGTrend
namespace Go.Proofs.Ytfhmjleimampeaa.K
open Go.RowKit Go.Proofs.YtfhmjleimampeaaW.PrintWords Go.Proofs.YtfhmjleimampeaaW.PrintLast Go.Proofs.YtfhmjleimampeaaW.PrintMore
attribute [local go_sem] max2_int min2_int max_two min_two max_three min_three max_four min_four   -- for this text's walks alone
set_option linter.unusedVariables false
set_option linter.unusedSimpArgs false

/-! ### spilelaw34_SuspectEqual: function 6 -/
mutual
def spilelaw34_SuspectEqual.l0 : Nat → List (S30) → Int → Int → Int → Int → Option (Bool)
 | 0, _, _, _, _, _ => none
 | k + 1, x0, x1, x2, x26, x27 => if x27 < x26 then (if 0 ≤ x27 then (if x27 < (x0.length : Int) then (spilelaw34_SuspectEqual.l0 k (x0.set (x27 : Int).toNat (⟨(rd_T30 x0 x27).f0, (rd_T30 x0 x27).f1, (rd_T30 x0 x27).f2, x2⟩ : S30)) x1 x2 x26 (wrap64 (x27 + 1))) else (none)) else (none)) else ((clone13.f x0).bind fun t551 => ((suspect_Suspects.f t551 x1 9 10).bind fun bt554 => (if bt554.2 = 0 then (spilelaw34_SuspectEqual.j1 k x0 bt554.1 bt554.2 (decide ((bt554.1.length : Int) > 0))) else (spilelaw34_SuspectEqual.j1 k x0 bt554.1 bt554.2 true))))
def spilelaw34_SuspectEqual.j1 : Nat → List (S30) → List Int → Int → Bool → Option (Bool)
 | 0, _, _, _, _ => none
 | k + 1, x0, x8, x9, x49 => if x49 = true then (if x9 = 0 then (none) else (some ((x8.length : Int) == 0))) else (spilelaw34_SuspectEqual.l1 k x0 x0 (x0.length : Int) 0)
def spilelaw34_SuspectEqual.l1 : Nat → List (S30) → List (S30) → Int → Int → Option (Bool)
 | 0, _, _, _, _ => none
 | k + 1, x0, x57, x58, x59 => if x59 < x58 then (if 0 ≤ x59 then (if x59 < (x57.length : Int) then ((clone13.f x0).bind fun t560 => ((suspect_Test.f t560 1 ((rd_T30 x57 x59).f1)).bind fun bt563 => (if bt563.1 = bt563.2.1 then (if bt563.2.2 = 0 then (spilelaw34_SuspectEqual.j3 k x0 x57 x58 x59 false ((rd_T30 x57 x59).f0) ((rd_T30 x57 x59).f1) ((rd_T30 x57 x59).f2) ((rd_T30 x57 x59).f3)) else (spilelaw34_SuspectEqual.j3 k x0 x57 x58 x59 (bt563.2.2 != 9) ((rd_T30 x57 x59).f0) ((rd_T30 x57 x59).f1) ((rd_T30 x57 x59).f2) ((rd_T30 x57 x59).f3))) else (none)))) else (none)) else (none)) else (some true)
def spilelaw34_SuspectEqual.j3 : Nat → List (S30) → List (S30) → Int → Int → Bool → Int → Int → Int → Int → Option (Bool)
 | 0, _, _, _, _, _, _, _, _, _ => none
 | k + 1, x0, x57, x58, x59, x82, x560000, x560001, x560002, x560003 => if x82 = true then (none) else ((clone13.f x0).bind fun t566 => ((suspect_Trend.f t566 x560001).bind fun bt569 => (if bt569.1 = bt569.2.1 then (if bt569.1 < 1 then (none) else (spilelaw34_SuspectEqual.j4 k x0 x57 x58 x59 (bt569.2.2 != 0))) else (none))))
def spilelaw34_SuspectEqual.j4 : Nat → List (S30) → List (S30) → Int → Int → Bool → Option (Bool)
 | 0, _, _, _, _, _ => none
 | k + 1, x0, x57, x58, x59, x102 => if x102 = true then (none) else (spilelaw34_SuspectEqual.l1 k x0 x57 x58 (wrap64 (x59 + 1)))
end
def spilelaw34_SuspectEqual.f (k : Nat) (l0 : List (S30)) (a1 : Int) (a2 : Int) : Option (Bool) := (spilelaw34_awake.f k).bind fun t546 => (if t546 = true then (if (l0.length : Int) > 14 then (some true) else ((clone13.f l0).bind fun t547 => (spilelaw34_SuspectEqual.l0 k t547 a1 a2 (t547.length : Int) 0))) else (none))
theorem spilelaw34_SuspectEqual.mono_l : ∀ k, (∀ y0 y1 y2 y3 y4, LeO (spilelaw34_SuspectEqual.l0 k y0 y1 y2 y3 y4) (spilelaw34_SuspectEqual.l0 (k + 1) y0 y1 y2 y3 y4)) ∧ (∀ y0 y1 y2 y3, LeO (spilelaw34_SuspectEqual.j1 k y0 y1 y2 y3) (spilelaw34_SuspectEqual.j1 (k + 1) y0 y1 y2 y3)) ∧ (∀ y0 y1 y2 y3, LeO (spilelaw34_SuspectEqual.l1 k y0 y1 y2 y3) (spilelaw34_SuspectEqual.l1 (k + 1) y0 y1 y2 y3)) ∧ (∀ y0 y1 y2 y3 y4 y5 y6 y7 y8, LeO (spilelaw34_SuspectEqual.j3 k y0 y1 y2 y3 y4 y5 y6 y7 y8) (spilelaw34_SuspectEqual.j3 (k + 1) y0 y1 y2 y3 y4 y5 y6 y7 y8)) ∧ (∀ y0 y1 y2 y3 y4, LeO (spilelaw34_SuspectEqual.j4 k y0 y1 y2 y3 y4) (spilelaw34_SuspectEqual.j4 (k + 1) y0 y1 y2 y3 y4))
 | 0 => ⟨fun _ _ _ _ _ r h => by simp [spilelaw34_SuspectEqual.l0] at h, fun _ _ _ _ r h => by simp [spilelaw34_SuspectEqual.j1] at h, fun _ _ _ _ r h => by simp [spilelaw34_SuspectEqual.l1] at h, fun _ _ _ _ _ _ _ _ _ r h => by simp [spilelaw34_SuspectEqual.j3] at h, fun _ _ _ _ _ r h => by simp [spilelaw34_SuspectEqual.j4] at h⟩
 | k + 1 => by
  obtain ⟨ih0, ih1, ih2, ih3, ih4⟩ := spilelaw34_SuspectEqual.mono_l k
  refine ⟨?_, ?_, ?_, ?_, ?_⟩
  ·intro y0 y1 y2 y3 y4
   unfold spilelaw34_SuspectEqual.l0
   repeat' first
   | (with_reducible exact ih0 _ _ _ _ _)
   | (with_reducible exact ih1 _ _ _ _)
   | (with_reducible exact ih2 _ _ _ _)
   | (with_reducible exact ih3 _ _ _ _ _ _ _ _ _)
   | (with_reducible exact ih4 _ _ _ _ _)
   | (with_reducible exact spilelaw34_awake.mono _)
   | (with_reducible exact LeO.refl _)
   | (with_reducible exact LeO.none _)
   | (with_reducible refine LeO.ite ?_ ?_)
   | (with_reducible refine LeO.bind ?_ (fun _ => ?_))
   | exact ih0 _ _ _ _ _
   | exact ih1 _ _ _ _
   | exact ih2 _ _ _ _
   | exact ih3 _ _ _ _ _ _ _ _ _
   | exact ih4 _ _ _ _ _
   | exact spilelaw34_awake.mono _
   | exact LeO.none _
   | refine LeO.ite ?_ ?_
   | refine LeO.bind ?_ (fun _ => ?_)
  ·intro y0 y1 y2 y3
   unfold spilelaw34_SuspectEqual.j1
   repeat' first
   | (with_reducible exact ih0 _ _ _ _ _)
   | (with_reducible exact ih1 _ _ _ _)
   | (with_reducible exact ih2 _ _ _ _)
   | (with_reducible exact ih3 _ _ _ _ _ _ _ _ _)
   | (with_reducible exact ih4 _ _ _ _ _)
   | (with_reducible exact spilelaw34_awake.mono _)
   | (with_reducible exact LeO.refl _)
   | (with_reducible exact LeO.none _)
   | (with_reducible refine LeO.ite ?_ ?_)
   | (with_reducible refine LeO.bind ?_ (fun _ => ?_))
   | exact ih0 _ _ _ _ _
   | exact ih1 _ _ _ _
   | exact ih2 _ _ _ _
   | exact ih3 _ _ _ _ _ _ _ _ _
   | exact ih4 _ _ _ _ _
   | exact spilelaw34_awake.mono _
   | exact LeO.none _
   | refine LeO.ite ?_ ?_
   | refine LeO.bind ?_ (fun _ => ?_)
  ·intro y0 y1 y2 y3
   unfold spilelaw34_SuspectEqual.l1
   repeat' first
   | (with_reducible exact ih0 _ _ _ _ _)
   | (with_reducible exact ih1 _ _ _ _)
   | (with_reducible exact ih2 _ _ _ _)
   | (with_reducible exact ih3 _ _ _ _ _ _ _ _ _)
   | (with_reducible exact ih4 _ _ _ _ _)
   | (with_reducible exact spilelaw34_awake.mono _)
   | (with_reducible exact LeO.refl _)
   | (with_reducible exact LeO.none _)
   | (with_reducible refine LeO.ite ?_ ?_)
   | (with_reducible refine LeO.bind ?_ (fun _ => ?_))
   | exact ih0 _ _ _ _ _
   | exact ih1 _ _ _ _
   | exact ih2 _ _ _ _
   | exact ih3 _ _ _ _ _ _ _ _ _
   | exact ih4 _ _ _ _ _
   | exact spilelaw34_awake.mono _
   | exact LeO.none _
   | refine LeO.ite ?_ ?_
   | refine LeO.bind ?_ (fun _ => ?_)
  ·intro y0 y1 y2 y3 y4 y5 y6 y7 y8
   unfold spilelaw34_SuspectEqual.j3
   repeat' first
   | (with_reducible exact ih0 _ _ _ _ _)
   | (with_reducible exact ih1 _ _ _ _)
   | (with_reducible exact ih2 _ _ _ _)
   | (with_reducible exact ih3 _ _ _ _ _ _ _ _ _)
   | (with_reducible exact ih4 _ _ _ _ _)
   | (with_reducible exact spilelaw34_awake.mono _)
   | (with_reducible exact LeO.refl _)
   | (with_reducible exact LeO.none _)
   | (with_reducible refine LeO.ite ?_ ?_)
   | (with_reducible refine LeO.bind ?_ (fun _ => ?_))
   | exact ih0 _ _ _ _ _
   | exact ih1 _ _ _ _
   | exact ih2 _ _ _ _
   | exact ih3 _ _ _ _ _ _ _ _ _
   | exact ih4 _ _ _ _ _
   | exact spilelaw34_awake.mono _
   | exact LeO.none _
   | refine LeO.ite ?_ ?_
   | refine LeO.bind ?_ (fun _ => ?_)
  ·intro y0 y1 y2 y3 y4
   unfold spilelaw34_SuspectEqual.j4
   repeat' first
   | (with_reducible exact ih0 _ _ _ _ _)
   | (with_reducible exact ih1 _ _ _ _)
   | (with_reducible exact ih2 _ _ _ _)
   | (with_reducible exact ih3 _ _ _ _ _ _ _ _ _)
   | (with_reducible exact ih4 _ _ _ _ _)
   | (with_reducible exact spilelaw34_awake.mono _)
   | (with_reducible exact LeO.refl _)
   | (with_reducible exact LeO.none _)
   | (with_reducible refine LeO.ite ?_ ?_)
   | (with_reducible refine LeO.bind ?_ (fun _ => ?_))
   | exact ih0 _ _ _ _ _
   | exact ih1 _ _ _ _
   | exact ih2 _ _ _ _
   | exact ih3 _ _ _ _ _ _ _ _ _
   | exact ih4 _ _ _ _ _
   | exact spilelaw34_awake.mono _
   | exact LeO.none _
   | refine LeO.ite ?_ ?_
   | refine LeO.bind ?_ (fun _ => ?_)
theorem spilelaw34_SuspectEqual.mono : ∀ a0 a1 a2 k, LeO (spilelaw34_SuspectEqual.f k a0 a1 a2) (spilelaw34_SuspectEqual.f (k + 1) a0 a1 a2) := by
 intro a0 a1 a2 k
 obtain ⟨ih0, ih1, ih2, ih3, ih4⟩ := spilelaw34_SuspectEqual.mono_l k
 unfold spilelaw34_SuspectEqual.f
 repeat' first
   | (with_reducible exact ih0 _ _ _ _ _)
   | (with_reducible exact ih1 _ _ _ _)
   | (with_reducible exact ih2 _ _ _ _)
   | (with_reducible exact ih3 _ _ _ _ _ _ _ _ _)
   | (with_reducible exact ih4 _ _ _ _ _)
   | (with_reducible exact spilelaw34_awake.mono _)
   | (with_reducible exact LeO.refl _)
   | (with_reducible exact LeO.none _)
   | (with_reducible refine LeO.ite ?_ ?_)
   | (with_reducible refine LeO.bind ?_ (fun _ => ?_))
   | exact ih0 _ _ _ _ _
   | exact ih1 _ _ _ _
   | exact ih2 _ _ _ _
   | exact ih3 _ _ _ _ _ _ _ _ _
   | exact ih4 _ _ _ _ _
   | exact spilelaw34_awake.mono _
   | exact LeO.none _
   | refine LeO.ite ?_ ?_
   | refine LeO.bind ?_ (fun _ => ?_)
def spilelaw34_SuspectEqual.T17 : Bool × List (List Nat × List Nat) := (true, [([], []), ([0], [0]), ([], []), ([2], [2]), ([1, 3, 1], [1, 3]), ([4], [4]), ([5], [5]), ([5], [5]), ([5], [5]), ([6, 4, 0, 1, 2, 3, 4, 5, 6], [6]), ([7, 9, 0, 1, 2, 3, 4, 5, 6, 7, 9], [7]), ([8, 10, 0, 1, 2, 3, 4, 5, 6, 7, 8, 9, 10], [8])])
def spilelaw34_SuspectEqual.B17 : List Nat := [0, 1, 0, 4, 15, 31, 63, 63, 63, 127, 767, 2047]
theorem spilelaw34_SuspectEqual.tab17 : rtab .any (opsOf Try.f6 17) = spilelaw34_SuspectEqual.T17 := by kernel_rfl
theorem spilelaw34_SuspectEqual.bits17 : waitsOk spilelaw34_SuspectEqual.T17.2 spilelaw34_SuspectEqual.B17 = true := by kernel_rfl
def spilelaw34_SuspectEqual.T20 : Bool × List (List Nat × List Nat) := (true, [([], []), ([0], [0]), ([], []), ([2], [2]), ([1, 3, 1], [1, 3]), ([4], [4]), ([5], [5]), ([5], [5]), ([5], [5]), ([6, 4, 0, 1, 2, 3, 4, 5, 6], [6]), ([7, 9, 0, 1, 2, 3, 4, 5, 6, 7, 9], [7]), ([8, 10, 0, 1, 2, 3, 4, 5, 6, 7, 8, 9, 10], [8])])
def spilelaw34_SuspectEqual.B20 : List Nat := [0, 1, 0, 4, 15, 31, 63, 63, 63, 127, 767, 2047]
theorem spilelaw34_SuspectEqual.tab20 : rtab .any (opsOf Try.f6 20) = spilelaw34_SuspectEqual.T20 := by kernel_rfl
theorem spilelaw34_SuspectEqual.bits20 : waitsOk spilelaw34_SuspectEqual.T20.2 spilelaw34_SuspectEqual.B20 = true := by kernel_rfl
set_option maxHeartbeats 8000000 in
set_option maxRecDepth 100000 in
theorem spilelaw34_SuspectEqual.calls (k : Nat) (A0 : Option Addr) (c0 : Nat) (l0 : List (S30)) (a1 : Int) (a2 : Int) (r : Bool) (w : World) (hr0 : Kd.C k30 w A0 l0.length l0) (hc0 : l0.length ≤ c0) (h : spilelaw34_SuspectEqual.f k l0 a1 a2 = some r) :
  Calls Try.prog 6 #[.slice A0 l0.length c0, .int .i64 a1, .int .i64 a2] w fun e w' => e = .returned (.bool r) ∧ Below w.heap.size w w' := by
 have hu30 := Try.underlying30
 have HR0 := Aside0.mk hr0
 have HC0 := Aside0.mk hc0
 clear hr0 hc0
 have HB := Aside0.mk (Below.refl w.heap.size w)
 have H : ((spilelaw34_awake.f k).bind fun t546 => (if t546 = true then (if (l0.length : Int) > 14 then (some true) else ((clone13.f l0).bind fun t547 => (spilelaw34_SuspectEqual.l0 k t547 a1 a2 (t547.length : Int) 0))) else (none))) = some r := h
 clear h
 replace H := Option.bind_eq_some_iff.mp H
 obtain ⟨t546, A40, H⟩ := H
 replace H : (if t546 = true then (if (l0.length : Int) > 14 then (some true) else ((clone13.f l0).bind fun t547 => (spilelaw34_SuspectEqual.l0 k t547 a1 a2 (t547.length : Int) 0))) else (none)) = some r := H
 have A4 := Aside0.mk A40
 clear A40
 by_cases c5 : t546 = true
 ·subst c5
  have H1 : (if (l0.length : Int) > 14 then (some true) else ((clone13.f l0).bind fun t547 => (spilelaw34_SuspectEqual.l0 k t547 a1 a2 (t547.length : Int) 0))) = some r := by rw [if_pos rfl] at H; exact H
  clear H
  have H := H1
  clear H1
  by_cases c6 : (l0.length : Int) > 14
  ·rw [if_pos c6] at H
   have c6b0 : decide (14 < (l0.length : Int)) = true := decide_eq_true c6
   have c6b1 : decide (14 < l0.length) = true := decide_eq_true (by omega)
   clear c6
   obtain rfl := Option.some.inj H
   go_enter Try.func6, Try.ntmps6
   go_wp2_with (first | ((with_reducible refine gqC (f := 10) rfl ?_); refine GS.gL (some 18) Try.func10 #[] ?_; (with_reducible refine (spilelaw34_awake.calls k  true _ A4.out).mono ?_); rintro e w7 ⟨rfl, hb⟩; refine ⟨_, rfl, ?_⟩; have n0_ := Aside0.mk (lqT (GS.lB HB.out) hb); clear HB; have HB := n0_; clear n0_; (try clear hb); (try clear hb2); (try clear hk); (try clear hi)))
   go_ret
   exact ⟨by first | rfl | (simp [errW_none, errW_some] <;> rfl) | (simp [*, errW_none, errW_some] <;> rfl), GS.lB HB.out⟩
  ·rw [if_neg c6] at H
   have c6b0 : decide (14 < (l0.length : Int)) = false := decide_eq_false c6
   have c6b1 : decide (14 < l0.length) = false := decide_eq_false (by omega)
   clear c6
   replace H := Option.bind_eq_some_iff.mp H
   obtain ⟨t547, A80, H⟩ := H
   replace H : (spilelaw34_SuspectEqual.l0 k t547 a1 a2 (t547.length : Int) 0) = some r := H
   have A8 := Aside0.mk A80
   clear A80
   have H' := Aside0.mk H
   clear H
   go_enter Try.func6, Try.ntmps6
   go_wp2_with (first | ((with_reducible refine gqC (f := 10) rfl ?_); refine GS.gL (some 18) Try.func10 #[] ?_; (with_reducible refine (spilelaw34_awake.calls k  true _ A4.out).mono ?_); rintro e w9 ⟨rfl, hb⟩; refine ⟨_, rfl, ?_⟩; have n0_ := Aside0.mk (lqT (GS.lB HB.out) hb); clear HB; have HB := n0_; clear n0_; (try clear hb); (try clear hb2); (try clear hk); (try clear hi)) | ((with_reducible refine gqC (f := 13) rfl ?_); refine GS.gL (some 24) Try.func13 #[.slice A0 l0.length c0] ?_; (with_reducible refine (clone13.calls _ _ l0 t547 _ ?side1 ?side2 A8.out).mono ?_); (case side1 => exact GS.rC (Kd.C_below HR0.out HB.out)); (case side2 => exact HC0.out); rintro e w10 ⟨v548, rfl, ho0, hb⟩; refine ⟨_, rfl, ?_⟩; have n0_ := Aside0.mk (Kd.R_lower ho0 (lqZ (GS.lB HB.out))); have n1_ := Aside0.mk (lqT (GS.lB HB.out) hb); clear HB; have HO549 := n0_; have HB := n1_; clear n0_ n1_; (try clear hb); (try clear hb2); (try clear hk); (try clear hi); (try clear ho0); obtain ⟨Ao11, co11, eo11⟩ := Kd.R_slice HO549.out; subst eo11))
   go_loopg [27] k (fun kq v27 w' => ∃ (x0_1 : List (S30)) (x27_1 : Int), v27 = .int .i64 x27_1 ∧ Aside0 (spilelaw34_SuspectEqual.l0 kq x0_1 a1 a2 (t547.length : Int) x27_1 = some r) ∧ Aside0 (kq ≤ k) ∧ Aside0 (Kd.R k30 30 w' w.heap.size (fun _ => True) (.slice Ao11 t547.length co11) x0_1) ∧ Aside0 (Below w.heap.size w w'))
   case atStart => exact ⟨(t547), (0), (by first | rfl | (simp; done) | (simp [*]; done)), H', ⟨Nat.le_refl _⟩, ⟨by (with_reducible repeat (first | apply Kd.R_alloc | apply Kd.R_drewN | apply Kd.R_drew)); exact HO549.out⟩, ⟨GS.lB HB.out⟩⟩
   case round =>
    clear H'
    try clear c1
    try clear p2
    try clear c5
    try clear c6
    try clear c6b0
    try clear c6b1
    try clear c10
    obtain ⟨x0_1, x27_1, rfl, HA, HK1, HO_0, HB⟩ := hrel
    have hl0_1 := (Kd.R_reads' HO_0.out).1
    rw [hl0_1] at HO_0
    (try simp only [hl0_1])
    cases gk with
    | zero => exact absurd HA.out (by simp [spilelaw34_SuspectEqual.l0])
    | succ k1 =>
     have H := HA.out
     clear HA
     simp only [spilelaw34_SuspectEqual.l0] at H
     by_cases c12 : x27_1 < (t547.length : Int)
     ·rw [if_pos c12] at H
      have c12b0 : decide (x27_1 < (t547.length : Int)) = true := decide_eq_true c12
      have c12b9 : decide (x27_1 < (x0_1.length : Int)) = true := by rw [← hl0_1]; exact c12b0
      clear c12
      by_cases c13 : 0 ≤ x27_1
      ·rw [if_pos c13] at H
       have c13b0 : decide (0 ≤ x27_1) = true := decide_eq_true c13
       clear c13
       by_cases c14 : x27_1 < (x0_1.length : Int)
       ·rw [if_pos c14] at H
        have c14b0 : decide (x27_1 < (x0_1.length : Int)) = true := decide_eq_true c14
        clear c14
        obtain ⟨y550, hy550⟩ : ∃ y_ : List (S30), y_ = (x0_1.set (x27_1 : Int).toNat (⟨(rd_T30 x0_1 x27_1).f0, (rd_T30 x0_1 x27_1).f1, (rd_T30 x0_1 x27_1).f2, a2⟩ : S30)) := ⟨_, rfl⟩
        replace H : (spilelaw34_SuspectEqual.l0 k1 y550 a1 a2 (t547.length : Int) (wrap64 (x27_1 + 1))) = some r := by first | (rw [hy550]; with_reducible exact H) | (have H2_ := (Option.bind_some _ _).symm.trans H; rw [hy550]; with_reducible exact H2_) | (have H2_ := (Option.bind_some _ _).symm.trans H; with_reducible exact H2_) | with_reducible exact H | (rw [hy550]; exact H) | exact H
        have Ny550 := Aside0.mk hy550
        clear hy550
        have H' := Aside0.mk H
        clear H
        have p15 : 0 ≤ (x27_1 : Int) := of_decide_eq_true (by first | (with_reducible assumption) | assumption)
        have q15 : (x27_1 : Int) < ((x0_1.length : Int) : Int) := of_decide_eq_true (by first | (with_reducible assumption) | assumption)
        obtain ⟨go15, co15, eo15, gb15, gl15, cl15, HG15⟩ := Kd.R_form HO_0.out (by omega)
        (first | cases eo15 | (injection eo15 with ea_ en_ ec_; (first | subst ea_ | (injection ea_ with ea_; subst ea_)); subst ec_; clear en_))
        have GB15 := Aside0.mk gb15
        have GG15 := Aside0.mk HG15
        clear gb15 gl15 HG15
        obtain ⟨ce15, hcl15, hM15, hcc15, hfr15⟩ := Kd.R_elem HO_0.out z30 (x27_1 : Int) p15 q15
        obtain rfl := k30_openM hM15
        have hx15_0 : wr.cell? ⟨go15, (x27_1 : Int).toNat * 4, none⟩ = some (.int .i64 ((rd_T30 x0_1 x27_1).f0)) := hcc15 0 _ rfl
        have hx15_1 : wr.cell? ⟨go15, (x27_1 : Int).toNat * 4 + 1, none⟩ = some (.int .i64 ((rd_T30 x0_1 x27_1).f1)) := hcc15 1 _ rfl
        have hx15_2 : wr.cell? ⟨go15, (x27_1 : Int).toNat * 4 + 2, none⟩ = some (.int .i64 ((rd_T30 x0_1 x27_1).f2)) := hcc15 2 _ rfl
        have hx15_3 : wr.cell? ⟨go15, (x27_1 : Int).toNat * 4 + 3, none⟩ = some (.int .i64 ((rd_T30 x0_1 x27_1).f3)) := hcc15 3 _ rfl
        have hf15_0 : wr.frozen? ⟨go15, (x27_1 : Int).toNat * 4, none⟩ = false := hfr15 0
        have hf15_1 : wr.frozen? ⟨go15, (x27_1 : Int).toNat * 4 + 1, none⟩ = false := hfr15 1
        have hf15_2 : wr.frozen? ⟨go15, (x27_1 : Int).toNat * 4 + 2, none⟩ = false := hfr15 2
        have hf15_3 : wr.frozen? ⟨go15, (x27_1 : Int).toNat * 4 + 3, none⟩ = false := hfr15 3
        clear hcl15 hcc15 hfr15 hM15
        replace p15 := eq_true p15
        replace q15 := eq_true q15
        have HX16 := Aside0.mk (show Kd.R k30 30 wr w.heap.size (fun _ => True) (.slice (some ⟨go15, 0, none⟩) x0_1.length co11) x0_1 from (GS.rR HO_0.out))
        obtain ⟨ce16, hcl16, hM16, hcc16, hfr16⟩ := Kd.R_elem HX16.out z30 (x27_1 : Int) (of_decide_eq_true (by first | (with_reducible assumption) | assumption)) (by have h_ : (x27_1 : Int) < ((x0_1.length : Int) : Int) := of_decide_eq_true (by first | (with_reducible assumption) | assumption); first | exact h_ | (have e_ := (Kd.R_reads' HO_0.out).1; omega) | simpa using h_)
        obtain rfl := k30_openM hM16
        have HP16 := Kd.R_seg HX16.out (x27_1 : Int) (of_decide_eq_true (by first | (with_reducible assumption) | assumption)) (by have h_ : (x27_1 : Int) < ((x0_1.length : Int) : Int) := of_decide_eq_true (by first | (with_reducible assumption) | assumption); first | exact h_ | (have e_ := (Kd.R_reads' HO_0.out).1; omega) | simpa using h_) (seg := [.int .i64 a2]) (j := 3) hcl16 hcc16 (show 4 ≤ 4 from by decide) (x' := (⟨(rd_T30 x0_1 x27_1).f0, (rd_T30 x0_1 x27_1).f1, (rd_T30 x0_1 x27_1).f2, a2⟩ : S30)) (k30_mkM _ _ _ (⟨(rd_T30 x0_1 x27_1).f0, (rd_T30 x0_1 x27_1).f1, (rd_T30 x0_1 x27_1).f2, a2⟩ : S30) ) (fun _ hk => hk)
        have hx16_3 := hcc16 3 _ rfl
        (try simp only [show (k30).sz = 4 from rfl, Nat.mul_one, Nat.add_zero] at hx16_3)
        have hf16_3 := hfr16 3
        (try simp only [show (k30).sz = 4 from rfl, Nat.mul_one, Nat.add_zero] at hf16_3)
        clear hcl16 hcc16 hfr16 hM16
        go_wp2_with (first | ((with_reducible refine gate_store (t := 3) (p := 34) rfl ?_); refine store_event (t := 3) (p := 34) (v := ?vo_w17) (w1 := (wr.setCell ⟨go15, (x27_1 : Int).toNat * 4 + 3, none⟩ (.int .i64 a2))) ?hg ?ho ?hn ?hr ?_; (case ho => rfl); (case hg => rfl); (case hn => rfl); (case hr => first | (go_simp; done) | (go_simp; rfl)); intro w17 hw; have hg : wr.grownBy w17 (some go15) := (by rw [hw]; exact HP16.2); have hp_ : Kd.R k30 30 w17 w.heap.size (fun _ => True) (.slice (some ⟨go15, 0, none⟩) x0_1.length co11) y550 := (by rw [hw, Ny550.out]; exact HP16.1); clear HP16; have n0_ := Aside0.mk (hp_); have n1_ := Aside0.mk ((by rw [hw]; exact lqS (HB.out) GB15.out : Below w.heap.size w w17)); clear HO_0; clear HB; have HO_0 := n0_; have HB := n1_; clear n0_ n1_; clear hg hw hp_))
        (try simp only [← hl0_1])
        go_roundg k1
        case measure => have := HK1.out; omega
        case rel => exact ⟨(y550), (wrap64 (x27_1 + 1)), (by first | rfl | (simp; done) | (simp [*]; done)), H', ⟨by have := HK1.out; omega⟩, ⟨by (try simp only [hl0_1]); (with_reducible repeat (first | apply Kd.R_alloc | apply Kd.R_drewN | apply Kd.R_drew)); exact HO_0.out⟩, ⟨GS.lB HB.out⟩⟩
       ·rw [if_neg c14] at H
        exact absurd H (by simp)
      ·rw [if_neg c13] at H
       exact absurd H (by simp)
     ·rw [if_neg c12] at H
      have c12b0 : decide (x27_1 < (t547.length : Int)) = false := decide_eq_false c12
      have c12b9 : decide (x27_1 < (x0_1.length : Int)) = false := by rw [← hl0_1]; exact c12b0
      clear c12
      replace H := Option.bind_eq_some_iff.mp H
      obtain ⟨t551, A180, H⟩ := H
      replace H : ((suspect_Suspects.f t551 a1 9 10).bind fun bt554 => (if bt554.2 = 0 then (spilelaw34_SuspectEqual.j1 k1 x0_1 bt554.1 bt554.2 (decide ((bt554.1.length : Int) > 0))) else (spilelaw34_SuspectEqual.j1 k1 x0_1 bt554.1 bt554.2 true))) = some r := H
      have A18 := Aside0.mk A180
      clear A180
      replace H := Option.bind_eq_some_iff.mp H
      obtain ⟨⟨t554, t555⟩, A190, H⟩ := H
      replace H : (if t555 = 0 then (spilelaw34_SuspectEqual.j1 k1 x0_1 t554 t555 (decide ((t554.length : Int) > 0))) else (spilelaw34_SuspectEqual.j1 k1 x0_1 t554 t555 true)) = some r := H
      have A19 := Aside0.mk A190
      clear A190
      have HC20 := Aside0.mk H
      clear H
      go_upto_region 12 with (first | ((with_reducible refine gqC (f := 13) rfl ?_); refine GS.gL (some 38) Try.func13 #[.slice Ao11 x0_1.length co11] ?_; (with_reducible refine (clone13.calls _ _ x0_1 t551 _ ?side1 ?side2 A18.out).mono ?_); (case side1 => repeat (first | exact (Kd.R_reads' HO_0.out).2.2 | (with_reducible refine Kd.C_alloc ?_ _) | (with_reducible refine Kd.C_drewN ?_ _) | (with_reducible refine Kd.C_drew ?_))); (case side2 => exact (Kd.R_reads' HO_0.out).2.1); rintro e w21 ⟨v552, rfl, ho0, hb⟩; refine ⟨_, rfl, ?_⟩; have n0_ := Aside0.mk (Kd.R_elder' (GS.rR HO_0.out) (Kd.R_base ho0) hb); have n1_ := Aside0.mk (Kd.R_lower (Kd.R_new' ho0 (Kd.R_lt (GS.rR HO_0.out))) (lqZ (GS.lB HB.out))); have n2_ := Aside0.mk (lqT (GS.lB HB.out) hb); clear HO_0; clear HB; have HO_0 := n0_; have HO553 := n1_; have HB := n2_; clear n0_ n1_ n2_; (try clear hb); (try clear hb2); (try clear hk); (try clear hi); (try clear ho0); obtain ⟨Ao22, co22, eo22⟩ := Kd.R_slice HO553.out; subst eo22) | ((with_reducible refine gqC (f := 25) rfl ?_); refine GS.gL (some 40) Try.func25 #[.slice Ao22 t551.length co22, .int .i64 a1, .int .i64 9, .int .i64 10] ?_; (with_reducible refine (suspect_Suspects.calls _ _ t551 a1 9 10 t554 t555 _ ?side1 ?side2 A19.out).mono ?_); (case side1 => repeat (first | exact (Kd.R_reads' HO553.out).2.2 | (with_reducible refine Kd.C_alloc ?_ _) | (with_reducible refine Kd.C_drewN ?_ _) | (with_reducible refine Kd.C_drew ?_))); (case side2 => exact (Kd.R_reads' HO553.out).2.1); rintro e w23 ⟨v556, rfl, ho0, hb⟩; refine ⟨_, rfl, ?_⟩; have n0_ := Aside0.mk (Kd.R_below (GS.rR HO_0.out) hb); have n1_ := Aside0.mk (Kd.R_below (GS.rR HO553.out) hb); have n2_ := Aside0.mk (Kd.R_lower ho0 (lqZ (GS.lB HB.out))); have n3_ := Aside0.mk (lqT (GS.lB HB.out) hb); clear HO_0; clear HO553; clear HB; have HO_0 := n0_; have HO553 := n1_; have HO557 := n2_; have HB := n3_; clear n0_ n1_ n2_ n3_; (try clear hb); (try clear hb2); (try clear hk); (try clear hi); (try clear ho0)))
      (try simp only [Act.put, List.setIfInBounds_toArray, List.set_cons_zero, List.set_cons_succ])
      go_cut [49] (fun v49 wc => ∃ (kq : Nat) (x49_19 : Bool), v49 = .bool x49_19 ∧ Aside0 (spilelaw34_SuspectEqual.j1 kq x0_1 t554 t555 x49_19 = some r) ∧ Aside0 (kq ≤ k1) ∧ Aside0 (Kd.R k30 30 wc w.heap.size (fun _ => True) (.slice Ao11 x0_1.length co11) x0_1) ∧ Aside0 (Kd.R (Kd.int .i64) 3 wc w.heap.size (fun _ => True) v556 t554) ∧ Aside0 (Below w.heap.size w wc))
      case first =>
       have H := HC20.out
       clear HC20
       by_cases c24 : t555 = 0
       ·rw [if_pos c24] at H
        have c24b0 : (t555 == 0) = true := beq_iff_eq.mpr c24
        try simp only [beq_self_eq_true, Bool.not_true, Bool.false_or, Bool.true_and] at c24b0
        have c24b1 : (t555 != 0) = false := bne_eq_false_iff_eq.mpr c24
        clear c24
        (first | rw [c24b0] | (simp only [i64_w, i32_w]; rw [c24b0]) | skip)
        have H' := Aside0.mk H
        clear H
        obtain ⟨Ao25, co25, eo25⟩ := Kd.R_slice HO557.out
        subst eo25
        go_wp2
        go_meet
        case rel => exact ⟨_, (decide ((t554.length : Int) > 0)), (by first | rfl | (simp; done) | (simp [*]; done)), H', ⟨by have := HK1.out; first | omega | exact Nat.le_refl _⟩, ⟨by (try simp only [hl0_1]); (with_reducible repeat (first | apply Kd.R_alloc | apply Kd.R_drewN | apply Kd.R_drew)); exact Kd.R_mono HO_0.out (fun _ hk => trivial)⟩, ⟨by (try simp only [hl0_1]); (with_reducible repeat (first | apply Kd.R_alloc | apply Kd.R_drewN | apply Kd.R_drew)); exact HO557.out⟩, ⟨GS.lB HB.out⟩⟩
       ·rw [if_neg c24] at H
        have c24b0 : (t555 == 0) = false := beq_eq_false_iff_ne.mpr c24
        try simp only [beq_self_eq_true, Bool.not_true, Bool.false_or, Bool.true_and] at c24b0
        have c24b1 : (t555 != 0) = true := bne_iff_ne.mpr c24
        (first | rw [c24b0] | (simp only [i64_w, i32_w]; rw [c24b0]) | skip)
        have H' := Aside0.mk H
        clear H
        go_wp2
        go_meet
        case rel => exact ⟨_, (true), (by first | rfl | (simp; done) | (simp [*]; done)), H', ⟨by have := HK1.out; first | omega | exact Nat.le_refl _⟩, ⟨by (try simp only [hl0_1]); (with_reducible repeat (first | apply Kd.R_alloc | apply Kd.R_drewN | apply Kd.R_drew)); exact Kd.R_mono HO_0.out (fun _ hk => trivial)⟩, ⟨by (try simp only [hl0_1]); (with_reducible repeat (first | apply Kd.R_alloc | apply Kd.R_drewN | apply Kd.R_drew)); exact HO557.out⟩, ⟨GS.lB HB.out⟩⟩
      case rest =>
       clear HC20
       try clear c1
       try clear p1
       try clear q1
       try clear hx1
       try clear c2
       try clear p2
       try clear c5
       try clear c6
       try clear c6b0
       try clear c6b1
       try clear p6
       try clear c10
       try clear c12
       try clear c12b0
       try clear c13
       try clear c13b0
       try clear c14
       try clear c14b0
       try clear c15
       try clear p15
       try clear q15
       try clear hx15
       try clear hf15
       try clear c16
       try clear hx16
       try clear hf16
       try clear c24
       try clear c24b0
       try clear c24b1
       try clear c25
       try clear hx15_0
       try clear hx15_1
       try clear hx15_2
       try clear hx15_3
       try clear hx16_3
       try clear p15
       try clear p2
       try clear q15
       obtain ⟨kq, x49_19, rfl, HA, HJ19, HO_0, HO_8, HB⟩ := hcut
       cases kq with
       | zero => exact absurd HA.out (by simp [spilelaw34_SuspectEqual.j1])
       | succ kj19 =>
        have H := HA.out
        clear HA
        simp only [spilelaw34_SuspectEqual.j1] at H
        by_cases c26 : x49_19 = true
        ·subst c26
         have H1 : (if t555 = 0 then (none) else (some ((t554.length : Int) == 0))) = some r := by rw [if_pos rfl] at H; exact H
         clear H
         have H := H1
         clear H1
         by_cases c27 : t555 = 0
         ·rw [if_pos c27] at H
          exact absurd H (by simp)
         ·rw [if_neg c27] at H
          have c27b0 : (t555 == 0) = false := beq_eq_false_iff_ne.mpr c27
          try simp only [beq_self_eq_true, Bool.not_true, Bool.false_or, Bool.true_and] at c27b0
          have c27b1 : (t555 != 0) = true := bne_iff_ne.mpr c27
          obtain rfl := Option.some.inj H
          obtain ⟨Ao28, co28, eo28⟩ := Kd.R_slice HO_8.out
          subst eo28
          go_wp2
          go_ret
          exact ⟨by first | rfl | (simp [errW_none, errW_some] <;> rfl) | (simp [*, errW_none, errW_some] <;> rfl), GS.lB HB.out⟩
        ·replace c26 := Bool.eq_false_iff.mpr c26
         subst c26
         have H1 : (spilelaw34_SuspectEqual.l1 kj19 x0_1 x0_1 (x0_1.length : Int) 0) = some r := by rw [if_neg (show ¬ (false = true) by decide)] at H; exact H
         clear H
         have H := H1
         clear H1
         have H' := Aside0.mk H
         clear H
         go_wp2
         go_loopg [59] kj19 (fun kq v59 w' => ∃ (x59_3 : Int), v59 = .int .i64 x59_3 ∧ Aside0 (spilelaw34_SuspectEqual.l1 kq x0_1 x0_1 (x0_1.length : Int) x59_3 = some r) ∧ Aside0 (kq ≤ kj19) ∧ Aside0 (Kd.R k30 30 w' w.heap.size (fun _ => True) (.slice Ao11 x0_1.length co11) x0_1) ∧ Aside0 (Kd.R k30 30 w' w.heap.size (fun _ => True) (.slice Ao11 x0_1.length co11) x0_1) ∧ Aside0 (Below w.heap.size w w'))
         case atStart => exact ⟨(0), (by first | rfl | (simp; done) | (simp [*]; done)), H', ⟨Nat.le_refl _⟩, ⟨by (try simp only [hl0_1]); (with_reducible repeat (first | apply Kd.R_alloc | apply Kd.R_drewN | apply Kd.R_drew)); exact HO_0.out⟩, ⟨by (try simp only [hl0_1]); (with_reducible repeat (first | apply Kd.R_alloc | apply Kd.R_drewN | apply Kd.R_drew)); exact HO_0.out⟩, ⟨GS.lB HB.out⟩⟩
         case round =>
          clear H'
          try clear c1
          try clear p1
          try clear q1
          try clear hx1
          try clear c2
          try clear p2
          try clear c5
          try clear c6
          try clear c6b0
          try clear c6b1
          try clear p6
          try clear c10
          try clear c12
          try clear c12b0
          try clear c13
          try clear c13b0
          try clear c14
          try clear c14b0
          try clear c15
          try clear p15
          try clear q15
          try clear hx15
          try clear hf15
          try clear c16
          try clear hx16
          try clear hf16
          try clear c24
          try clear c24b0
          try clear c24b1
          try clear c25
          try clear c26
          try clear c27
          try clear c27b0
          try clear c27b1
          try clear hx15_0
          try clear hx15_1
          try clear hx15_2
          try clear hx15_3
          try clear hx16_3
          try clear p1
          try clear p15
          try clear p2
          try clear p6
          try clear q1
          try clear q15
          obtain ⟨x59_3, rfl, HA, HK3, HO_0, HO_57, HB⟩ := hrel
          cases gk with
          | zero => exact absurd HA.out (by simp [spilelaw34_SuspectEqual.l1])
          | succ k3 =>
           have H := HA.out
           clear HA
           simp only [spilelaw34_SuspectEqual.l1] at H
           by_cases c29 : x59_3 < (x0_1.length : Int)
           ·rw [if_pos c29] at H
            have c29b0 : decide (x59_3 < (x0_1.length : Int)) = true := decide_eq_true c29
            clear c29
            by_cases c30 : 0 ≤ x59_3
            ·rw [if_pos c30] at H
             have c30b0 : decide (0 ≤ x59_3) = true := decide_eq_true c30
             clear c30
             by_cases c31 : x59_3 < (x0_1.length : Int)
             ·rw [if_pos c31] at H
              have c31b0 : decide (x59_3 < (x0_1.length : Int)) = true := decide_eq_true c31
              clear c31
              replace H := Option.bind_eq_some_iff.mp H
              obtain ⟨t560, A320, H⟩ := H
              replace H : ((suspect_Test.f t560 1 ((rd_T30 x0_1 x59_3).f1)).bind fun bt563 => (if bt563.1 = bt563.2.1 then (if bt563.2.2 = 0 then (spilelaw34_SuspectEqual.j3 k3 x0_1 x0_1 (x0_1.length : Int) x59_3 false ((rd_T30 x0_1 x59_3).f0) ((rd_T30 x0_1 x59_3).f1) ((rd_T30 x0_1 x59_3).f2) ((rd_T30 x0_1 x59_3).f3)) else (spilelaw34_SuspectEqual.j3 k3 x0_1 x0_1 (x0_1.length : Int) x59_3 (bt563.2.2 != 9) ((rd_T30 x0_1 x59_3).f0) ((rd_T30 x0_1 x59_3).f1) ((rd_T30 x0_1 x59_3).f2) ((rd_T30 x0_1 x59_3).f3))) else (none))) = some r := H
              have A32 := Aside0.mk A320
              clear A320
              replace H := Option.bind_eq_some_iff.mp H
              obtain ⟨⟨t563, t564, t565⟩, A330, H⟩ := H
              replace H : (if t563 = t564 then (if t565 = 0 then (spilelaw34_SuspectEqual.j3 k3 x0_1 x0_1 (x0_1.length : Int) x59_3 false ((rd_T30 x0_1 x59_3).f0) ((rd_T30 x0_1 x59_3).f1) ((rd_T30 x0_1 x59_3).f2) ((rd_T30 x0_1 x59_3).f3)) else (spilelaw34_SuspectEqual.j3 k3 x0_1 x0_1 (x0_1.length : Int) x59_3 (t565 != 9) ((rd_T30 x0_1 x59_3).f0) ((rd_T30 x0_1 x59_3).f1) ((rd_T30 x0_1 x59_3).f2) ((rd_T30 x0_1 x59_3).f3))) else (none)) = some r := H
              have A33 := Aside0.mk A330
              clear A330
              have HC34 := Aside0.mk H
              clear H
              have p558 : 0 ≤ (x59_3 : Int) := of_decide_eq_true (by first | (with_reducible assumption) | assumption)
              have q558 : x59_3 < (x0_1.length : Int) := of_decide_eq_true (by first | (with_reducible assumption) | assumption)
              obtain ⟨ad558, e558, hx558_0, hx558_1, hx558_2, hx558_3⟩ := at_T30 (Kd.R_reads' HO_57.out).2.2 x59_3 p558 q558
              cases e558
              replace p558 := eq_true p558
              replace q558 := eq_true q558
              try go_wp2_with (first | ((with_reducible refine gqD (N := 11) rfl ?_); (try (refine gate_guard (by rfl) ?_; dsimp only)); refine GS.bx (N := 11) (cs := #[.int .i64 0, .int .i64 0, .int .i64 0, .int .i64 0]) (t := 30) ?_; intro gb559 hg w35 hbox hb; have n0_ := Aside0.mk (Kd.R_below (Kd.R_elderB (GS.rR HO_0.out) gb559 (Nat.le_of_eq hg.symm)) hb); have n1_ := Aside0.mk (Kd.R_below (Kd.R_elderB (GS.rR HO_57.out) gb559 (Nat.le_of_eq hg.symm)) hb); have n2_ := Aside0.mk (lqT (GS.lB HB.out) hb); have n3_ := Aside0.mk (hbox); have n4_ := Aside0.mk ((by rw [hg]; exact (lqZ (GS.lB HB.out)) : w.heap.size ≤ gb559)); have n5_ := Aside0.mk ((by rw [hg]; exact (lqZ (GS.lB HB.out)) : w.heap.size ≤ gb559)); clear HO_0; clear HO_57; clear HB; have HO_0 := n0_; have HO_57 := n1_; have HB := n2_; have BK559 := n3_; have GW559 := n4_; have GE559 := n5_; clear n0_ n1_ n2_ n3_ n4_ n5_; clear hb hbox hg; obtain ⟨hcz36_0, hcz36_1, hcz36_2, hcz36_3, hfz36_0, hfz36_1, hfz36_2, hfz36_3⟩ := GS.c4 BK559.out))
              have n0_ : Aside0 (Kd.R k30 30 ((((w35.setCell ⟨gb559, 0, none⟩ (.int .i64 ((rd_T30 x0_1 x59_3).f0))).setCell ⟨gb559, 1, none⟩ (.int .i64 ((rd_T30 x0_1 x59_3).f1))).setCell ⟨gb559, 2, none⟩ (.int .i64 ((rd_T30 x0_1 x59_3).f2))).setCell ⟨gb559, 3, none⟩ (.int .i64 ((rd_T30 x0_1 x59_3).f3))) w.heap.size (fun k_ => k_ ≠ gb559) (.slice (some ad558) x0_1.length co11) x0_1) := ⟨by (with_reducible repeat (first | apply Kd.R_alloc | apply Kd.R_drewN | apply Kd.R_drew)); exact Kd.R_mono (Kd.R_far (p := ⟨gb559, 3, none⟩) (Kd.R_far (p := ⟨gb559, 2, none⟩) (Kd.R_far (p := ⟨gb559, 1, none⟩) (Kd.R_far (p := ⟨gb559, 0, none⟩) (Kd.R_mono HO_0.out (fun k_ hk => (⟨hk, GS.cj hk⟩ : _ ∧ k_ ≠ gb559))) (fun _ hk => hk.2) (.int .i64 ((rd_T30 x0_1 x59_3).f0))) (fun _ hk => hk.2) (.int .i64 ((rd_T30 x0_1 x59_3).f1))) (fun _ hk => hk.2) (.int .i64 ((rd_T30 x0_1 x59_3).f2))) (fun _ hk => hk.2) (.int .i64 ((rd_T30 x0_1 x59_3).f3))) (fun _ hk => GS.cj hk)⟩
              have n1_ : Aside0 (Kd.R k30 30 ((((w35.setCell ⟨gb559, 0, none⟩ (.int .i64 ((rd_T30 x0_1 x59_3).f0))).setCell ⟨gb559, 1, none⟩ (.int .i64 ((rd_T30 x0_1 x59_3).f1))).setCell ⟨gb559, 2, none⟩ (.int .i64 ((rd_T30 x0_1 x59_3).f2))).setCell ⟨gb559, 3, none⟩ (.int .i64 ((rd_T30 x0_1 x59_3).f3))) w.heap.size (fun k_ => k_ ≠ gb559) (.slice (some ad558) x0_1.length co11) x0_1) := ⟨by (with_reducible repeat (first | apply Kd.R_alloc | apply Kd.R_drewN | apply Kd.R_drew)); exact Kd.R_mono (Kd.R_far (p := ⟨gb559, 3, none⟩) (Kd.R_far (p := ⟨gb559, 2, none⟩) (Kd.R_far (p := ⟨gb559, 1, none⟩) (Kd.R_far (p := ⟨gb559, 0, none⟩) (Kd.R_mono HO_57.out (fun k_ hk => (⟨hk, GS.cj hk⟩ : _ ∧ k_ ≠ gb559))) (fun _ hk => hk.2) (.int .i64 ((rd_T30 x0_1 x59_3).f0))) (fun _ hk => hk.2) (.int .i64 ((rd_T30 x0_1 x59_3).f1))) (fun _ hk => hk.2) (.int .i64 ((rd_T30 x0_1 x59_3).f2))) (fun _ hk => hk.2) (.int .i64 ((rd_T30 x0_1 x59_3).f3))) (fun _ hk => GS.cj hk)⟩
              have n2_ : Aside0 (((((w35.setCell ⟨gb559, 0, none⟩ (.int .i64 ((rd_T30 x0_1 x59_3).f0))).setCell ⟨gb559, 1, none⟩ (.int .i64 ((rd_T30 x0_1 x59_3).f1))).setCell ⟨gb559, 2, none⟩ (.int .i64 ((rd_T30 x0_1 x59_3).f2))).setCell ⟨gb559, 3, none⟩ (.int .i64 ((rd_T30 x0_1 x59_3).f3))).heap[gb559]? = some (.cells #[.int .i64 ((rd_T30 x0_1 x59_3).f0), .int .i64 ((rd_T30 x0_1 x59_3).f1), .int .i64 ((rd_T30 x0_1 x59_3).f2), .int .i64 ((rd_T30 x0_1 x59_3).f3)] 30 (0, 0))) := ⟨GS.bqZ BK559.out⟩
              have n3_ : Aside0 (Below w.heap.size w ((((w35.setCell ⟨gb559, 0, none⟩ (.int .i64 ((rd_T30 x0_1 x59_3).f0))).setCell ⟨gb559, 1, none⟩ (.int .i64 ((rd_T30 x0_1 x59_3).f1))).setCell ⟨gb559, 2, none⟩ (.int .i64 ((rd_T30 x0_1 x59_3).f2))).setCell ⟨gb559, 3, none⟩ (.int .i64 ((rd_T30 x0_1 x59_3).f3)))) := ⟨GS.lB HB.out⟩
              (try clear HO_0)
              (try clear HO_57)
              (try clear BK559)
              (try clear HB)
              generalize ((((w35.setCell ⟨gb559, 0, none⟩ (.int .i64 ((rd_T30 x0_1 x59_3).f0))).setCell ⟨gb559, 1, none⟩ (.int .i64 ((rd_T30 x0_1 x59_3).f1))).setCell ⟨gb559, 2, none⟩ (.int .i64 ((rd_T30 x0_1 x59_3).f2))).setCell ⟨gb559, 3, none⟩ (.int .i64 ((rd_T30 x0_1 x59_3).f3))) = w37 at n0_ n1_ n2_ n3_ ⊢
              have HO_0 := n0_
              have HO_57 := n1_
              have BK559 := n2_
              have HB := n3_
              clear n0_ n1_ n2_ n3_
              have n0_ := Aside0.mk (Kd.R_drew HO_0.out)
              have n1_ := Aside0.mk (Kd.R_drew HO_57.out)
              have n2_ := Aside0.mk (bqD BK559.out)
              have n3_ := Aside0.mk (lqD HB.out)
              clear HO_0
              clear HO_57
              clear BK559
              clear HB
              have HO_0 := n0_
              have HO_57 := n1_
              have BK559 := n2_
              have HB := n3_
              clear n0_ n1_ n2_ n3_
              refine start_ (n := 12) (S := fun w' => w'.cell? ⟨gb559, 0, none⟩ = some (.int .i64 ((rd_T30 x0_1 x59_3).f0)) ∧ w'.cell? ⟨gb559, 1, none⟩ = some (.int .i64 ((rd_T30 x0_1 x59_3).f1)) ∧ w'.cell? ⟨gb559, 2, none⟩ = some (.int .i64 ((rd_T30 x0_1 x59_3).f2)) ∧ w'.cell? ⟨gb559, 3, none⟩ = some (.int .i64 ((rd_T30 x0_1 x59_3).f3))) (ds := []) #[false, false, false, false, false, false, false, false, false, false, false, false] (by kernel_rfl) rfl rfl ⟨(bqC BK559.out 0).trans rfl, (bqC BK559.out 1).trans rfl, (bqC BK559.out 2).trans rfl, (bqC BK559.out 3).trans rfl⟩ (fun hHeld => ?_); refine with_tabW spilelaw34_SuspectEqual.tab17 spilelaw34_SuspectEqual.bits17 (fun HT_ HW_ => ?_)
              generalize w37.drew = w38 at HO_0 HO_57 BK559 HB hHeld ⊢
              refine GS.pu 0 (some 64) HT_.out ?_
              refine GS.pu 2 (some 66) HT_.out ?_
              refine GS.tk 3 (some 67) HT_.out HW_.out hHeld ?_
              refine one_ (i := 1) (N := some 65) #[true, true, true, true, false, false, false, false, false, false, false, false] rfl rfl (one_of HT_.out (by kernel_rfl)) (by decide) (fun K hK => ?_)
              refine goes_ Try.func13 (by kernel_rfl) rfl #[.slice (some ad558) x0_1.length co11] (by rfl) rfl rfl (by (try simp only [List.map_toArray, List.map_cons, List.map_nil]); first | done | rfl | (simp only [List.length_drop, List.length_take]; rfl)) ?_
              with_reducible refine (clone13.calls _ _ x0_1 t560 _ ?side1 ?side2 A32.out).mono ?_
              (case side1 => repeat (first | exact (Kd.R_reads' HO_0.out).2.2 | (with_reducible refine Kd.C_alloc ?_ _) | (with_reducible refine Kd.C_drewN ?_ _) | (with_reducible refine Kd.C_drew ?_)))
              (case side2 => exact (Kd.R_reads' HO_0.out).2.1)
              rintro e w39 ⟨v561, rfl, ho0, hb⟩
              refine ⟨_, rfl, ?_⟩
              have n0_ := Aside0.mk (Kd.R_elder' (GS.rR HO_0.out) (Kd.R_base ho0) hb)
              have n1_ := Aside0.mk (Kd.R_elder' (GS.rR HO_57.out) (Kd.R_base ho0) hb)
              have n2_ := Aside0.mk (Kd.R_lower (Kd.R_newB (Kd.R_new' (Kd.R_new' ho0 (Kd.R_lt (GS.rR HO_0.out))) (Kd.R_lt (GS.rR HO_57.out))) (GS.bqX BK559.out)) (lqZ (GS.lB HB.out)))
              have n3_ := Aside0.mk (bqB (GS.bqX BK559.out) hb)
              have n4_ := Aside0.mk (lqT (GS.lB HB.out) hb)
              clear HO_0
              clear HO_57
              clear BK559
              clear HB
              have HO_0 := n0_
              have HO_57 := n1_
              have HO562 := n2_
              have BK559 := n3_
              have HB := n4_
              clear n0_ n1_ n2_ n3_ n4_
              (try clear hb)
              (try clear hb2)
              (try clear hk)
              (try clear hi)
              (try clear ho0)
              obtain ⟨Ao40, co40, eo40⟩ := Kd.R_slice HO562.out
              (first | subst eo40 | (injection eo40 with f1_ f2_ f3_; have f4_ := f1_.symm; have f5_ := f3_.symm; clear f1_ f2_ f3_; subst f4_; subst f5_))
              refine hK.out _ _ ⟨(bqC BK559.out 0).trans rfl, (bqC BK559.out 1).trans rfl, (bqC BK559.out 2).trans rfl, (bqC BK559.out 3).trans rfl⟩ (fun hHeld => ?_)
              clear hK K
              refine norm_ (a' := ?_) ?_ ?_
              rotate_left
              ·show Act.put _ (some 65) _ = _
               simp only [Act.put, List.setIfInBounds_toArray, List.set_cons_zero, List.set_cons_succ, i64_w, i32_w]
               rfl
              refine one_ (i := 4) (N := some 68) #[true, true, true, true, true, false, false, false, false, false, false, false] rfl rfl (one_of HT_.out (by kernel_rfl)) (by decide) (fun K hK => ?_)
              refine goes_ Try.func21 (by kernel_rfl) rfl #[.slice Ao40 t560.length co40, .int .i64 1, .int .i64 ((rd_T30 x0_1 x59_3).f1)] (by rfl) rfl rfl (by (try simp only [List.map_toArray, List.map_cons, List.map_nil]); first | done | rfl | (simp only [List.length_drop, List.length_take]; rfl)) ?_
              with_reducible refine (suspect_Test.calls _ _ t560 1 ((rd_T30 x0_1 x59_3).f1) t563 t564 t565 _ ?side1 ?side2 A33.out).mono ?_
              (case side1 => repeat (first | exact (Kd.R_reads' HO562.out).2.2 | (with_reducible refine Kd.C_alloc ?_ _) | (with_reducible refine Kd.C_drewN ?_ _) | (with_reducible refine Kd.C_drew ?_)))
              (case side2 => exact (Kd.R_reads' HO562.out).2.1)
              rintro e w41 ⟨rfl, hb⟩
              refine ⟨_, rfl, ?_⟩
              have n0_ := Aside0.mk (Kd.R_below (GS.rR HO_0.out) hb)
              have n1_ := Aside0.mk (Kd.R_below (GS.rR HO_57.out) hb)
              have n2_ := Aside0.mk (Kd.R_below (GS.rR HO562.out) hb)
              have n3_ := Aside0.mk (bqB (GS.bqX BK559.out) hb)
              have n4_ := Aside0.mk (lqT (GS.lB HB.out) hb)
              clear HO_0
              clear HO_57
              clear HO562
              clear BK559
              clear HB
              have HO_0 := n0_
              have HO_57 := n1_
              have HO562 := n2_
              have BK559 := n3_
              have HB := n4_
              clear n0_ n1_ n2_ n3_ n4_
              (try clear hb)
              (try clear hb2)
              (try clear hk)
              (try clear hi)
              refine hK.out _ _ ⟨(bqC BK559.out 0).trans rfl, (bqC BK559.out 1).trans rfl, (bqC BK559.out 2).trans rfl, (bqC BK559.out 3).trans rfl⟩ (fun hHeld => ?_)
              clear hK K
              refine norm_ (a' := ?_) ?_ ?_
              rotate_left
              ·show Act.put _ (some 68) _ = _
               simp only [Act.put, List.setIfInBounds_toArray, List.set_cons_zero, List.set_cons_succ, i64_w, i32_w]
               rfl
              refine GS.pu 5 (some 63) HT_.out ?_
              refine GS.pu 6 (some 69) HT_.out ?_
              refine GS.pu 7 (some 70) HT_.out ?_
              refine GS.pu 8 (some 71) HT_.out ?_
              refine GS.pu 9 (some 12) HT_.out ?_
              refine GS.pu 10 (some 13) HT_.out ?_
              refine GS.pu 11 (some 14) HT_.out ?_
              refine done_ (done_of HT_.out (by kernel_rfl)) ?_
              go_upto_region 18 with (fail)
              go_cut [82] (fun v82 wc => ∃ (kq : Nat) (x82_33 : Bool), v82 = .bool x82_33 ∧ Aside0 (spilelaw34_SuspectEqual.j3 kq x0_1 x0_1 (x0_1.length : Int) x59_3 x82_33 ((rd_T30 x0_1 x59_3).f0) ((rd_T30 x0_1 x59_3).f1) ((rd_T30 x0_1 x59_3).f2) ((rd_T30 x0_1 x59_3).f3) = some r) ∧ Aside0 (kq ≤ k3) ∧ Aside0 (Kd.R k30 30 wc w.heap.size (fun k_ => k_ ≠ gb559) (.slice (some ad558) x0_1.length co11) x0_1) ∧ Aside0 (Kd.R k30 30 wc w.heap.size (fun k_ => k_ ≠ gb559) (.slice (some ad558) x0_1.length co11) x0_1) ∧ Aside0 (wc.heap[gb559]? = some (.cells #[.int .i64 ((rd_T30 x0_1 x59_3).f0), .int .i64 ((rd_T30 x0_1 x59_3).f1), .int .i64 ((rd_T30 x0_1 x59_3).f2), .int .i64 ((rd_T30 x0_1 x59_3).f3)] 30 (0, 0))) ∧ Aside0 (Below w.heap.size w wc))
              case first =>
               have H := HC34.out
               clear HC34
               by_cases c42 : t563 = t564
               ·rw [if_pos c42] at H
                have c42b0 : (t563 == t564) = true := beq_iff_eq.mpr c42
                try simp only [beq_self_eq_true, Bool.not_true, Bool.false_or, Bool.true_and] at c42b0
                have c42b1 : (t563 != t564) = false := bne_eq_false_iff_eq.mpr c42
                clear c42
                (first | rw [c42b0] | (simp only [i64_w, i32_w]; rw [c42b0]) | skip)
                by_cases c43 : t565 = 0
                ·rw [if_pos c43] at H
                 have c43b0 : (t565 == 0) = true := beq_iff_eq.mpr c43
                 try simp only [beq_self_eq_true, Bool.not_true, Bool.false_or, Bool.true_and] at c43b0
                 have c43b1 : (t565 != 0) = false := bne_eq_false_iff_eq.mpr c43
                 clear c43
                 have H' := Aside0.mk H
                 clear H
                 go_wp2
                 go_meet
                 case rel => exact ⟨_, (false), (by first | rfl | (simp; done) | (simp [*]; done)), H', ⟨by have := HK1.out; have := HJ19.out; have := HK3.out; first | omega | exact Nat.le_refl _⟩, ⟨by (try simp only [hl0_1]); (with_reducible repeat (first | apply Kd.R_alloc | apply Kd.R_drewN | apply Kd.R_drew)); exact Kd.R_mono HO_0.out (fun _ hk => GS.cj hk)⟩, ⟨by (try simp only [hl0_1]); (with_reducible repeat (first | apply Kd.R_alloc | apply Kd.R_drewN | apply Kd.R_drew)); exact Kd.R_mono HO_57.out (fun _ hk => GS.cj hk)⟩, ⟨by (try simp only [hl0_1]); (with_reducible repeat (first | refine bqN ?_ _ | refine bqD ?_ | refine bqA ?_ _)); exact BK559.out⟩, ⟨GS.lB HB.out⟩⟩
                ·rw [if_neg c43] at H
                 have c43b0 : (t565 == 0) = false := beq_eq_false_iff_ne.mpr c43
                 try simp only [beq_self_eq_true, Bool.not_true, Bool.false_or, Bool.true_and] at c43b0
                 have c43b1 : (t565 != 0) = true := bne_iff_ne.mpr c43
                 have H' := Aside0.mk H
                 clear H
                 go_wp2
                 go_meet
                 case rel => exact ⟨_, ((t565 != 9)), (by first | rfl | (simp; done) | (simp [*]; done)), H', ⟨by have := HK1.out; have := HJ19.out; have := HK3.out; first | omega | exact Nat.le_refl _⟩, ⟨by (try simp only [hl0_1]); (with_reducible repeat (first | apply Kd.R_alloc | apply Kd.R_drewN | apply Kd.R_drew)); exact Kd.R_mono HO_0.out (fun _ hk => GS.cj hk)⟩, ⟨by (try simp only [hl0_1]); (with_reducible repeat (first | apply Kd.R_alloc | apply Kd.R_drewN | apply Kd.R_drew)); exact Kd.R_mono HO_57.out (fun _ hk => GS.cj hk)⟩, ⟨by (try simp only [hl0_1]); (with_reducible repeat (first | refine bqN ?_ _ | refine bqD ?_ | refine bqA ?_ _)); exact BK559.out⟩, ⟨GS.lB HB.out⟩⟩
               ·rw [if_neg c42] at H
                exact absurd H (by simp)
              case rest =>
               clear HC34
               try clear c1
               try clear p1
               try clear q1
               try clear hx1
               try clear c2
               try clear p2
               try clear c3
               try clear c4
               try clear c5
               try clear p5
               try clear q5
               try clear hx5
               try clear c6
               try clear c6b0
               try clear c6b1
               try clear p6
               try clear c10
               try clear c12
               try clear c12b0
               try clear c13
               try clear c13b0
               try clear c14
               try clear c14b0
               try clear c15
               try clear p15
               try clear q15
               try clear hx15
               try clear hf15
               try clear c16
               try clear hx16
               try clear hf16
               try clear c21
               try clear c24
               try clear c24b0
               try clear c24b1
               try clear c25
               try clear c26
               try clear c27
               try clear c27b0
               try clear c27b1
               try clear c29
               try clear c29b0
               try clear c30
               try clear c30b0
               try clear c31
               try clear c31b0
               try clear c42
               try clear c42b0
               try clear c42b1
               try clear c43
               try clear c43b0
               try clear c43b1
               try clear hcz36_0
               try clear hcz36_1
               try clear hcz36_2
               try clear hcz36_3
               try clear hfz36_0
               try clear hfz36_1
               try clear hfz36_2
               try clear hfz36_3
               try clear hx15_0
               try clear hx15_1
               try clear hx15_2
               try clear hx15_3
               try clear hx16_3
               try clear hx558_0
               try clear hx558_1
               try clear hx558_2
               try clear hx558_3
               try clear p1
               try clear p15
               try clear p2
               try clear p558
               try clear p6
               try clear q1
               try clear q15
               try clear q558
               obtain ⟨kq, x82_33, rfl, HA, HJ33, HO_0, HO_57, BK559, HB⟩ := hcut
               cases kq with
               | zero => exact absurd HA.out (by simp [spilelaw34_SuspectEqual.j3])
               | succ kj33 =>
                have H := HA.out
                clear HA
                simp only [spilelaw34_SuspectEqual.j3] at H
                by_cases c44 : x82_33 = true
                ·subst c44
                 have H1 : (none) = some r := by rw [if_pos rfl] at H; exact H
                 clear H
                 have H := H1
                 clear H1
                 exact absurd H (by simp)
                ·replace c44 := Bool.eq_false_iff.mpr c44
                 subst c44
                 have H1 : ((clone13.f x0_1).bind fun t566 => ((suspect_Trend.f t566 ((rd_T30 x0_1 x59_3).f1)).bind fun bt569 => (if bt569.1 = bt569.2.1 then (if bt569.1 < 1 then (none) else (spilelaw34_SuspectEqual.j4 kj33 x0_1 x0_1 (x0_1.length : Int) x59_3 (bt569.2.2 != 0))) else (none)))) = some r := by rw [if_neg (show ¬ (false = true) by decide)] at H; exact H
                 clear H
                 have H := H1
                 clear H1
                 replace H := Option.bind_eq_some_iff.mp H
                 obtain ⟨t566, A450, H⟩ := H
                 replace H : ((suspect_Trend.f t566 ((rd_T30 x0_1 x59_3).f1)).bind fun bt569 => (if bt569.1 = bt569.2.1 then (if bt569.1 < 1 then (none) else (spilelaw34_SuspectEqual.j4 kj33 x0_1 x0_1 (x0_1.length : Int) x59_3 (bt569.2.2 != 0))) else (none))) = some r := H
                 have A45 := Aside0.mk A450
                 clear A450
                 replace H := Option.bind_eq_some_iff.mp H
                 obtain ⟨⟨t569, t570, t571⟩, A460, H⟩ := H
                 replace H : (if t569 = t570 then (if t569 < 1 then (none) else (spilelaw34_SuspectEqual.j4 kj33 x0_1 x0_1 (x0_1.length : Int) x59_3 (t571 != 0))) else (none)) = some r := H
                 have A46 := Aside0.mk A460
                 clear A460
                 have HC47 := Aside0.mk H
                 clear H
                 try go_wp2
                 have n0_ := Aside0.mk (Kd.R_drew HO_0.out)
                 have n1_ := Aside0.mk (Kd.R_drew HO_57.out)
                 have n2_ := Aside0.mk (bqD BK559.out)
                 have n3_ := Aside0.mk (lqD HB.out)
                 clear HO_0
                 clear HO_57
                 clear BK559
                 clear HB
                 have HO_0 := n0_
                 have HO_57 := n1_
                 have BK559 := n2_
                 have HB := n3_
                 clear n0_ n1_ n2_ n3_
                 refine start_ (n := 12) (S := fun w' => w'.cell? ⟨gb559, 0, none⟩ = some (.int .i64 ((rd_T30 x0_1 x59_3).f0)) ∧ w'.cell? ⟨gb559, 1, none⟩ = some (.int .i64 ((rd_T30 x0_1 x59_3).f1)) ∧ w'.cell? ⟨gb559, 2, none⟩ = some (.int .i64 ((rd_T30 x0_1 x59_3).f2)) ∧ w'.cell? ⟨gb559, 3, none⟩ = some (.int .i64 ((rd_T30 x0_1 x59_3).f3))) (ds := []) #[false, false, false, false, false, false, false, false, false, false, false, false] (by kernel_rfl) rfl rfl ⟨(bqC BK559.out 0).trans rfl, (bqC BK559.out 1).trans rfl, (bqC BK559.out 2).trans rfl, (bqC BK559.out 3).trans rfl⟩ (fun hHeld => ?_); refine with_tabW spilelaw34_SuspectEqual.tab20 spilelaw34_SuspectEqual.bits20 (fun HT_ HW_ => ?_)
                 generalize wc.drew = w48 at HO_0 HO_57 BK559 HB hHeld ⊢
                 refine GS.pu 0 (some 84) HT_.out ?_
                 refine GS.pu 2 (some 86) HT_.out ?_
                 refine GS.tk 3 (some 87) HT_.out HW_.out hHeld ?_
                 refine one_ (i := 1) (N := some 85) #[true, true, true, true, false, false, false, false, false, false, false, false] rfl rfl (one_of HT_.out (by kernel_rfl)) (by decide) (fun K hK => ?_)
                 refine goes_ Try.func13 (by kernel_rfl) rfl #[.slice (some ad558) x0_1.length co11] (by rfl) rfl rfl (by (try simp only [List.map_toArray, List.map_cons, List.map_nil]); first | done | rfl | (simp only [List.length_drop, List.length_take]; rfl)) ?_
                 with_reducible refine (clone13.calls _ _ x0_1 t566 _ ?side1 ?side2 A45.out).mono ?_
                 (case side1 => repeat (first | exact (Kd.R_reads' HO_0.out).2.2 | (with_reducible refine Kd.C_alloc ?_ _) | (with_reducible refine Kd.C_drewN ?_ _) | (with_reducible refine Kd.C_drew ?_)))
                 (case side2 => exact (Kd.R_reads' HO_0.out).2.1)
                 rintro e w49 ⟨v567, rfl, ho0, hb⟩
                 refine ⟨_, rfl, ?_⟩
                 have n0_ := Aside0.mk (Kd.R_elder' (GS.rR HO_0.out) (Kd.R_base ho0) hb)
                 have n1_ := Aside0.mk (Kd.R_elder' (GS.rR HO_57.out) (Kd.R_base ho0) hb)
                 have n2_ := Aside0.mk (Kd.R_lower (Kd.R_newB (Kd.R_new' (Kd.R_new' ho0 (Kd.R_lt (GS.rR HO_0.out))) (Kd.R_lt (GS.rR HO_57.out))) (GS.bqX BK559.out)) (lqZ (GS.lB HB.out)))
                 have n3_ := Aside0.mk (bqB (GS.bqX BK559.out) hb)
                 have n4_ := Aside0.mk (lqT (GS.lB HB.out) hb)
                 clear HO_0
                 clear HO_57
                 clear BK559
                 clear HB
                 have HO_0 := n0_
                 have HO_57 := n1_
                 have HO568 := n2_
                 have BK559 := n3_
                 have HB := n4_
                 clear n0_ n1_ n2_ n3_ n4_
                 (try clear hb)
                 (try clear hb2)
                 (try clear hk)
                 (try clear hi)
                 (try clear ho0)
                 obtain ⟨Ao50, co50, eo50⟩ := Kd.R_slice HO568.out
                 (first | subst eo50 | (injection eo50 with f1_ f2_ f3_; have f4_ := f1_.symm; have f5_ := f3_.symm; clear f1_ f2_ f3_; subst f4_; subst f5_))
                 refine hK.out _ _ ⟨(bqC BK559.out 0).trans rfl, (bqC BK559.out 1).trans rfl, (bqC BK559.out 2).trans rfl, (bqC BK559.out 3).trans rfl⟩ (fun hHeld => ?_)
                 clear hK K
                 refine norm_ (a' := ?_) ?_ ?_
                 rotate_left
                 ·show Act.put _ (some 85) _ = _
                  simp only [Act.put, List.setIfInBounds_toArray, List.set_cons_zero, List.set_cons_succ, i64_w, i32_w]
                  rfl
                 refine one_ (i := 4) (N := some 88) #[true, true, true, true, true, false, false, false, false, false, false, false] rfl rfl (one_of HT_.out (by kernel_rfl)) (by decide) (fun K hK => ?_)
                 refine goes_ Try.func23 (by kernel_rfl) rfl #[.slice Ao50 t566.length co50, .int .i64 ((rd_T30 x0_1 x59_3).f1)] (by rfl) rfl rfl (by (try simp only [List.map_toArray, List.map_cons, List.map_nil]); first | done | rfl | (simp only [List.length_drop, List.length_take]; rfl)) ?_
                 with_reducible refine (suspect_Trend.calls _ _ t566 ((rd_T30 x0_1 x59_3).f1) t569 t570 t571 _ ?side1 ?side2 A46.out).mono ?_
                 (case side1 => repeat (first | exact (Kd.R_reads' HO568.out).2.2 | (with_reducible refine Kd.C_alloc ?_ _) | (with_reducible refine Kd.C_drewN ?_ _) | (with_reducible refine Kd.C_drew ?_)))
                 (case side2 => exact (Kd.R_reads' HO568.out).2.1)
                 rintro e w51 ⟨rfl, hb⟩
                 refine ⟨_, rfl, ?_⟩
                 have n0_ := Aside0.mk (Kd.R_below (GS.rR HO_0.out) hb)
                 have n1_ := Aside0.mk (Kd.R_below (GS.rR HO_57.out) hb)
                 have n2_ := Aside0.mk (Kd.R_below (GS.rR HO568.out) hb)
                 have n3_ := Aside0.mk (bqB (GS.bqX BK559.out) hb)
                 have n4_ := Aside0.mk (lqT (GS.lB HB.out) hb)
                 clear HO_0
                 clear HO_57
                 clear HO568
                 clear BK559
                 clear HB
                 have HO_0 := n0_
                 have HO_57 := n1_
                 have HO568 := n2_
                 have BK559 := n3_
                 have HB := n4_
                 clear n0_ n1_ n2_ n3_ n4_
                 (try clear hb)
                 (try clear hb2)
                 (try clear hk)
                 (try clear hi)
                 refine hK.out _ _ ⟨(bqC BK559.out 0).trans rfl, (bqC BK559.out 1).trans rfl, (bqC BK559.out 2).trans rfl, (bqC BK559.out 3).trans rfl⟩ (fun hHeld => ?_)
                 clear hK K
                 refine norm_ (a' := ?_) ?_ ?_
                 rotate_left
                 ·show Act.put _ (some 88) _ = _
                  simp only [Act.put, List.setIfInBounds_toArray, List.set_cons_zero, List.set_cons_succ, i64_w, i32_w]
                  rfl
                 refine GS.pu 5 (some 83) HT_.out ?_
                 refine GS.pu 6 (some 89) HT_.out ?_
                 refine GS.pu 7 (some 90) HT_.out ?_
                 refine GS.pu 8 (some 91) HT_.out ?_
                 refine GS.pu 9 (some 15) HT_.out ?_
                 refine GS.pu 10 (some 16) HT_.out ?_
                 refine GS.pu 11 (some 17) HT_.out ?_
                 refine done_ (done_of HT_.out (by kernel_rfl)) ?_
                 go_upto_region 21 with (fail)
                 go_cut [102] (fun v102 wc => ∃ (kq : Nat) (x102_46 : Bool), v102 = .bool x102_46 ∧ Aside0 (spilelaw34_SuspectEqual.j4 kq x0_1 x0_1 (x0_1.length : Int) x59_3 x102_46 = some r) ∧ Aside0 (kq ≤ kj33) ∧ Aside0 (Kd.R k30 30 wc w.heap.size (fun k_ => k_ ≠ gb559) (.slice (some ad558) x0_1.length co11) x0_1) ∧ Aside0 (Kd.R k30 30 wc w.heap.size (fun k_ => k_ ≠ gb559) (.slice (some ad558) x0_1.length co11) x0_1) ∧ Aside0 (wc.heap[gb559]? = some (.cells #[.int .i64 ((rd_T30 x0_1 x59_3).f0), .int .i64 ((rd_T30 x0_1 x59_3).f1), .int .i64 ((rd_T30 x0_1 x59_3).f2), .int .i64 ((rd_T30 x0_1 x59_3).f3)] 30 (0, 0))) ∧ Aside0 (Below w.heap.size w wc))
                 case first =>
                  have H := HC47.out
                  clear HC47
                  by_cases c52 : t569 = t570
                  ·rw [if_pos c52] at H
                   have c52b0 : (t569 == t570) = true := beq_iff_eq.mpr c52
                   try simp only [beq_self_eq_true, Bool.not_true, Bool.false_or, Bool.true_and] at c52b0
                   have c52b1 : (t569 != t570) = false := bne_eq_false_iff_eq.mpr c52
                   clear c52
                   (first | rw [c52b0] | (simp only [i64_w, i32_w]; rw [c52b0]) | skip)
                   by_cases c53 : t569 < 1
                   ·rw [if_pos c53] at H
                    exact absurd H (by simp)
                   ·rw [if_neg c53] at H
                    have c53b0 : decide (t569 < 1) = false := decide_eq_false c53
                    clear c53
                    have H' := Aside0.mk H
                    clear H
                    go_wp2
                    go_meet
                    case rel => exact ⟨_, ((t571 != 0)), (by first | rfl | (simp; done) | (simp [*]; done)), H', ⟨by have := HK1.out; have := HJ19.out; have := HK3.out; have := HJ33.out; first | omega | exact Nat.le_refl _⟩, ⟨by (try simp only [hl0_1]); (with_reducible repeat (first | apply Kd.R_alloc | apply Kd.R_drewN | apply Kd.R_drew)); exact Kd.R_mono HO_0.out (fun _ hk => GS.cj hk)⟩, ⟨by (try simp only [hl0_1]); (with_reducible repeat (first | apply Kd.R_alloc | apply Kd.R_drewN | apply Kd.R_drew)); exact Kd.R_mono HO_57.out (fun _ hk => GS.cj hk)⟩, ⟨by (try simp only [hl0_1]); (with_reducible repeat (first | refine bqN ?_ _ | refine bqD ?_ | refine bqA ?_ _)); exact BK559.out⟩, ⟨GS.lB HB.out⟩⟩
                  ·rw [if_neg c52] at H
                   exact absurd H (by simp)
                 case rest =>
                  clear HC47
                  try clear c1
                  try clear p1
                  try clear q1
                  try clear hx1
                  try clear c2
                  try clear p2
                  try clear c3
                  try clear c4
                  try clear c5
                  try clear p5
                  try clear q5
                  try clear hx5
                  try clear c6
                  try clear c6b0
                  try clear c6b1
                  try clear p6
                  try clear c10
                  try clear c12
                  try clear c12b0
                  try clear c13
                  try clear c13b0
                  try clear c14
                  try clear c14b0
                  try clear c15
                  try clear p15
                  try clear q15
                  try clear hx15
                  try clear hf15
                  try clear c16
                  try clear hx16
                  try clear hf16
                  try clear c21
                  try clear c23
                  try clear c24
                  try clear c24b0
                  try clear c24b1
                  try clear c25
                  try clear c26
                  try clear c27
                  try clear c27b0
                  try clear c27b1
                  try clear c29
                  try clear c29b0
                  try clear c30
                  try clear c30b0
                  try clear c31
                  try clear c31b0
                  try clear c42
                  try clear c42b0
                  try clear c42b1
                  try clear c43
                  try clear c43b0
                  try clear c43b1
                  try clear c44
                  try clear c52
                  try clear c52b0
                  try clear c52b1
                  try clear c53
                  try clear c53b0
                  try clear hcz36_0
                  try clear hcz36_1
                  try clear hcz36_2
                  try clear hcz36_3
                  try clear hfz36_0
                  try clear hfz36_1
                  try clear hfz36_2
                  try clear hfz36_3
                  try clear hx15_0
                  try clear hx15_1
                  try clear hx15_2
                  try clear hx15_3
                  try clear hx16_3
                  try clear hx558_0
                  try clear hx558_1
                  try clear hx558_2
                  try clear hx558_3
                  try clear p1
                  try clear p15
                  try clear p2
                  try clear p5
                  try clear p558
                  try clear p6
                  try clear q1
                  try clear q15
                  try clear q5
                  try clear q558
                  obtain ⟨kq, x102_46, rfl, HA, HJ46, HO_0, HO_57, BK559, HB⟩ := hcut
                  cases kq with
                  | zero => exact absurd HA.out (by simp [spilelaw34_SuspectEqual.j4])
                  | succ kj46 =>
                   have H := HA.out
                   clear HA
                   simp only [spilelaw34_SuspectEqual.j4] at H
                   by_cases c54 : x102_46 = true
                   ·subst c54
                    have H1 : (none) = some r := by rw [if_pos rfl] at H; exact H
                    clear H
                    have H := H1
                    clear H1
                    exact absurd H (by simp)
                   ·replace c54 := Bool.eq_false_iff.mpr c54
                    subst c54
                    have H1 : (spilelaw34_SuspectEqual.l1 kj46 x0_1 x0_1 (x0_1.length : Int) (wrap64 (x59_3 + 1))) = some r := by rw [if_neg (show ¬ (false = true) by decide)] at H; exact H
                    clear H
                    have H := H1
                    clear H1
                    have H' := Aside0.mk H
                    clear H
                    go_wp2
                    go_roundg kj46
                    case measure => have := HK1.out; have := HJ19.out; have := HK3.out; have := HJ33.out; have := HJ46.out; omega
                    case rel => exact ⟨(wrap64 (x59_3 + 1)), (by first | rfl | (simp; done) | (simp [*]; done)), H', ⟨by have := HK1.out; have := HJ19.out; have := HK3.out; have := HJ33.out; have := HJ46.out; omega⟩, ⟨by (try simp only [hl0_1]); (with_reducible repeat (first | apply Kd.R_alloc | apply Kd.R_drewN | apply Kd.R_drew)); exact Kd.R_mono HO_0.out (fun _ hk => trivial)⟩, ⟨by (try simp only [hl0_1]); (with_reducible repeat (first | apply Kd.R_alloc | apply Kd.R_drewN | apply Kd.R_drew)); exact Kd.R_mono HO_57.out (fun _ hk => trivial)⟩, ⟨GS.lB HB.out⟩⟩
             ·rw [if_neg c31] at H
              exact absurd H (by simp)
            ·rw [if_neg c30] at H
             exact absurd H (by simp)
           ·rw [if_neg c29] at H
            have c29b0 : decide (x59_3 < (x0_1.length : Int)) = false := decide_eq_false c29
            clear c29
            obtain rfl := Option.some.inj H
            go_wp2
            go_ret
            exact ⟨by first | rfl | (simp [errW_none, errW_some] <;> rfl) | (simp [*, errW_none, errW_some] <;> rfl), GS.lB HB.out⟩
 ·replace c5 := Bool.eq_false_iff.mpr c5
  subst c5
  have H1 : (none) = some r := by rw [if_neg (show ¬ (false = true) by decide)] at H; exact H
  clear H
  have H := H1
  clear H1
  exact absurd H (by simp)

end Go.Proofs.Ytfhmjleimampeaa.K
