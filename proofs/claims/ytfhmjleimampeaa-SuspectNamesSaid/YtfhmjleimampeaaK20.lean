-- PRINTED by print.py (a twelfth state) out of the translation. Not trusted: Lean checks it.
import Derived.Test.YtfhmjleimampeaaK0
import Derived.Test.YtfhmjleimampeaaGPu
import Derived.Test.YtfhmjleimampeaaGShort
import Derived.Test.YtfhmjleimampeaaK15a
namespace Go.Proofs.Ytfhmjleimampeaa.K
open Go.RowKit Go.Proofs.YtfhmjleimampeaaW.PrintWords Go.Proofs.YtfhmjleimampeaaW.PrintLast Go.Proofs.YtfhmjleimampeaaW.PrintMore
attribute [local go_sem] max2_int min2_int max_two min_two max_three min_three max_four min_four   -- for this text's walks alone
set_option linter.unusedVariables false
set_option linter.unusedSimpArgs false

/-! ### spileref33_sorted: function 72 -/
mutual
def spileref33_sorted.l0 : Nat → List Int → Int → Option (List Int)
 | 0, _, _ => none
 | k + 1, x3, x4 => if x4 < (x3.length : Int) then (spileref33_sorted.l1 k x3 x4 x4) else (some x3)
def spileref33_sorted.l1 : Nat → List Int → Int → Int → Option (List Int)
 | 0, _, _, _ => none
 | k + 1, x3, x4, x5 => if x5 > 0 then (if 0 ≤ (wrap64 (x5 - 1)) then (if (wrap64 (x5 - 1)) < (x3.length : Int) then (if 0 ≤ x5 then (if x5 < (x3.length : Int) then (if (rd x3 (wrap64 (x5 - 1))) > (rd x3 x5) then (spileref33_sorted.l1 k ((x3.set ((wrap64 (x5 - 1)) : Int).toNat (rd x3 x5)).set (x5 : Int).toNat (rd x3 (wrap64 (x5 - 1)))) x4 (wrap64 (x5 - 1))) else (spileref33_sorted.l0 k x3 (wrap64 (x4 + 1)))) else (none)) else (none)) else (none)) else (none)) else (spileref33_sorted.l0 k x3 (wrap64 (x4 + 1)))
end
def spileref33_sorted.f (k : Nat) (l0 : List Int) : Option (List Int) := (some (([] : List Int) : List Int)).bind fun y512 => (if y512.length + l0.length < 17592186044416 then (spileref33_sorted.l0 k (y512 ++ l0) 0) else (none))
theorem spileref33_sorted.mono_l : ∀ k, (∀ y0 y1, LeO (spileref33_sorted.l0 k y0 y1) (spileref33_sorted.l0 (k + 1) y0 y1)) ∧ (∀ y0 y1 y2, LeO (spileref33_sorted.l1 k y0 y1 y2) (spileref33_sorted.l1 (k + 1) y0 y1 y2))
 | 0 => ⟨fun _ _ r h => by simp [spileref33_sorted.l0] at h, fun _ _ _ r h => by simp [spileref33_sorted.l1] at h⟩
 | k + 1 => by
  obtain ⟨ih0, ih1⟩ := spileref33_sorted.mono_l k
  refine ⟨?_, ?_⟩
  ·intro y0 y1
   unfold spileref33_sorted.l0
   repeat' first
   | (with_reducible exact ih0 _ _)
   | (with_reducible exact ih1 _ _ _)
   | (with_reducible exact LeO.refl _)
   | (with_reducible exact LeO.none _)
   | (with_reducible refine LeO.ite ?_ ?_)
   | (with_reducible refine LeO.bind ?_ (fun _ => ?_))
   | exact ih0 _ _
   | exact ih1 _ _ _
   | exact LeO.none _
   | refine LeO.ite ?_ ?_
   | refine LeO.bind ?_ (fun _ => ?_)
  ·intro y0 y1 y2
   unfold spileref33_sorted.l1
   repeat' first
   | (with_reducible exact ih0 _ _)
   | (with_reducible exact ih1 _ _ _)
   | (with_reducible exact LeO.refl _)
   | (with_reducible exact LeO.none _)
   | (with_reducible refine LeO.ite ?_ ?_)
   | (with_reducible refine LeO.bind ?_ (fun _ => ?_))
   | exact ih0 _ _
   | exact ih1 _ _ _
   | exact LeO.none _
   | refine LeO.ite ?_ ?_
   | refine LeO.bind ?_ (fun _ => ?_)
theorem spileref33_sorted.mono : ∀ a0 k, LeO (spileref33_sorted.f k a0) (spileref33_sorted.f (k + 1) a0) := by
 intro a0 k
 obtain ⟨ih0, ih1⟩ := spileref33_sorted.mono_l k
 unfold spileref33_sorted.f
 repeat' first
   | (with_reducible exact ih0 _ _)
   | (with_reducible exact ih1 _ _ _)
   | (with_reducible exact LeO.refl _)
   | (with_reducible exact LeO.none _)
   | (with_reducible refine LeO.ite ?_ ?_)
   | (with_reducible refine LeO.bind ?_ (fun _ => ?_))
   | exact ih0 _ _
   | exact ih1 _ _ _
   | exact LeO.none _
   | refine LeO.ite ?_ ?_
   | refine LeO.bind ?_ (fun _ => ?_)
def spileref33_sorted.T6 : Bool × List (List Nat × List Nat) := (true, [([], []), ([0], [0]), ([1], [1]), ([2], [2]), ([2], [2]), ([4, 2], [2, 4]), ([3, 5, 2], [2, 3, 5]), ([6, 2], [2, 6]), ([2], [2]), ([2], [2]), ([8, 9, 2], [2, 8, 9]), ([10, 2], [2, 10]), ([7, 11, 2], [2, 7, 11]), ([2, 12], [2, 12])])
def spileref33_sorted.B6 : List Nat := [0, 1, 3, 7, 7, 23, 63, 127, 7, 7, 775, 1799, 4095, 8191]
theorem spileref33_sorted.tab6 : rtab .any (opsOf Try.f72 6) = spileref33_sorted.T6 := by kernel_rfl
theorem spileref33_sorted.bits6 : waitsOk spileref33_sorted.T6.2 spileref33_sorted.B6 = true := by kernel_rfl
def spileref33_sorted.T8 : Bool × List (List Nat × List Nat) := (true, [([], []), ([], []), ([1], [1]), ([], []), ([], []), ([], []), ([], []), ([5, 6], [5, 6]), ([7], [7]), ([], []), ([], []), ([10], [10]), ([9, 11], [9, 11]), ([12], [12]), ([0, 2, 0, 1, 2, 5, 6, 7, 8, 13], [0, 2]), ([14, 8, 0, 1, 2, 5, 6, 7, 8, 13], [8, 14]), ([3, 4, 0, 1, 2, 3, 4, 5, 6, 7, 8, 9, 10, 11, 12, 13, 14, 15], [3, 4]), ([16, 13, 15, 0, 1, 2, 3, 4, 5, 6, 7, 8, 9, 10, 11, 12, 13, 14, 15], [13, 16])])
def spileref33_sorted.B8 : List Nat := [0, 0, 2, 0, 0, 0, 0, 96, 224, 0, 0, 1024, 3584, 7680, 16359, 32743, 65535, 131071]
theorem spileref33_sorted.tab8 : rtab .any (opsOf Try.f72 8) = spileref33_sorted.T8 := by kernel_rfl
theorem spileref33_sorted.bits8 : waitsOk spileref33_sorted.T8.2 spileref33_sorted.B8 = true := by kernel_rfl
set_option maxHeartbeats 8000000 in
set_option maxRecDepth 100000 in
theorem spileref33_sorted.calls (k : Nat) (A0 : Option Addr) (c0 : Nat) (l0 : List Int) (r : List Int) (w : World) (hr0 : Kd.C (Kd.int .i64) w A0 l0.length l0) (hc0 : l0.length ≤ c0) (h : spileref33_sorted.f k l0 = some r) :
  Calls Try.prog 72 #[.slice A0 l0.length c0] w fun e w' => ∃ v0_ : Value, e = .returned (v0_) ∧ Kd.R (Kd.int .i64) 3 w' w.heap.size (fun _ => True) v0_ r ∧ Below w.heap.size w w' := by
 have HR0 := Aside0.mk hr0
 have HC0 := Aside0.mk hc0
 clear hr0 hc0
 have HB := Aside0.mk (Below.refl w.heap.size w)
 have H : ((some (([] : List Int) : List Int)).bind fun y512 => (if y512.length + l0.length < 17592186044416 then (spileref33_sorted.l0 k (y512 ++ l0) 0) else (none))) = some r := h
 clear h
 obtain ⟨y512, hy512⟩ : ∃ y_ : List Int, y_ = (([] : List Int)) := ⟨_, rfl⟩
 replace H : (if y512.length + l0.length < 17592186044416 then (spileref33_sorted.l0 k (y512 ++ l0) 0) else (none)) = some r := by first | (rw [hy512]; with_reducible exact H) | (have H2_ := (Option.bind_some _ _).symm.trans H; rw [hy512]; with_reducible exact H2_) | (have H2_ := (Option.bind_some _ _).symm.trans H; with_reducible exact H2_) | with_reducible exact H | (rw [hy512]; exact H) | exact H
 have Ny512 := Aside0.mk hy512
 clear hy512
 by_cases c2 : y512.length + l0.length < 17592186044416
 ·rw [if_pos c2] at H
  have LMc2 := Aside0.mk c2
  clear c2
  obtain ⟨y515, hy515⟩ : ∃ y_ : List Int, y_ = (y512 ++ l0) := ⟨_, rfl⟩
  replace H : (spileref33_sorted.l0 k y515 0) = some r := by first | (rw [hy515]; with_reducible exact H) | (have H2_ := (Option.bind_some _ _).symm.trans H; rw [hy515]; with_reducible exact H2_) | (have H2_ := (Option.bind_some _ _).symm.trans H; with_reducible exact H2_) | with_reducible exact H | (rw [hy515]; exact H) | exact H
  have Ny515 := Aside0.mk hy515
  clear hy515
  have H' := Aside0.mk H
  clear H
  go_enter Try.func72, Try.ntmps72
  go_wp2_with (first | ((with_reducible refine gqD (N := 6) rfl ?_); refine Kd.R_lit (Kd.int .i64) _ 3 ?hg (N := 6) ?hd (xs := ([] : List Int)) (inner := []) (ok := fun _ => True) (okp := fun _ => True) ?hr ?hp (fun _ hk => hk) trivial (Below.refl _ _) (Nat.le_refl _) (by simp) ?_; (case hd => rfl); (case hg => rfl); (case hr => first | (go_simp; done) | (go_simp; rfl)); (case hp => exact (Reps.none _ _)); intro v513 w3 ho4 hb hg_ hnew_; clear hg_ hnew_; (first | rw [← Ny512.out] at ho4 | (simp only [Int.reduceToNat] at ho4; rw [← Ny512.out] at ho4)); have n0_ := Aside0.mk (Kd.R_lower ho4 (lqZ (GS.lB HB.out))); have n1_ := Aside0.mk (lqT (GS.lB HB.out) hb); clear HB; have HO514 := n0_; have HB := n1_; clear n0_ n1_; clear hb ho4) | ((with_reducible refine gate_builtin (b := .append) (xs := #[.tmp 6, .tmp 7]) rfl ?_); at_builtin; refine Kd.R_append_rows (Kd.int .i64) (w0 := w) w.heap.size rfl (.tmp 6) (.tmp 7) 31 3 (.int .i64 0) 8 rfl Try.underlying31 info3 rfl (by decide) (by omega) v513 y512 l0 _ _ _ (fun _ => True) (fun _ => False) rfl rfl ?aO ?aR (fun _ _ h => h) (fun _ h => h.elim) ?aF ?aB ?aS ?aL ?_; (case aR => repeat (first | exact (Kd.C_below HR0.out HB.out) | (with_reducible refine Kd.C_alloc ?_ _) | (with_reducible refine Kd.C_drewN ?_ _) | (with_reducible refine Kd.C_drew ?_))); (case aB => exact (GS.lB HB.out)); (case aF => exact (fun _ _ => trivial)); (case aO => exact (GS.rR HO514.out)); (case aS => exact (lqZ (GS.lB HB.out))); (case aL => have := LMc2.out; omega); intro v516 w5 ho hb hg hat; rw [← Ny515.out] at ho; have n0_ := Aside0.mk (hb); have n1_ := Aside0.mk (ho); clear HB; clear HO514; have HB := n0_; have HO517 := n1_; clear n0_ n1_; clear ho hb hg hat))
  go_loopg [4] k (fun kq v4 w' => ∃ (x3_1 : List Int) (x4_1 : Int), v4 = .int .i64 x4_1 ∧ Aside0 (spileref33_sorted.l0 kq x3_1 x4_1 = some r) ∧ Aside0 (kq ≤ k) ∧ Aside0 (Kd.R (Kd.int .i64) 3 w' w.heap.size (fun _ => True) v516 x3_1) ∧ Aside0 (Below w.heap.size w w'))
  case atStart => exact ⟨(y515), (0), (by first | rfl | (simp; done) | (simp [*]; done)), H', ⟨Nat.le_refl _⟩, ⟨by (with_reducible repeat (first | apply Kd.R_alloc | apply Kd.R_drewN | apply Kd.R_drew)); exact HO517.out⟩, ⟨GS.lB HB.out⟩⟩
  case round =>
   clear H'
   try clear c2
   try clear p2
   obtain ⟨x3_1, x4_1, rfl, HA, HK1, HO_3, HB⟩ := hrel
   cases gk with
   | zero => exact absurd HA.out (by simp [spileref33_sorted.l0])
   | succ k1 =>
    have H := HA.out
    clear HA
    simp only [spileref33_sorted.l0] at H
    by_cases c6 : x4_1 < (x3_1.length : Int)
    ·rw [if_pos c6] at H
     have c6b0 : decide (x4_1 < (x3_1.length : Int)) = true := decide_eq_true c6
     clear c6
     have H' := Aside0.mk H
     clear H
     obtain ⟨Ao7, co7, eo7⟩ := Kd.R_slice HO_3.out
     subst eo7
     go_wp2
     go_loopg [5] k1 (fun kq v5 w' => ∃ (x3_2 : List Int) (x5_2 : Int), v5 = .int .i64 x5_2 ∧ Aside0 (spileref33_sorted.l1 kq x3_2 x4_1 x5_2 = some r) ∧ Aside0 (kq ≤ k1) ∧ Aside0 (Kd.R (Kd.int .i64) 3 w' w.heap.size (fun _ => True) (.slice Ao7 x3_1.length co7) x3_2) ∧ Aside0 (Below w.heap.size w w'))
     case atStart => exact ⟨(x3_1), (x4_1), (by first | rfl | (simp; done) | (simp [*]; done)), H', ⟨Nat.le_refl _⟩, ⟨by (with_reducible repeat (first | apply Kd.R_alloc | apply Kd.R_drewN | apply Kd.R_drew)); exact HO_3.out⟩, ⟨GS.lB HB.out⟩⟩
     case round =>
      clear H'
      try clear c2
      try clear p2
      try clear c6
      try clear c6b0
      try clear c7
      try clear p2
      obtain ⟨x3_2, x5_2, rfl, HA, HK2, HO_3, HB⟩ := hrel
      have hl3_2 := (Kd.R_reads' HO_3.out).1
      rw [hl3_2] at HO_3
      (try simp only [hl3_2])
      cases gk with
      | zero => exact absurd HA.out (by simp [spileref33_sorted.l1])
      | succ k2 =>
       have H := HA.out
       clear HA
       simp only [spileref33_sorted.l1] at H
       by_cases c8 : x5_2 > 0
       ·rw [if_pos c8] at H
        have c8b0 : decide (0 < x5_2) = true := decide_eq_true c8
        clear c8
        obtain ⟨ji9, hji9⟩ : ∃ j_ : Int, (wrap64 (x5_2 - 1)) = j_ := ⟨_, rfl⟩
        replace H : (if 0 ≤ (ji9) then (if (ji9) < (x3_2.length : Int) then (if 0 ≤ x5_2 then (if x5_2 < (x3_2.length : Int) then (if (rd x3_2 (ji9)) > (rd x3_2 x5_2) then (spileref33_sorted.l1 k2 ((x3_2.set ((ji9) : Int).toNat (rd x3_2 x5_2)).set (x5_2 : Int).toNat (rd x3_2 (ji9))) x4_1 ji9) else (spileref33_sorted.l0 k2 x3_2 (wrap64 (x4_1 + 1)))) else (none)) else (none)) else (none)) else (none)) = some r := by first | (rw [hji9] at H; exact H) | (simp only [hji9] at H ⊢; exact H)
        have hji9w : (IntKind.i64.wrap (x5_2 - 1)) = ji9 := (i64_w _).trans hji9
        by_cases c10 : 0 ≤ (ji9)
        ·rw [if_pos c10] at H
         have c10b0 : decide (0 ≤ (ji9)) = true := decide_eq_true c10
         clear c10
         by_cases c11 : (ji9) < (x3_2.length : Int)
         ·rw [if_pos c11] at H
          have c11b0 : decide ((ji9) < (x3_2.length : Int)) = true := decide_eq_true c11
          clear c11
          by_cases c12 : 0 ≤ x5_2
          ·rw [if_pos c12] at H
           have c12b0 : decide (0 ≤ x5_2) = true := decide_eq_true c12
           clear c12
           by_cases c13 : x5_2 < (x3_2.length : Int)
           ·rw [if_pos c13] at H
            have c13b0 : decide (x5_2 < (x3_2.length : Int)) = true := decide_eq_true c13
            clear c13
            by_cases c14 : (rd x3_2 (ji9)) > (rd x3_2 x5_2)
            ·rw [if_pos c14] at H
             have c14b0 : decide ((rd x3_2 x5_2) < (rd x3_2 (ji9))) = true := decide_eq_true c14
             clear c14
             obtain ⟨y522, hy522⟩ : ∃ y_ : List Int, y_ = (x3_2.set ((ji9) : Int).toNat (rd x3_2 x5_2)) := ⟨_, rfl⟩
             replace H : (spileref33_sorted.l1 k2 (y522.set (x5_2 : Int).toNat (rd x3_2 (ji9))) x4_1 ji9) = some r := by first | (rw [hy522]; with_reducible exact H) | (have H2_ := (Option.bind_some _ _).symm.trans H; rw [hy522]; with_reducible exact H2_) | (have H2_ := (Option.bind_some _ _).symm.trans H; with_reducible exact H2_) | with_reducible exact H | (rw [hy522]; exact H) | exact H
             have Ny522 := Aside0.mk hy522
             clear hy522
             obtain ⟨y523, hy523⟩ : ∃ y_ : List Int, y_ = (y522.set (x5_2 : Int).toNat (rd x3_2 (ji9))) := ⟨_, rfl⟩
             replace H : (spileref33_sorted.l1 k2 y523 x4_1 ji9) = some r := by first | (rw [hy523]; with_reducible exact H) | (have H2_ := (Option.bind_some _ _).symm.trans H; rw [hy523]; with_reducible exact H2_) | (have H2_ := (Option.bind_some _ _).symm.trans H; with_reducible exact H2_) | with_reducible exact H | (rw [hy523]; exact H) | exact H
             have Ny523 := Aside0.mk hy523
             clear hy523
             have H' := Aside0.mk H
             clear H
             try go_wp2
             have n0_ := Aside0.mk (Kd.R_drew HO_3.out)
             have n1_ := Aside0.mk (lqD HB.out)
             clear HO_3
             clear HB
             have HO_3 := n0_
             have HB := n1_
             clear n0_ n1_
             have p518 : 0 ≤ ((ji9) : Int) := of_decide_eq_true (by first | (with_reducible assumption) | assumption)
             have q518 : (ji9) < (x3_2.length : Int) := of_decide_eq_true (by first | (with_reducible assumption) | assumption)
             obtain ⟨ad518, e518, hx518_0⟩ := Kd.at_int (Kd.R_reads' HO_3.out).2.2 (ji9) p518 q518
             cases e518
             replace p518 := eq_true p518
             replace q518 := eq_true q518
             have p519 : 0 ≤ (x5_2 : Int) := of_decide_eq_true (by first | (with_reducible assumption) | assumption)
             have q519 : x5_2 < (x3_2.length : Int) := of_decide_eq_true (by first | (with_reducible assumption) | assumption)
             obtain ⟨ad519, e519, hx519_0⟩ := Kd.at_int (Kd.R_reads' HO_3.out).2.2 x5_2 p519 q519
             obtain rfl : ad518 = ad519 := (by injection e519)
             replace p519 := eq_true p519
             replace q519 := eq_true q519
             refine start_ (n := 14) (S := fun w' => w'.cell? (ad518.add ((ji9)).toNat) = some (.int .i64 (rd x3_2 (ji9))) ∧ w'.cell? (ad518.add (x5_2).toNat) = some (.int .i64 (rd x3_2 x5_2))) (ds := []) #[false, false, false, false, false, false, false, false, false, false, false, false, false, false] (by kernel_rfl) rfl rfl ⟨hx518_0, hx519_0⟩ (fun hHeld => ?_); refine with_tabW spileref33_sorted.tab6 spileref33_sorted.bits6 (fun HT_ HW_ => ?_)
             generalize wr.drew = w17 at HO_3 HB hx518_0 hx519_0 hHeld ⊢
             refine GS.pu 0 (some 16) HT_.out ?_
             refine GS.pu 1 (some 17) HT_.out ?_
             refine GS.pu 2 (some 18) HT_.out ?_
             refine GS.pu 3 (some 19) HT_.out ?_
             refine GS.pu 4 (some 20) HT_.out ?_
             refine GS.pu 5 (some 21) HT_.out ?_
             refine GS.pu 6 (some 22) HT_.out ?_
             refine GS.pu 8 (some 24) HT_.out ?_
             refine GS.pu 9 (some 25) HT_.out ?_
             refine GS.pu 10 (some 26) HT_.out ?_
             refine GS.tk 7 (some 23) HT_.out HW_.out hHeld ?_
             refine GS.tk 11 (some 27) HT_.out HW_.out hHeld ?_
             refine GS.pu 12 (some 28) HT_.out ?_
             refine GS.pu 13 (some 29) HT_.out ?_
             refine done_ (done_of HT_.out (by kernel_rfl)) ?_
             try go_wp2
             have n0_ := Aside0.mk (Kd.R_drew HO_3.out)
             have n1_ := Aside0.mk (lqD HB.out)
             clear HO_3
             clear HB
             have HO_3 := n0_
             have HB := n1_
             clear n0_ n1_
             have p520 : 0 ≤ (x5_2 : Int) := of_decide_eq_true (by first | (with_reducible assumption) | assumption)
             have q520 : x5_2 < (x3_2.length : Int) := of_decide_eq_true (by first | (with_reducible assumption) | assumption)
             obtain ⟨ad520, e520, hx520_0⟩ := Kd.at_int (Kd.R_reads' HO_3.out).2.2 x5_2 p520 q520
             obtain rfl : ad518 = ad520 := (by injection e520)
             replace p520 := eq_true p520
             replace q520 := eq_true q520
             have p521 : 0 ≤ ((ji9) : Int) := of_decide_eq_true (by first | (with_reducible assumption) | assumption)
             have q521 : (ji9) < (x3_2.length : Int) := of_decide_eq_true (by first | (with_reducible assumption) | assumption)
             obtain ⟨ad521, e521, hx521_0⟩ := Kd.at_int (Kd.R_reads' HO_3.out).2.2 (ji9) p521 q521
             obtain rfl : ad518 = ad521 := (by injection e521)
             replace p521 := eq_true p521
             replace q521 := eq_true q521
             have p15 : 0 ≤ ((ji9) : Int) := of_decide_eq_true (by first | (with_reducible assumption) | assumption)
             have q15 : ((ji9) : Int) < ((x3_2.length : Int) : Int) := of_decide_eq_true (by first | (with_reducible assumption) | assumption)
             obtain ⟨go15, co15, eo15, gb15, gl15, cl15, HG15⟩ := Kd.R_form HO_3.out (by omega)
             (first | cases eo15 | (injection eo15 with ea_ en_ ec_; (first | subst ea_ | (injection ea_ with ea_; subst ea_)); subst ec_; clear en_))
             have GB15 := Aside0.mk gb15
             have GG15 := Aside0.mk HG15
             clear gb15 gl15 HG15
             (first | simp only [add_plain] at hx518_0 | skip)
             (first | simp only [add_plain] at hx519_0 | skip)
             (first | simp only [add_plain] at hx520_0 | skip)
             (first | simp only [add_plain] at hx521_0 | skip)
             obtain ⟨hx15_0, hf15_0⟩ := Kd.R_celln 0 HO_3.out ((ji9) : Int) p15 q15
             replace p15 := eq_true p15
             replace q15 := eq_true q15
             have HP19 := Kd.R_putn HO_3.out ((ji9) : Int) (rd x3_2 x5_2)
             rw [← Ny522.out] at HP19
             have HQ19 := Aside0.mk HP19
             clear HP19
             have p16 : 0 ≤ (x5_2 : Int) := of_decide_eq_true (by first | (with_reducible assumption) | assumption)
             have q16 : (x5_2 : Int) < ((x3_2.length : Int) : Int) := of_decide_eq_true (by first | (with_reducible assumption) | assumption)
             obtain ⟨hx16_0, hf16_0⟩ := Kd.R_celln 0 HQ19.out (x5_2 : Int) p16 q16
             replace p16 := eq_true p16
             replace q16 := eq_true q16
             have HP20 := Kd.R_putn HQ19.out (x5_2 : Int) (rd x3_2 (ji9))
             rw [← Ny523.out] at HP20
             have HQ20 := Aside0.mk HP20
             clear HP20
             refine start_ (n := 18) (S := fun w' => w'.cell? ⟨go15, (x5_2).toNat, none⟩ = some (.int .i64 (rd x3_2 x5_2)) ∧ w'.cell? ⟨go15, ((ji9)).toNat, none⟩ = some (.int .i64 (rd x3_2 (ji9)))) (ds := [15, 17]) #[false, false, false, false, false, false, false, false, false, false, false, false, false, false, false, false, false, false] (by kernel_rfl) rfl rfl ⟨hx520_0, hx521_0⟩ (fun hHeld => ?_); refine with_tabW spileref33_sorted.tab8 spileref33_sorted.bits8 (fun HT_ HW_ => ?_)
             generalize w17.drew = w18 at HO_3 HB GG15 HQ19 HQ20 hf15_0 hf16_0 hx15_0 hx16_0 hx518_0 hx519_0 hx520_0 hx521_0 hHeld ⊢
             refine GS.pu 0 (some 32) HT_.out ?_
             refine GS.pu 1 (some 33) HT_.out ?_
             refine GS.pu 2 (some 34) HT_.out ?_
             refine GS.pu 3 (some 35) HT_.out ?_
             refine GS.pu 4 (some 36) HT_.out ?_
             refine GS.pu 5 (some 37) HT_.out ?_
             refine GS.pu 6 (some 38) HT_.out ?_
             refine GS.pu 7 (some 39) HT_.out ?_
             refine GS.pu 9 (some 41) HT_.out ?_
             refine GS.pu 10 (some 42) HT_.out ?_
             refine GS.pu 11 (some 43) HT_.out ?_
             refine GS.pu 12 (some 44) HT_.out ?_
             refine GS.tk 8 (some 40) HT_.out HW_.out hHeld ?_
             refine GS.tk 13 (some 45) HT_.out HW_.out hHeld ?_
             refine GS.pu 14 (some 46) HT_.out ?_
             refine last_ (i := 15) (N := none) #[true, true, true, true, true, true, true, true, true, true, true, true, true, true, true, true, false, false] rfl rfl (one_of HT_.out (by kernel_rfl)) (by decide) (fun K hK => ?_)
             refine skip_ (w1 := ?_) (by rfl) rfl ?_ ?_
             rotate_left
             ·go_simp
              rfl
             refine hK.out _ _ ?_
             clear hK K
             refine GS.pu 16 (some 47) HT_.out ?_
             refine last_ (i := 17) (N := none) #[true, true, true, true, true, true, true, true, true, true, true, true, true, true, true, true, true, true] rfl rfl (one_of HT_.out (by kernel_rfl)) (by decide) (fun K hK => ?_)
             refine skip_ (w1 := ?_) (by rfl) rfl ?_ ?_
             rotate_left
             ·go_simp
              rfl
             refine hK.out _ _ ?_
             clear hK K
             refine done_ (done_of HT_.out (by kernel_rfl)) ?_
             try go_wp2
             (try simp only [← hl3_2])
             go_roundg k2
             case measure => have := HK1.out; have := HK2.out; omega
             case rel => exact ⟨(y523), (ji9), (by first | rfl | (simp; done) | (simp only [← hji9] <;> (first | rfl | simp)) | (simp [*]; done)), H', ⟨by have := HK1.out; have := HK2.out; omega⟩, ⟨by (try simp only [hl3_2]); (with_reducible repeat (first | apply Kd.R_alloc | apply Kd.R_drewN | apply Kd.R_drew)); exact HQ20.out⟩, ⟨by repeat (first | (with_reducible first | exact HB.out | apply lqA | apply lqN | apply lqD | refine lqS ?_ GB15.out | refine lqS ?_ GB15.out) | exact HB.out)⟩⟩
            ·rw [if_neg c14] at H
             have c14b0 : decide ((rd x3_2 x5_2) < (rd x3_2 (ji9))) = false := decide_eq_false c14
             clear c14
             have H' := Aside0.mk H
             clear H
             try go_wp2
             have n0_ := Aside0.mk (Kd.R_drew HO_3.out)
             have n1_ := Aside0.mk (lqD HB.out)
             clear HO_3
             clear HB
             have HO_3 := n0_
             have HB := n1_
             clear n0_ n1_
             have p518 : 0 ≤ ((ji9) : Int) := of_decide_eq_true (by first | (with_reducible assumption) | assumption)
             have q518 : (ji9) < (x3_2.length : Int) := of_decide_eq_true (by first | (with_reducible assumption) | assumption)
             obtain ⟨ad518, e518, hx518_0⟩ := Kd.at_int (Kd.R_reads' HO_3.out).2.2 (ji9) p518 q518
             cases e518
             replace p518 := eq_true p518
             replace q518 := eq_true q518
             have p519 : 0 ≤ (x5_2 : Int) := of_decide_eq_true (by first | (with_reducible assumption) | assumption)
             have q519 : x5_2 < (x3_2.length : Int) := of_decide_eq_true (by first | (with_reducible assumption) | assumption)
             obtain ⟨ad519, e519, hx519_0⟩ := Kd.at_int (Kd.R_reads' HO_3.out).2.2 x5_2 p519 q519
             obtain rfl : ad518 = ad519 := (by injection e519)
             replace p519 := eq_true p519
             replace q519 := eq_true q519
             refine start_ (n := 14) (S := fun w' => w'.cell? (ad518.add ((ji9)).toNat) = some (.int .i64 (rd x3_2 (ji9))) ∧ w'.cell? (ad518.add (x5_2).toNat) = some (.int .i64 (rd x3_2 x5_2))) (ds := []) #[false, false, false, false, false, false, false, false, false, false, false, false, false, false] (by kernel_rfl) rfl rfl ⟨hx518_0, hx519_0⟩ (fun hHeld => ?_); refine with_tabW spileref33_sorted.tab6 spileref33_sorted.bits6 (fun HT_ HW_ => ?_)
             generalize wr.drew = w21 at HO_3 HB hx518_0 hx519_0 hHeld ⊢
             refine GS.pu 0 (some 16) HT_.out ?_
             refine GS.pu 1 (some 17) HT_.out ?_
             refine GS.pu 2 (some 18) HT_.out ?_
             refine GS.pu 3 (some 19) HT_.out ?_
             refine GS.pu 4 (some 20) HT_.out ?_
             refine GS.pu 5 (some 21) HT_.out ?_
             refine GS.pu 6 (some 22) HT_.out ?_
             refine GS.pu 8 (some 24) HT_.out ?_
             refine GS.pu 9 (some 25) HT_.out ?_
             refine GS.pu 10 (some 26) HT_.out ?_
             refine GS.tk 7 (some 23) HT_.out HW_.out hHeld ?_
             refine GS.tk 11 (some 27) HT_.out HW_.out hHeld ?_
             refine GS.pu 12 (some 28) HT_.out ?_
             refine GS.pu 13 (some 29) HT_.out ?_
             refine done_ (done_of HT_.out (by kernel_rfl)) ?_
             try go_wp2
             (try simp only [← hl3_2])
             go_roundg k2
             case measure => have := HK1.out; have := HK2.out; omega
             case rel => exact ⟨(x3_2), (wrap64 (x4_1 + 1)), (by first | rfl | (simp; done) | (simp [*]; done)), H', ⟨by have := HK1.out; have := HK2.out; omega⟩, ⟨by (try simp only [hl3_2]); (with_reducible repeat (first | apply Kd.R_alloc | apply Kd.R_drewN | apply Kd.R_drew)); exact HO_3.out⟩, ⟨GS.lB HB.out⟩⟩
           ·rw [if_neg c13] at H
            exact absurd H (by simp)
          ·rw [if_neg c12] at H
           exact absurd H (by simp)
         ·rw [if_neg c11] at H
          exact absurd H (by simp)
        ·rw [if_neg c10] at H
         exact absurd H (by simp)
       ·rw [if_neg c8] at H
        have c8b0 : decide (0 < x5_2) = false := decide_eq_false c8
        clear c8
        have H' := Aside0.mk H
        clear H
        try go_wp2
        have n0_ := Aside0.mk (Kd.R_drew HO_3.out)
        have n1_ := Aside0.mk (lqD HB.out)
        clear HO_3
        clear HB
        have HO_3 := n0_
        have HB := n1_
        clear n0_ n1_
        refine start_ (n := 14) (S := fun w' => True) (ds := []) #[false, false, false, false, false, false, false, false, false, false, false, false, false, false] (by kernel_rfl) rfl rfl trivial (fun hHeld => ?_); refine with_tabW spileref33_sorted.tab6 spileref33_sorted.bits6 (fun HT_ HW_ => ?_)
        generalize wr.drew = w22 at HO_3 HB hHeld ⊢
        refine GS.pu 0 (some 16) HT_.out ?_
        refine GS.pu 1 (some 17) HT_.out ?_
        refine GS.pu 2 (some 18) HT_.out ?_
        refine GS.pn 3 (some 19) HT_.out ?_
        refine GS.pn 4 (some 20) HT_.out ?_
        refine GS.pn 5 (some 21) HT_.out ?_
        refine GS.pn 6 (some 22) HT_.out ?_
        refine GS.pn 7 (some 23) HT_.out ?_
        refine GS.pn 8 (some 24) HT_.out ?_
        refine GS.pn 9 (some 25) HT_.out ?_
        refine GS.pn 10 (some 26) HT_.out ?_
        refine GS.pn 11 (some 27) HT_.out ?_
        refine GS.pn 12 (some 28) HT_.out ?_
        refine GS.pu 13 (some 29) HT_.out ?_
        refine done_ (done_of HT_.out (by kernel_rfl)) ?_
        try go_wp2
        (try simp only [← hl3_2])
        go_roundg k2
        case measure => have := HK1.out; have := HK2.out; omega
        case rel => exact ⟨(x3_2), (wrap64 (x4_1 + 1)), (by first | rfl | (simp; done) | (simp [*]; done)), H', ⟨by have := HK1.out; have := HK2.out; omega⟩, ⟨by (try simp only [hl3_2]); (with_reducible repeat (first | apply Kd.R_alloc | apply Kd.R_drewN | apply Kd.R_drew)); exact HO_3.out⟩, ⟨GS.lB HB.out⟩⟩
    ·rw [if_neg c6] at H
     have c6b0 : decide (x4_1 < (x3_1.length : Int)) = false := decide_eq_false c6
     clear c6
     obtain rfl := Option.some.inj H
     obtain ⟨Ao23, co23, eo23⟩ := Kd.R_slice HO_3.out
     subst eo23
     go_wp2
     go_ret
     exact ⟨_, by first | rfl | (simp [errW_none, errW_some] <;> rfl) | (simp [*, errW_none, errW_some] <;> rfl), by (with_reducible repeat (first | apply Kd.R_alloc | apply Kd.R_drewN | apply Kd.R_drew)); exact HO_3.out, GS.lB HB.out⟩
 ·rw [if_neg c2] at H
  exact absurd H (by simp)

/-! ### spileref33_Sorted: function 53 -/
def spileref33_Sorted.f (k : Nat) (l0 : List Int) : Option (List Int × Int) := (spileref33_Check.f k l0).bind fun t524 => (if t524 = 0 then ((spileref33_sorted.f k l0).bind fun t525 => (some (t525, 0))) else (some (([] : List Int), t524)))
theorem spileref33_Sorted.mono : ∀ a0 k, LeO (spileref33_Sorted.f k a0) (spileref33_Sorted.f (k + 1) a0) := by
 intro a0 k
 unfold spileref33_Sorted.f
 repeat' first
   | (with_reducible exact spileref33_Check.mono _ _)
   | (with_reducible exact spileref33_sorted.mono _ _)
   | (with_reducible exact LeO.refl _)
   | (with_reducible exact LeO.none _)
   | (with_reducible refine LeO.ite ?_ ?_)
   | (with_reducible refine LeO.bind ?_ (fun _ => ?_))
   | exact spileref33_Check.mono _ _
   | exact spileref33_sorted.mono _ _
   | exact LeO.none _
   | refine LeO.ite ?_ ?_
   | refine LeO.bind ?_ (fun _ => ?_)
set_option maxHeartbeats 8000000 in
set_option maxRecDepth 100000 in
theorem spileref33_Sorted.calls (k : Nat) (A0 : Option Addr) (c0 : Nat) (l0 : List Int) (r1 : List Int) (r2 : Int) (w : World) (hr0 : Kd.C (Kd.int .i64) w A0 l0.length l0) (hc0 : l0.length ≤ c0) (h : spileref33_Sorted.f k l0 = some (r1, r2)) :
  Calls Try.prog 53 #[.slice A0 l0.length c0] w fun e w' => ∃ v0_ : Value, e = .returned (.tuple #[v0_, .int .i64 r2]) ∧ Kd.R (Kd.int .i64) 3 w' w.heap.size (fun _ => True) v0_ r1 ∧ Below w.heap.size w w' := by
 have HR0 := Aside0.mk hr0
 have HC0 := Aside0.mk hc0
 clear hr0 hc0
 have HB := Aside0.mk (Below.refl w.heap.size w)
 have H : ((spileref33_Check.f k l0).bind fun t524 => (if t524 = 0 then ((spileref33_sorted.f k l0).bind fun t525 => (some (t525, 0))) else (some (([] : List Int), t524)))) = some (r1, r2) := h
 clear h
 replace H := Option.bind_eq_some_iff.mp H
 obtain ⟨t524, A20, H⟩ := H
 replace H : (if t524 = 0 then ((spileref33_sorted.f k l0).bind fun t525 => (some (t525, 0))) else (some (([] : List Int), t524))) = some (r1, r2) := H
 have A2 := Aside0.mk A20
 clear A20
 by_cases c3 : t524 = 0
 ·rw [if_pos c3] at H
  have c3b0 : (t524 == 0) = true := beq_iff_eq.mpr c3
  try simp only [beq_self_eq_true, Bool.not_true, Bool.false_or, Bool.true_and] at c3b0
  have c3b1 : (t524 != 0) = false := bne_eq_false_iff_eq.mpr c3
  clear c3
  replace H := Option.bind_eq_some_iff.mp H
  obtain ⟨t525, A40, H⟩ := H
  replace H : (some (t525, 0)) = some (r1, r2) := H
  have A4 := Aside0.mk A40
  clear A40
  simp only [Option.some.injEq, Prod.mk.injEq] at H
  obtain ⟨rfl, rfl⟩ := H
  go_enter Try.func53, Try.ntmps53
  go_wp2_with (first | ((with_reducible refine gqC (f := 68) rfl ?_); refine GS.gL (some 6) Try.func68 #[.slice A0 l0.length c0] ?_; (with_reducible refine (spileref33_Check.calls k _ _ l0 t524 _ ?side1 ?side2 A2.out).mono ?_); (case side1 => exact GS.rC HR0.out); (case side2 => exact HC0.out); rintro e w' ⟨rfl, ⟨nd, rfl⟩⟩; refine ⟨_, rfl, ?_⟩) | ((with_reducible refine gqC (f := 72) rfl ?_); refine GS.gL (some 11) Try.func72 #[.slice A0 l0.length c0] ?_; (with_reducible refine (spileref33_sorted.calls k _ _ l0 t525 _ ?side1 ?side2 A4.out).mono ?_); (case side1 => exact GS.rC HR0.out); (case side2 => exact HC0.out); rintro e w5 ⟨v526, rfl, ho0, hb⟩; refine ⟨_, rfl, ?_⟩; have n0_ := Aside0.mk (Kd.R_lower ho0 (lqZ (GS.lB HB.out))); have n1_ := Aside0.mk (lqT (GS.lB HB.out) hb); clear HB; have HO527 := n0_; have HB := n1_; clear n0_ n1_; (try clear hb); (try clear hb2); (try clear hk); (try clear hi); (try clear ho0)))
  go_ret2
  exact ⟨_, by first | rfl | (simp [errW_none, errW_some] <;> rfl) | (simp [*, errW_none, errW_some] <;> rfl), by (with_reducible repeat (first | apply Kd.R_alloc | apply Kd.R_drewN | apply Kd.R_drew)); exact HO527.out, GS.lB HB.out⟩
 ·rw [if_neg c3] at H
  have c3b0 : (t524 == 0) = false := beq_eq_false_iff_ne.mpr c3
  try simp only [beq_self_eq_true, Bool.not_true, Bool.false_or, Bool.true_and] at c3b0
  have c3b1 : (t524 != 0) = true := bne_iff_ne.mpr c3
  simp only [Option.some.injEq, Prod.mk.injEq] at H
  obtain ⟨rfl, rfl⟩ := H
  go_enter Try.func53, Try.ntmps53
  go_wp2_with (first | ((with_reducible refine gqC (f := 68) rfl ?_); refine GS.gL (some 6) Try.func68 #[.slice A0 l0.length c0] ?_; (with_reducible refine (spileref33_Check.calls k _ _ l0 t524 _ ?side1 ?side2 A2.out).mono ?_); (case side1 => exact GS.rC HR0.out); (case side2 => exact HC0.out); rintro e w' ⟨rfl, ⟨nd, rfl⟩⟩; refine ⟨_, rfl, ?_⟩))
  go_ret2
  exact ⟨_, by first | rfl | (simp [errW_none, errW_some] <;> rfl) | (simp [*, errW_none, errW_some] <;> rfl), by first | exact Kd.R_nil _ _ _ _ _ | exact Kd.N_nil _ _ _ _ _ | exact Kd.V_nil _ _ _ _ _ | exact Kd.Q_nil _ _ _ _ _ | exact Kd.S_nil _ _ _ _ _, GS.lB HB.out⟩

end Go.Proofs.Ytfhmjleimampeaa.K
