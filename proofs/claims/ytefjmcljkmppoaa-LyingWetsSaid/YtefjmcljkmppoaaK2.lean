import Derived.Test.YtefjmcljkmppoaaK0
import Derived.Test.YtefjmcljkmppoaaGShort
import Derived.Test.YtefjmcljkmppoaaGAt
namespace Go.Proofs.Ytefjmcljkmppoaa.K
open Go.RowKit Go.Proofs.YtefjmcljkmppoaaW.PrintWords Go.Proofs.YtefjmcljkmppoaaW.PrintLast Go.Proofs.YtefjmcljkmppoaaW.PrintMore
attribute [local go_sem] max2_int min2_int max_two min_two max_three min_three max_four min_four   -- for this text's walks alone
set_option linter.unusedVariables false
set_option linter.unusedSimpArgs false
def lying_strips.f (a0 : Int) : Option (Bool) := if a0 ≥ 1 then (some (decide (a0 ≤ 64))) else (some false)
set_option maxHeartbeats 8000000 in
set_option maxRecDepth 100000 in
theorem lying_strips.calls (a0 : Int) (r : Bool) (w : World) (h : lying_strips.f a0 = some r) :
  Calls Try.prog 49 #[.int .i64 a0] w fun e w' => e = .returned (.bool r) ∧ Drawn0 w w' := by
 have H : (if a0 ≥ 1 then (some (decide (a0 ≤ 64))) else (some false)) = some r := h
 clear h
 by_cases c2 : a0 ≥ 1
 ·rw [if_pos c2] at H
  have c2b0 : decide (1 ≤ a0) = true := decide_eq_true c2
  clear c2
  obtain rfl := Option.some.inj H
  go_enter Try.func49, Try.ntmps49
  go_wp2
  go_ret
  exact ⟨by first | rfl | (simp; done) | (simp [*]; done), by repeat (first | exact Drawn0.refl _ | apply Drawn0.step)⟩
 ·rw [if_neg c2] at H
  have c2b0 : decide (1 ≤ a0) = false := decide_eq_false c2
  clear c2
  obtain rfl := Option.some.inj H
  go_enter Try.func49, Try.ntmps49
  go_wp2
  go_ret
  exact ⟨by first | rfl | (simp; done) | (simp [*]; done), by repeat (first | exact Drawn0.refl _ | apply Drawn0.step)⟩
mutual
def lying_Slices.l0 : Nat → List (S39) → Int → List Int → Int → Option (List Int × Int)
 | 0, _, _, _, _ => none
 | k + 1, x0, x1, x6, x7 => if x7 < (x0.length : Int) then (if 0 ≤ (wrap64 (x7 - 1)) then (if (wrap64 (x7 - 1)) < (x0.length : Int) then (if 0 ≤ x7 then (lying_Slices.l1 k x0 x1 x6 x7 ((rd_T39 x0 (wrap64 (x7 - 1))).f0) (wrap64 (((rd_T39 x0 x7).f0) - ((rd_T39 x0 (wrap64 (x7 - 1))).f0))) 1) else (none)) else (none)) else (none)) else (if (x6.length : Int) > 65 then (some (([] : List Int), 15)) else (some (x6, 0)))
def lying_Slices.l1 : Nat → List (S39) → Int → List Int → Int → Int → Int → Int → Option (List Int × Int)
 | 0, _, _, _, _, _, _, _ => none
 | k + 1, x0, x1, x6, x7, x8, x9, x10 => if x10 ≤ x1 then (if x1 = 0 then (none) else (if 0 ≤ (wrap64 ((x6.length : Int) - 1)) then (if (wrap64 ((x6.length : Int) - 1)) < (x6.length : Int) then (if (wrap64 (x8 + (wrap64 (Int.tdiv (wrap64 (x10 * x9)) x1)))) > (rd x6 (wrap64 ((x6.length : Int) - 1))) then (if x6.length < 17592186044416 then (lying_Slices.l1 k x0 x1 (x6 ++ [wrap64 (x8 + (wrap64 (Int.tdiv (wrap64 (x10 * x9)) x1)))]) x7 x8 x9 (wrap64 (x10 + 1))) else (none)) else (lying_Slices.l1 k x0 x1 x6 x7 x8 x9 (wrap64 (x10 + 1)))) else (none)) else (none))) else (lying_Slices.l0 k x0 x1 x6 (wrap64 (x7 + 1)))
end
def lying_Slices.f (k : Nat) (l0 : List (S39)) (a1 : Int) : Option (List Int × Int) := (check48.f l0).bind fun t101 => (if t101 = 0 then ((lying_strips.f a1).bind fun t102 => (if t102 = true then (lying_Slices.l0 k l0 a1 (([0] : List Int)) 1) else (some (([] : List Int), 2)))) else (some (([] : List Int), 1)))
set_option maxHeartbeats 8000000 in
set_option maxRecDepth 100000 in
theorem lying_Slices.calls (k : Nat) (A0 : Option Addr) (c0 : Nat) (l0 : List (S39)) (a1 : Int) (r1 : List Int) (r2 : Int) (w : World) (hr0 : Kd.C k39 w A0 l0.length l0) (hc0 : l0.length ≤ c0) (h : lying_Slices.f k l0 a1 = some (r1, r2)) :
  Calls Try.prog 17 #[.slice A0 l0.length c0, .int .i64 a1] w fun e w' => ∃ v0_ : Value, e = .returned (.tuple #[v0_, .int .i64 r2]) ∧ Kd.R (Kd.int .i64) 3 w' w.heap.size (fun _ => True) v0_ r1 ∧ Below w.heap.size w w' := by
 have HR0 := Aside0.mk hr0
 have HC0 := Aside0.mk hc0
 clear hr0 hc0
 have HB := Aside0.mk (Below.refl w.heap.size w)
 have H : ((check48.f l0).bind fun t101 => (if t101 = 0 then ((lying_strips.f a1).bind fun t102 => (if t102 = true then (lying_Slices.l0 k l0 a1 (([0] : List Int)) 1) else (some (([] : List Int), 2)))) else (some (([] : List Int), 1)))) = some (r1, r2) := h
 clear h
 replace H := Option.bind_eq_some_iff.mp H
 obtain ⟨t101, A30, H⟩ := H
 try (set_option simprocs false in dsimp only at H)
 have A3 := Aside0.mk A30
 clear A30
 by_cases c4 : t101 = 0
 ·rw [if_pos c4] at H
  have c4b0 : (t101 == 0) = true := beq_iff_eq.mpr c4
  have c4b1 : (t101 != 0) = false := bne_eq_false_iff_eq.mpr c4
  clear c4
  replace H := Option.bind_eq_some_iff.mp H
  obtain ⟨t102, A50, H⟩ := H
  try (set_option simprocs false in dsimp only at H)
  have A5 := Aside0.mk A50
  clear A50
  by_cases c6 : t102 = true
  ·subst c6
   rw [if_pos rfl] at H
   obtain ⟨y103, hy103⟩ : ∃ y_ : List Int, y_ = (([0] : List Int)) := ⟨_, rfl⟩
   replace H : (lying_Slices.l0 k l0 a1 y103 1) = some (r1, r2) := by first | (rw [hy103]; with_reducible exact H) | (have H2_ := (Option.bind_some _ _).symm.trans H; rw [hy103]; with_reducible exact H2_) | (have H2_ := (Option.bind_some _ _).symm.trans H; with_reducible exact H2_) | with_reducible exact H | (rw [hy103]; exact H) | exact H
   have Ny103 := Aside0.mk hy103
   clear hy103
   have H' := Aside0.mk H
   clear H
   go_enter Try.func17, Try.ntmps17
   go_wp2_with (first | (go_at_call 48; (with_reducible refine (check48.calls _ _ l0 t101 _ ?side1 ?side2 A3.out).mono ?_); (case side1 => exact GS.rC HR0.out); (case side2 => exact HC0.out); rintro e w7 ⟨rfl, hb⟩; replace HB := GS.kH HB hb; (try clear hb); (try clear hb2); (try clear hk); (try clear hi)) | (go_at_call 49; (with_reducible refine (lying_strips.calls a1 true _ A5.out).mono ?_); rintro e w' ⟨rfl, ⟨nd, rfl⟩⟩; (try first | exact ⟨rfl, _, World.drewN_drewN _ _ _⟩ | exact ⟨rfl, _, Eq.trans (World.drewN_drewN _ _ _) (congrArg (World.drewN _) (Nat.add_assoc _ _ _))⟩)) | ((with_reducible refine gqD (N := 18) rfl ?_); refine Kd.R_lit (Kd.int .i64) _ 3 ?hg (N := 18) ?hd (xs := ([0] : List Int)) (inner := [.int .i64 0]) (ok := fun _ => True) (okp := fun _ => True) ?hr ?hp (fun _ hk => hk) trivial (Below.refl _ _) (Nat.le_refl _) (by simp) ?_; (case hd => rfl); (case hg => rfl); (case hr => first | (go_simp; done) | (go_simp; rfl)); (case hp => exact (Reps.one (show Kd.M (Kd.int .i64) _ _ _ 0 [.int .i64 0] from rfl) (Reps.none _ _))); intro v104 w8 ho9 hb hg_ hnew_; clear hg_ hnew_; (first | rw [← Ny103.out] at ho9 | (simp only [Int.reduceToNat] at ho9; rw [← Ny103.out] at ho9)); have q_ := GS.q2 (GS.kL ho9 HB) (GS.kH HB hb); clear HB; obtain ⟨HO105, HB⟩ := q_; clear hb ho9))
   repeat (go_quiet (first | (go_at_call 48; (with_reducible refine (check48.calls _ _ l0 t101 _ ?side1 ?side2 A3.out).mono ?_); (case side1 => exact GS.rC HR0.out); (case side2 => exact HC0.out); rintro e w7 ⟨rfl, hb⟩; replace HB := GS.kH HB hb; (try clear hb); (try clear hb2); (try clear hk); (try clear hi)) | (go_at_call 49; (with_reducible refine (lying_strips.calls a1 true _ A5.out).mono ?_); rintro e w' ⟨rfl, ⟨nd, rfl⟩⟩; (try first | exact ⟨rfl, _, World.drewN_drewN _ _ _⟩ | exact ⟨rfl, _, Eq.trans (World.drewN_drewN _ _ _) (congrArg (World.drewN _) (Nat.add_assoc _ _ _))⟩)) | ((with_reducible refine gqD (N := 18) rfl ?_); refine Kd.R_lit (Kd.int .i64) _ 3 ?hg (N := 18) ?hd (xs := ([0] : List Int)) (inner := [.int .i64 0]) (ok := fun _ => True) (okp := fun _ => True) ?hr ?hp (fun _ hk => hk) trivial (Below.refl _ _) (Nat.le_refl _) (by simp) ?_; (case hd => rfl); (case hg => rfl); (case hr => first | (go_simp; done) | (go_simp; rfl)); (case hp => exact (Reps.one (show Kd.M (Kd.int .i64) _ _ _ 0 [.int .i64 0] from rfl) (Reps.none _ _))); intro v104 w8 ho9 hb hg_ hnew_; clear hg_ hnew_; (first | rw [← Ny103.out] at ho9 | (simp only [Int.reduceToNat] at ho9; rw [← Ny103.out] at ho9)); have q_ := GS.q2 (GS.kL ho9 HB) (GS.kH HB hb); clear HB; obtain ⟨HO105, HB⟩ := q_; clear hb ho9)); try go_wp2_with (first | (go_at_call 48; (with_reducible refine (check48.calls _ _ l0 t101 _ ?side1 ?side2 A3.out).mono ?_); (case side1 => exact GS.rC HR0.out); (case side2 => exact HC0.out); rintro e w7 ⟨rfl, hb⟩; replace HB := GS.kH HB hb; (try clear hb); (try clear hb2); (try clear hk); (try clear hi)) | (go_at_call 49; (with_reducible refine (lying_strips.calls a1 true _ A5.out).mono ?_); rintro e w' ⟨rfl, ⟨nd, rfl⟩⟩; (try first | exact ⟨rfl, _, World.drewN_drewN _ _ _⟩ | exact ⟨rfl, _, Eq.trans (World.drewN_drewN _ _ _) (congrArg (World.drewN _) (Nat.add_assoc _ _ _))⟩)) | ((with_reducible refine gqD (N := 18) rfl ?_); refine Kd.R_lit (Kd.int .i64) _ 3 ?hg (N := 18) ?hd (xs := ([0] : List Int)) (inner := [.int .i64 0]) (ok := fun _ => True) (okp := fun _ => True) ?hr ?hp (fun _ hk => hk) trivial (Below.refl _ _) (Nat.le_refl _) (by simp) ?_; (case hd => rfl); (case hg => rfl); (case hr => first | (go_simp; done) | (go_simp; rfl)); (case hp => exact (Reps.one (show Kd.M (Kd.int .i64) _ _ _ 0 [.int .i64 0] from rfl) (Reps.none _ _))); intro v104 w8 ho9 hb hg_ hnew_; clear hg_ hnew_; (first | rw [← Ny103.out] at ho9 | (simp only [Int.reduceToNat] at ho9; rw [← Ny103.out] at ho9)); have q_ := GS.q2 (GS.kL ho9 HB) (GS.kH HB hb); clear HB; obtain ⟨HO105, HB⟩ := q_; clear hb ho9)))
   go_loopg [6, 7] k (fun kq v6 v7 w' => ∃ (x6_1 : List Int) (x7_1 : Int), v7 = .int .i64 x7_1 ∧ Aside0 (lying_Slices.l0 kq l0 a1 x6_1 x7_1 = some (r1, r2)) ∧ Aside0 (kq ≤ k) ∧ Aside0 (Kd.R (Kd.int .i64) 3 w' w.heap.size (fun _ => True) v6 x6_1) ∧ Aside0 (Below w.heap.size w w'))
   case atStart => exact ⟨(y103), (1), (by first | rfl | (simp; done) | (simp [*]; done)), H', ⟨Nat.le_refl _⟩, ⟨by (with_reducible repeat (first | apply Kd.R_alloc | apply Kd.R_drewN | apply Kd.R_drew)); exact HO105.out⟩, ⟨GS.lB HB.out⟩⟩
   case round =>
    clear H'
    try clear c4b0
    try clear c4b1
    obtain ⟨x6_1, x7_1, rfl, HA, HK1, HO_6, HB⟩ := hrel
    cases gk with
    | zero => exact absurd HA.out (by simp [lying_Slices.l0])
    | succ k1 =>
     have H := HA.out
     clear HA
     simp only [lying_Slices.l0] at H
     by_cases c10 : x7_1 < (l0.length : Int)
     ·rw [if_pos c10] at H
      have c10b0 : decide (x7_1 < (l0.length : Int)) = true := decide_eq_true c10
      clear c10
      obtain ⟨ji11, hji11⟩ : ∃ j_ : Int, (wrap64 (x7_1 - 1)) = j_ := ⟨_, rfl⟩
      replace H : (if 0 ≤ (ji11) then (if (ji11) < (l0.length : Int) then (if 0 ≤ x7_1 then (lying_Slices.l1 k1 l0 a1 x6_1 x7_1 ((rd_T39 l0 (ji11)).f0) (wrap64 (((rd_T39 l0 x7_1).f0) - ((rd_T39 l0 (ji11)).f0))) 1) else (none)) else (none)) else (none)) = some (r1, r2) := by first | (rw [hji11] at H; exact H) | (simp only [hji11] at H ⊢; exact H)
      have hji11w : (IntKind.i64.wrap (x7_1 - 1)) = ji11 := (i64_w _).trans hji11
      by_cases c12 : 0 ≤ (ji11)
      ·rw [if_pos c12] at H
       have c12b0 : decide (0 ≤ (ji11)) = true := decide_eq_true c12
       clear c12
       by_cases c13 : (ji11) < (l0.length : Int)
       ·rw [if_pos c13] at H
        have c13b0 : decide ((ji11) < (l0.length : Int)) = true := decide_eq_true c13
        clear c13
        by_cases c14 : 0 ≤ x7_1
        ·rw [if_pos c14] at H
         have c14b0 : decide (0 ≤ x7_1) = true := decide_eq_true c14
         clear c14
         have H' := Aside0.mk H
         clear H
         have p106 : 0 ≤ ((ji11) : Int) := of_decide_eq_true (by first | (with_reducible assumption) | assumption)
         have q106 : (ji11) < (l0.length : Int) := of_decide_eq_true (by first | (with_reducible assumption) | assumption)
         obtain ⟨ad106, e106, hx106_0, hx106_1⟩ := at_T39 HR0.out (ji11) p106 q106
         cases e106
         replace hx106_0 := (HB.out.cell (World.block_lt_of_cell? w _ hx106_0)).trans hx106_0
         replace hx106_1 := (HB.out.cell (World.block_lt_of_cell? w _ hx106_1)).trans hx106_1
         replace p106 := eq_true p106
         replace q106 := eq_true q106
         have p107 : 0 ≤ (x7_1 : Int) := of_decide_eq_true (by first | (with_reducible assumption) | assumption)
         have q107 : x7_1 < (l0.length : Int) := of_decide_eq_true (by first | (with_reducible assumption) | assumption)
         obtain ⟨ad107, e107, hx107_0, hx107_1⟩ := at_T39 HR0.out x7_1 p107 q107
         obtain rfl : ad106 = ad107 := (by injection e107)
         replace hx107_0 := (HB.out.cell (World.block_lt_of_cell? w _ hx107_0)).trans hx107_0
         replace hx107_1 := (HB.out.cell (World.block_lt_of_cell? w _ hx107_1)).trans hx107_1
         replace p107 := eq_true p107
         replace q107 := eq_true q107
         have p108 : 0 ≤ ((ji11) : Int) := of_decide_eq_true (by first | (with_reducible assumption) | assumption)
         have q108 : (ji11) < (l0.length : Int) := of_decide_eq_true (by first | (with_reducible assumption) | assumption)
         obtain ⟨ad108, e108, hx108_0, hx108_1⟩ := at_T39 HR0.out (ji11) p108 q108
         obtain rfl : ad106 = ad108 := (by injection e108)
         replace hx108_0 := (HB.out.cell (World.block_lt_of_cell? w _ hx108_0)).trans hx108_0
         replace hx108_1 := (HB.out.cell (World.block_lt_of_cell? w _ hx108_1)).trans hx108_1
         replace p108 := eq_true p108
         replace q108 := eq_true q108
         go_wp2
         repeat (go_quiet (fail); try go_wp2)
         go_loopg [6, 10] k1 (fun kq v6 v10 w' => ∃ (x6_2 : List Int) (x10_2 : Int), v10 = .int .i64 x10_2 ∧ Aside0 (lying_Slices.l1 kq l0 a1 x6_2 x7_1 ((rd_T39 l0 (ji11)).f0) (wrap64 (((rd_T39 l0 x7_1).f0) - ((rd_T39 l0 (ji11)).f0))) x10_2 = some (r1, r2)) ∧ Aside0 (kq ≤ k1) ∧ Aside0 (Kd.R (Kd.int .i64) 3 w' w.heap.size (fun _ => True) v6 x6_2) ∧ Aside0 (Below w.heap.size w w'))
         case atStart => exact ⟨(x6_1), (1), (by first | rfl | (simp; done) | (simp [*]; done)), H', ⟨Nat.le_refl _⟩, ⟨by (with_reducible repeat (first | apply Kd.R_alloc | apply Kd.R_drewN | apply Kd.R_drew)); exact HO_6.out⟩, ⟨GS.lB HB.out⟩⟩
         case round =>
          clear H'
          try clear c10b0
          try clear c12b0
          try clear c13b0
          try clear c14b0
          try clear hx106_0
          try clear hx106_1
          try clear hx107_0
          try clear hx107_1
          try clear hx108_0
          try clear hx108_1
          try clear p106
          try clear p107
          try clear p108
          try clear q106
          try clear q107
          try clear q108
          obtain ⟨x6_2, x10_2, rfl, HA, HK2, HO_6, HB⟩ := hrel
          cases gk with
          | zero => exact absurd HA.out (by simp [lying_Slices.l1])
          | succ k2 =>
           have H := HA.out
           clear HA
           simp only [lying_Slices.l1] at H
           by_cases c15 : x10_2 ≤ a1
           ·rw [if_pos c15] at H
            have c15b0 : decide (x10_2 ≤ a1) = true := decide_eq_true c15
            clear c15
            by_cases c16 : a1 = 0
            ·rw [if_pos c16] at H
             exact absurd H (by simp)
            ·rw [if_neg c16] at H
             have c16b0 : (a1 == 0) = false := beq_eq_false_iff_ne.mpr c16
             have c16b1 : (a1 != 0) = true := bne_iff_ne.mpr c16
             obtain ⟨ji17, hji17⟩ : ∃ j_ : Int, (wrap64 ((x6_2.length : Int) - 1)) = j_ := ⟨_, rfl⟩
             replace H : (if 0 ≤ (ji17) then (if (ji17) < (x6_2.length : Int) then (if (wrap64 (((rd_T39 l0 (ji11)).f0) + (wrap64 (Int.tdiv (wrap64 (x10_2 * (wrap64 (((rd_T39 l0 x7_1).f0) - ((rd_T39 l0 (ji11)).f0))))) a1)))) > (rd x6_2 (ji17)) then (if x6_2.length < 17592186044416 then (lying_Slices.l1 k2 l0 a1 (x6_2 ++ [wrap64 (((rd_T39 l0 (ji11)).f0) + (wrap64 (Int.tdiv (wrap64 (x10_2 * (wrap64 (((rd_T39 l0 x7_1).f0) - ((rd_T39 l0 (ji11)).f0))))) a1)))]) x7_1 ((rd_T39 l0 (ji11)).f0) (wrap64 (((rd_T39 l0 x7_1).f0) - ((rd_T39 l0 (ji11)).f0))) (wrap64 (x10_2 + 1))) else (none)) else (lying_Slices.l1 k2 l0 a1 x6_2 x7_1 ((rd_T39 l0 (ji11)).f0) (wrap64 (((rd_T39 l0 x7_1).f0) - ((rd_T39 l0 (ji11)).f0))) (wrap64 (x10_2 + 1)))) else (none)) else (none)) = some (r1, r2) := by first | (rw [hji17] at H; exact H) | (simp only [hji17] at H ⊢; exact H)
             have hji17w : (IntKind.i64.wrap ((x6_2.length : Int) - 1)) = ji17 := (i64_w _).trans hji17
             by_cases c18 : 0 ≤ (ji17)
             ·rw [if_pos c18] at H
              have c18b0 : decide (0 ≤ (ji17)) = true := decide_eq_true c18
              clear c18
              by_cases c19 : (ji17) < (x6_2.length : Int)
              ·rw [if_pos c19] at H
               have c19b0 : decide ((ji17) < (x6_2.length : Int)) = true := decide_eq_true c19
               clear c19
               by_cases c20 : (wrap64 (((rd_T39 l0 (ji11)).f0) + (wrap64 (Int.tdiv (wrap64 (x10_2 * (wrap64 (((rd_T39 l0 x7_1).f0) - ((rd_T39 l0 (ji11)).f0))))) a1)))) > (rd x6_2 (ji17))
               ·rw [if_pos c20] at H
                have c20b0 : decide ((rd x6_2 (ji17)) < (wrap64 (((rd_T39 l0 (ji11)).f0) + (wrap64 (Int.tdiv (wrap64 (x10_2 * (wrap64 (((rd_T39 l0 x7_1).f0) - ((rd_T39 l0 (ji11)).f0))))) a1))))) = true := decide_eq_true c20
                clear c20
                by_cases c21 : x6_2.length < 17592186044416
                ·rw [if_pos c21] at H
                 have LMc21 := Aside0.mk c21
                 clear c21
                 obtain ⟨y110, hy110⟩ : ∃ y_ : List Int, y_ = (x6_2 ++ [wrap64 (((rd_T39 l0 (ji11)).f0) + (wrap64 (Int.tdiv (wrap64 (x10_2 * (wrap64 (((rd_T39 l0 x7_1).f0) - ((rd_T39 l0 (ji11)).f0))))) a1)))]) := ⟨_, rfl⟩
                 replace H : (lying_Slices.l1 k2 l0 a1 y110 x7_1 ((rd_T39 l0 (ji11)).f0) (wrap64 (((rd_T39 l0 x7_1).f0) - ((rd_T39 l0 (ji11)).f0))) (wrap64 (x10_2 + 1))) = some (r1, r2) := by first | (rw [hy110]; with_reducible exact H) | (have H2_ := (Option.bind_some _ _).symm.trans H; rw [hy110]; with_reducible exact H2_) | (have H2_ := (Option.bind_some _ _).symm.trans H; with_reducible exact H2_) | with_reducible exact H | (rw [hy110]; exact H) | exact H
                 have Ny110 := Aside0.mk hy110
                 clear hy110
                 have H' := Aside0.mk H
                 clear H
                 obtain ⟨Ao22, co22, eo22⟩ := Kd.R_slice HO_6.out
                 subst eo22
                 have p109 : 0 ≤ ((ji17) : Int) := of_decide_eq_true (by first | (with_reducible assumption) | assumption)
                 have q109 : (ji17) < (x6_2.length : Int) := of_decide_eq_true (by first | (with_reducible assumption) | assumption)
                 obtain ⟨ad109, e109, hx109_0⟩ := Kd.at_int (Kd.R_reads' HO_6.out).2.2 (ji17) p109 q109
                 cases e109
                 replace p109 := eq_true p109
                 replace q109 := eq_true q109
                 go_wp2_with (first | ((with_reducible refine gate_builtin (b := .append) (xs := #[.tmp 63, .tmp 65]) rfl ?_); at_builtin; refine Kd.R_append (Kd.int .i64) (w0 := w) w.heap.size rfl (.tmp 63) (.tmp 65) 34 3 (.int .i64 0) 8 rfl Try.underlying34 info3 rfl (by decide) (by omega) (.slice (some ad109) x6_2.length co22) x6_2 (wrap64 (((rd_T39 l0 (ji11)).f0) + (wrap64 (Int.tdiv (wrap64 (x10_2 * (wrap64 (((rd_T39 l0 x7_1).f0) - ((rd_T39 l0 (ji11)).f0))))) a1)))) [.int .i64 (wrap64 (((rd_T39 l0 (ji11)).f0) + (wrap64 (Int.tdiv (wrap64 (x10_2 * (wrap64 (((rd_T39 l0 x7_1).f0) - ((rd_T39 l0 (ji11)).f0))))) a1))))] (fun _ => True) (fun _ => False) rfl rfl ?aP (fun _ hk => hk.elim) ?aF ?aO ?aB ?aS ?aL ?_; (case aP => exact rfl); (case aB => exact (GS.lB HB.out)); (case aF => exact (fun _ _ => trivial)); (case aO => exact (GS.rR HO_6.out)); (case aS => exact (lqZ (GS.lB HB.out))); (case aL => have := LMc21.out; omega); intro v111 w23 ho hb hg hat; rw [← Ny110.out] at ho; have q_ := GS.q2 (Aside0.mk hb) (Aside0.mk ho); clear HB HO_6; obtain ⟨HB, HO112⟩ := q_; clear ho hb hg hat))
                 repeat (go_quiet (first | ((with_reducible refine gate_builtin (b := .append) (xs := #[.tmp 63, .tmp 65]) rfl ?_); at_builtin; refine Kd.R_append (Kd.int .i64) (w0 := w) w.heap.size rfl (.tmp 63) (.tmp 65) 34 3 (.int .i64 0) 8 rfl Try.underlying34 info3 rfl (by decide) (by omega) (.slice (some ad109) x6_2.length co22) x6_2 (wrap64 (((rd_T39 l0 (ji11)).f0) + (wrap64 (Int.tdiv (wrap64 (x10_2 * (wrap64 (((rd_T39 l0 x7_1).f0) - ((rd_T39 l0 (ji11)).f0))))) a1)))) [.int .i64 (wrap64 (((rd_T39 l0 (ji11)).f0) + (wrap64 (Int.tdiv (wrap64 (x10_2 * (wrap64 (((rd_T39 l0 x7_1).f0) - ((rd_T39 l0 (ji11)).f0))))) a1))))] (fun _ => True) (fun _ => False) rfl rfl ?aP (fun _ hk => hk.elim) ?aF ?aO ?aB ?aS ?aL ?_; (case aP => exact rfl); (case aB => exact (GS.lB HB.out)); (case aF => exact (fun _ _ => trivial)); (case aO => exact (GS.rR HO_6.out)); (case aS => exact (lqZ (GS.lB HB.out))); (case aL => have := LMc21.out; omega); intro v111 w23 ho hb hg hat; rw [← Ny110.out] at ho; have q_ := GS.q2 (Aside0.mk hb) (Aside0.mk ho); clear HB HO_6; obtain ⟨HB, HO112⟩ := q_; clear ho hb hg hat)); try go_wp2_with (first | ((with_reducible refine gate_builtin (b := .append) (xs := #[.tmp 63, .tmp 65]) rfl ?_); at_builtin; refine Kd.R_append (Kd.int .i64) (w0 := w) w.heap.size rfl (.tmp 63) (.tmp 65) 34 3 (.int .i64 0) 8 rfl Try.underlying34 info3 rfl (by decide) (by omega) (.slice (some ad109) x6_2.length co22) x6_2 (wrap64 (((rd_T39 l0 (ji11)).f0) + (wrap64 (Int.tdiv (wrap64 (x10_2 * (wrap64 (((rd_T39 l0 x7_1).f0) - ((rd_T39 l0 (ji11)).f0))))) a1)))) [.int .i64 (wrap64 (((rd_T39 l0 (ji11)).f0) + (wrap64 (Int.tdiv (wrap64 (x10_2 * (wrap64 (((rd_T39 l0 x7_1).f0) - ((rd_T39 l0 (ji11)).f0))))) a1))))] (fun _ => True) (fun _ => False) rfl rfl ?aP (fun _ hk => hk.elim) ?aF ?aO ?aB ?aS ?aL ?_; (case aP => exact rfl); (case aB => exact (GS.lB HB.out)); (case aF => exact (fun _ _ => trivial)); (case aO => exact (GS.rR HO_6.out)); (case aS => exact (lqZ (GS.lB HB.out))); (case aL => have := LMc21.out; omega); intro v111 w23 ho hb hg hat; rw [← Ny110.out] at ho; have q_ := GS.q2 (Aside0.mk hb) (Aside0.mk ho); clear HB HO_6; obtain ⟨HB, HO112⟩ := q_; clear ho hb hg hat)))
                 go_roundg k2
                 case measure => have := HK1.out; have := HK2.out; omega
                 case rel => exact ⟨(y110), (wrap64 (x10_2 + 1)), (by first | rfl | (simp; done) | (simp [*]; done)), H', ⟨by have := HK1.out; have := HK2.out; omega⟩, ⟨by (with_reducible repeat (first | apply Kd.R_alloc | apply Kd.R_drewN | apply Kd.R_drew)); exact HO112.out⟩, ⟨GS.lB HB.out⟩⟩
                ·rw [if_neg c21] at H
                 exact absurd H (by simp)
               ·rw [if_neg c20] at H
                have c20b0 : decide ((rd x6_2 (ji17)) < (wrap64 (((rd_T39 l0 (ji11)).f0) + (wrap64 (Int.tdiv (wrap64 (x10_2 * (wrap64 (((rd_T39 l0 x7_1).f0) - ((rd_T39 l0 (ji11)).f0))))) a1))))) = false := decide_eq_false c20
                clear c20
                have H' := Aside0.mk H
                clear H
                obtain ⟨Ao24, co24, eo24⟩ := Kd.R_slice HO_6.out
                subst eo24
                have p109 : 0 ≤ ((ji17) : Int) := of_decide_eq_true (by first | (with_reducible assumption) | assumption)
                have q109 : (ji17) < (x6_2.length : Int) := of_decide_eq_true (by first | (with_reducible assumption) | assumption)
                obtain ⟨ad109, e109, hx109_0⟩ := Kd.at_int (Kd.R_reads' HO_6.out).2.2 (ji17) p109 q109
                cases e109
                replace p109 := eq_true p109
                replace q109 := eq_true q109
                go_wp2
                repeat (go_quiet (fail); try go_wp2)
                go_roundg k2
                case measure => have := HK1.out; have := HK2.out; omega
                case rel => exact ⟨(x6_2), (wrap64 (x10_2 + 1)), (by first | rfl | (simp; done) | (simp [*]; done)), H', ⟨by have := HK1.out; have := HK2.out; omega⟩, ⟨by (with_reducible repeat (first | apply Kd.R_alloc | apply Kd.R_drewN | apply Kd.R_drew)); exact HO_6.out⟩, ⟨GS.lB HB.out⟩⟩
              ·rw [if_neg c19] at H
               exact absurd H (by simp)
             ·rw [if_neg c18] at H
              exact absurd H (by simp)
           ·rw [if_neg c15] at H
            have c15b0 : decide (x10_2 ≤ a1) = false := decide_eq_false c15
            clear c15
            have H' := Aside0.mk H
            clear H
            go_wp2
            repeat (go_quiet (fail); try go_wp2)
            go_roundg k2
            case measure => have := HK1.out; have := HK2.out; omega
            case rel => exact ⟨(x6_2), (wrap64 (x7_1 + 1)), (by first | rfl | (simp; done) | (simp [*]; done)), H', ⟨by have := HK1.out; have := HK2.out; omega⟩, ⟨by (with_reducible repeat (first | apply Kd.R_alloc | apply Kd.R_drewN | apply Kd.R_drew)); exact HO_6.out⟩, ⟨GS.lB HB.out⟩⟩
        ·rw [if_neg c14] at H
         exact absurd H (by simp)
       ·rw [if_neg c13] at H
        exact absurd H (by simp)
      ·rw [if_neg c12] at H
       exact absurd H (by simp)
     ·rw [if_neg c10] at H
      have c10b0 : decide (x7_1 < (l0.length : Int)) = false := decide_eq_false c10
      clear c10
      by_cases c25 : (x6_1.length : Int) > 65
      ·rw [if_pos c25] at H
       have c25b0 : decide (65 < (x6_1.length : Int)) = true := decide_eq_true c25
       have c25b1 : decide (65 < x6_1.length) = true := decide_eq_true (by omega)
       clear c25
       simp only [Option.some.injEq, Prod.mk.injEq] at H
       obtain ⟨rfl, rfl⟩ := H
       obtain ⟨Ao26, co26, eo26⟩ := Kd.R_slice HO_6.out
       subst eo26
       go_wp2
       repeat (go_quiet (fail); try go_wp2)
       go_ret2
       exact ⟨_, by first | rfl | (simp [errW_none, errW_some] <;> rfl) | (simp [*, errW_none, errW_some] <;> rfl), by first | exact Kd.R_nil _ _ _ _ _ | exact Kd.N_nil _ _ _ _ _ | exact Kd.V_nil _ _ _ _ _ | exact Kd.Q_nil _ _ _ _ _ | exact Kd.S_nil _ _ _ _ _, GS.lB HB.out⟩
      ·rw [if_neg c25] at H
       have c25b0 : decide (65 < (x6_1.length : Int)) = false := decide_eq_false c25
       have c25b1 : decide (65 < x6_1.length) = false := decide_eq_false (by omega)
       clear c25
       simp only [Option.some.injEq, Prod.mk.injEq] at H
       obtain ⟨rfl, rfl⟩ := H
       obtain ⟨Ao27, co27, eo27⟩ := Kd.R_slice HO_6.out
       subst eo27
       go_wp2
       repeat (go_quiet (fail); try go_wp2)
       go_ret2
       exact ⟨_, by first | rfl | (simp [errW_none, errW_some] <;> rfl) | (simp [*, errW_none, errW_some] <;> rfl), by (with_reducible repeat (first | apply Kd.R_alloc | apply Kd.R_drewN | apply Kd.R_drew)); exact HO_6.out, GS.lB HB.out⟩
  ·replace c6 := Bool.eq_false_iff.mpr c6
   subst c6
   rw [if_neg (show ¬ (false = true) by decide)] at H
   simp only [Option.some.injEq, Prod.mk.injEq] at H
   obtain ⟨rfl, rfl⟩ := H
   go_enter Try.func17, Try.ntmps17
   go_wp2_with (first | (go_at_call 48; (with_reducible refine (check48.calls _ _ l0 t101 _ ?side1 ?side2 A3.out).mono ?_); (case side1 => exact GS.rC HR0.out); (case side2 => exact HC0.out); rintro e w28 ⟨rfl, hb⟩; replace HB := GS.kH HB hb; (try clear hb); (try clear hb2); (try clear hk); (try clear hi)) | (go_at_call 49; (with_reducible refine (lying_strips.calls a1 false _ A5.out).mono ?_); rintro e w' ⟨rfl, ⟨nd, rfl⟩⟩; (try first | exact ⟨rfl, _, World.drewN_drewN _ _ _⟩ | exact ⟨rfl, _, Eq.trans (World.drewN_drewN _ _ _) (congrArg (World.drewN _) (Nat.add_assoc _ _ _))⟩)))
   repeat (go_quiet (first | (go_at_call 48; (with_reducible refine (check48.calls _ _ l0 t101 _ ?side1 ?side2 A3.out).mono ?_); (case side1 => exact GS.rC HR0.out); (case side2 => exact HC0.out); rintro e w28 ⟨rfl, hb⟩; replace HB := GS.kH HB hb; (try clear hb); (try clear hb2); (try clear hk); (try clear hi)) | (go_at_call 49; (with_reducible refine (lying_strips.calls a1 false _ A5.out).mono ?_); rintro e w' ⟨rfl, ⟨nd, rfl⟩⟩; (try first | exact ⟨rfl, _, World.drewN_drewN _ _ _⟩ | exact ⟨rfl, _, Eq.trans (World.drewN_drewN _ _ _) (congrArg (World.drewN _) (Nat.add_assoc _ _ _))⟩))); try go_wp2_with (first | (go_at_call 48; (with_reducible refine (check48.calls _ _ l0 t101 _ ?side1 ?side2 A3.out).mono ?_); (case side1 => exact GS.rC HR0.out); (case side2 => exact HC0.out); rintro e w28 ⟨rfl, hb⟩; replace HB := GS.kH HB hb; (try clear hb); (try clear hb2); (try clear hk); (try clear hi)) | (go_at_call 49; (with_reducible refine (lying_strips.calls a1 false _ A5.out).mono ?_); rintro e w' ⟨rfl, ⟨nd, rfl⟩⟩; (try first | exact ⟨rfl, _, World.drewN_drewN _ _ _⟩ | exact ⟨rfl, _, Eq.trans (World.drewN_drewN _ _ _) (congrArg (World.drewN _) (Nat.add_assoc _ _ _))⟩))))
   go_ret2
   exact ⟨_, by first | rfl | (simp [errW_none, errW_some] <;> rfl) | (simp [*, errW_none, errW_some] <;> rfl), by first | exact Kd.R_nil _ _ _ _ _ | exact Kd.N_nil _ _ _ _ _ | exact Kd.V_nil _ _ _ _ _ | exact Kd.Q_nil _ _ _ _ _ | exact Kd.S_nil _ _ _ _ _, GS.lB HB.out⟩
 ·rw [if_neg c4] at H
  have c4b0 : (t101 == 0) = false := beq_eq_false_iff_ne.mpr c4
  have c4b1 : (t101 != 0) = true := bne_iff_ne.mpr c4
  simp only [Option.some.injEq, Prod.mk.injEq] at H
  obtain ⟨rfl, rfl⟩ := H
  go_enter Try.func17, Try.ntmps17
  go_wp2_with (first | (go_at_call 48; (with_reducible refine (check48.calls _ _ l0 t101 _ ?side1 ?side2 A3.out).mono ?_); (case side1 => exact GS.rC HR0.out); (case side2 => exact HC0.out); rintro e w29 ⟨rfl, hb⟩; replace HB := GS.kH HB hb; (try clear hb); (try clear hb2); (try clear hk); (try clear hi)))
  repeat (go_quiet (first | (go_at_call 48; (with_reducible refine (check48.calls _ _ l0 t101 _ ?side1 ?side2 A3.out).mono ?_); (case side1 => exact GS.rC HR0.out); (case side2 => exact HC0.out); rintro e w29 ⟨rfl, hb⟩; replace HB := GS.kH HB hb; (try clear hb); (try clear hb2); (try clear hk); (try clear hi))); try go_wp2_with (first | (go_at_call 48; (with_reducible refine (check48.calls _ _ l0 t101 _ ?side1 ?side2 A3.out).mono ?_); (case side1 => exact GS.rC HR0.out); (case side2 => exact HC0.out); rintro e w29 ⟨rfl, hb⟩; replace HB := GS.kH HB hb; (try clear hb); (try clear hb2); (try clear hk); (try clear hi))))
  go_ret2
  exact ⟨_, by first | rfl | (simp [errW_none, errW_some] <;> rfl) | (simp [*, errW_none, errW_some] <;> rfl), by first | exact Kd.R_nil _ _ _ _ _ | exact Kd.N_nil _ _ _ _ _ | exact Kd.V_nil _ _ _ _ _ | exact Kd.Q_nil _ _ _ _ _ | exact Kd.S_nil _ _ _ _ _, GS.lB HB.out⟩
end Go.Proofs.Ytefjmcljkmppoaa.K
