import Derived.Test.YtefjmcljkmppoaaK0
import Derived.Test.YtefjmcljkmppoaaGShort
import Derived.Test.YtefjmcljkmppoaaK11
namespace Go.Proofs.Ytefjmcljkmppoaa.K
open Go.RowKit Go.Proofs.YtefjmcljkmppoaaW.PrintWords Go.Proofs.YtefjmcljkmppoaaW.PrintLast Go.Proofs.YtefjmcljkmppoaaW.PrintMore
attribute [local go_sem] max2_int min2_int max_two min_two max_three min_three max_four min_four   -- for this text's walks alone
set_option linter.unusedVariables false
set_option linter.unusedSimpArgs false
mutual
def spileref11_Places.l0 : Nat → List (S39) → Int → List Int → Int → Option (List Int)
 | 0, _, _, _, _ => none
 | k + 1, x0, x1, x5, x6 => if x6 < (x0.length : Int) then (if 0 ≤ (wrap64 (x6 - 1)) then (if (wrap64 (x6 - 1)) < (x0.length : Int) then (if 0 ≤ x6 then (spileref11_Places.l1 k x0 x1 x5 x6 ((rd_T39 x0 (wrap64 (x6 - 1))).f0) ((rd_T39 x0 x6).f0) 1) else (none)) else (none)) else (none)) else (some x5)
def spileref11_Places.l1 : Nat → List (S39) → Int → List Int → Int → Int → Int → Int → Option (List Int)
 | 0, _, _, _, _, _, _, _ => none
 | k + 1, x0, x1, x5, x6, x7, x8, x9 => if x9 ≤ x1 then (if x1 = 0 then (none) else (if 0 ≤ (wrap64 ((x5.length : Int) - 1)) then (if (wrap64 ((x5.length : Int) - 1)) < (x5.length : Int) then (if (wrap64 (x7 + (wrap64 (Int.tdiv (wrap64 (x9 * (wrap64 (x8 - x7)))) x1)))) > (rd x5 (wrap64 ((x5.length : Int) - 1))) then (if x5.length < 17592186044416 then (spileref11_Places.l1 k x0 x1 (x5 ++ [wrap64 (x7 + (wrap64 (Int.tdiv (wrap64 (x9 * (wrap64 (x8 - x7)))) x1)))]) x6 x7 x8 (wrap64 (x9 + 1))) else (none)) else (spileref11_Places.l1 k x0 x1 x5 x6 x7 x8 (wrap64 (x9 + 1)))) else (none)) else (none))) else (spileref11_Places.l0 k x0 x1 x5 (wrap64 (x6 + 1)))
end
def spileref11_Places.f (k : Nat) (l0 : List (S39)) (a1 : Int) : Option (List Int) := spileref11_Places.l0 k l0 a1 (([0] : List Int)) 1
set_option maxHeartbeats 8000000 in
set_option maxRecDepth 100000 in
theorem spileref11_Places.calls (k : Nat) (A0 : Option Addr) (c0 : Nat) (l0 : List (S39)) (a1 : Int) (r : List Int) (w : World) (hr0 : Kd.C k39 w A0 l0.length l0) (hc0 : l0.length ≤ c0) (h : spileref11_Places.f k l0 a1 = some r) :
  Calls Try.prog 50 #[.slice A0 l0.length c0, .int .i64 a1] w fun e w' => ∃ v0_ : Value, e = .returned (v0_) ∧ Kd.R (Kd.int .i64) 3 w' w.heap.size (fun _ => True) v0_ r ∧ Below w.heap.size w w' := by
 have HR0 := Aside0.mk hr0
 have HC0 := Aside0.mk hc0
 clear hr0 hc0
 have HB := Aside0.mk (Below.refl w.heap.size w)
 have H : (spileref11_Places.l0 k l0 a1 (([0] : List Int)) 1) = some r := h
 clear h
 obtain ⟨y361, hy361⟩ : ∃ y_ : List Int, y_ = (([0] : List Int)) := ⟨_, rfl⟩
 replace H : (spileref11_Places.l0 k l0 a1 y361 1) = some r := by first | (rw [hy361]; with_reducible exact H) | (have H2_ := (Option.bind_some _ _).symm.trans H; rw [hy361]; with_reducible exact H2_) | (have H2_ := (Option.bind_some _ _).symm.trans H; with_reducible exact H2_) | with_reducible exact H | (rw [hy361]; exact H) | exact H
 have Ny361 := Aside0.mk hy361
 clear hy361
 have H' := Aside0.mk H
 clear H
 go_enter Try.func50, Try.ntmps50
 go_wp2_with (first | ((with_reducible refine gqD (N := 11) rfl ?_); refine Kd.R_lit (Kd.int .i64) _ 3 ?hg (N := 11) ?hd (xs := ([0] : List Int)) (inner := [.int .i64 0]) (ok := fun _ => True) (okp := fun _ => True) ?hr ?hp (fun _ hk => hk) trivial (Below.refl _ _) (Nat.le_refl _) (by simp) ?_; (case hd => rfl); (case hg => rfl); (case hr => first | (go_simp; done) | (go_simp; rfl)); (case hp => exact (Reps.one (show Kd.M (Kd.int .i64) _ _ _ 0 [.int .i64 0] from rfl) (Reps.none _ _))); intro v362 w3 ho4 hb hg_ hnew_; clear hg_ hnew_; (first | rw [← Ny361.out] at ho4 | (simp only [Int.reduceToNat] at ho4; rw [← Ny361.out] at ho4)); have q_ := GS.q2 (GS.kL ho4 HB) (GS.kH HB hb); clear HB; obtain ⟨HO363, HB⟩ := q_; clear hb ho4))
 repeat (go_quiet (first | ((with_reducible refine gqD (N := 11) rfl ?_); refine Kd.R_lit (Kd.int .i64) _ 3 ?hg (N := 11) ?hd (xs := ([0] : List Int)) (inner := [.int .i64 0]) (ok := fun _ => True) (okp := fun _ => True) ?hr ?hp (fun _ hk => hk) trivial (Below.refl _ _) (Nat.le_refl _) (by simp) ?_; (case hd => rfl); (case hg => rfl); (case hr => first | (go_simp; done) | (go_simp; rfl)); (case hp => exact (Reps.one (show Kd.M (Kd.int .i64) _ _ _ 0 [.int .i64 0] from rfl) (Reps.none _ _))); intro v362 w3 ho4 hb hg_ hnew_; clear hg_ hnew_; (first | rw [← Ny361.out] at ho4 | (simp only [Int.reduceToNat] at ho4; rw [← Ny361.out] at ho4)); have q_ := GS.q2 (GS.kL ho4 HB) (GS.kH HB hb); clear HB; obtain ⟨HO363, HB⟩ := q_; clear hb ho4)); try go_wp2_with (first | ((with_reducible refine gqD (N := 11) rfl ?_); refine Kd.R_lit (Kd.int .i64) _ 3 ?hg (N := 11) ?hd (xs := ([0] : List Int)) (inner := [.int .i64 0]) (ok := fun _ => True) (okp := fun _ => True) ?hr ?hp (fun _ hk => hk) trivial (Below.refl _ _) (Nat.le_refl _) (by simp) ?_; (case hd => rfl); (case hg => rfl); (case hr => first | (go_simp; done) | (go_simp; rfl)); (case hp => exact (Reps.one (show Kd.M (Kd.int .i64) _ _ _ 0 [.int .i64 0] from rfl) (Reps.none _ _))); intro v362 w3 ho4 hb hg_ hnew_; clear hg_ hnew_; (first | rw [← Ny361.out] at ho4 | (simp only [Int.reduceToNat] at ho4; rw [← Ny361.out] at ho4)); have q_ := GS.q2 (GS.kL ho4 HB) (GS.kH HB hb); clear HB; obtain ⟨HO363, HB⟩ := q_; clear hb ho4)))
 go_loopg [5, 6] k (fun kq v5 v6 w' => ∃ (x5_1 : List Int) (x6_1 : Int), v6 = .int .i64 x6_1 ∧ Aside0 (spileref11_Places.l0 kq l0 a1 x5_1 x6_1 = some r) ∧ Aside0 (kq ≤ k) ∧ Aside0 (Kd.R (Kd.int .i64) 3 w' w.heap.size (fun _ => True) v5 x5_1) ∧ Aside0 (Below w.heap.size w w'))
 case atStart => exact ⟨(y361), (1), (by first | rfl | (simp; done) | (simp [*]; done)), H', ⟨Nat.le_refl _⟩, ⟨by (with_reducible repeat (first | apply Kd.R_alloc | apply Kd.R_drewN | apply Kd.R_drew)); exact HO363.out⟩, ⟨GS.lB HB.out⟩⟩
 case round =>
  clear H'
  obtain ⟨x5_1, x6_1, rfl, HA, HK1, HO_5, HB⟩ := hrel
  cases gk with
  | zero => exact absurd HA.out (by simp [spileref11_Places.l0])
  | succ k1 =>
   have H := HA.out
   clear HA
   simp only [spileref11_Places.l0] at H
   by_cases c5 : x6_1 < (l0.length : Int)
   ·rw [if_pos c5] at H
    have c5b0 : decide (x6_1 < (l0.length : Int)) = true := decide_eq_true c5
    clear c5
    obtain ⟨ji6, hji6⟩ : ∃ j_ : Int, (wrap64 (x6_1 - 1)) = j_ := ⟨_, rfl⟩
    replace H : (if 0 ≤ (ji6) then (if (ji6) < (l0.length : Int) then (if 0 ≤ x6_1 then (spileref11_Places.l1 k1 l0 a1 x5_1 x6_1 ((rd_T39 l0 (ji6)).f0) ((rd_T39 l0 x6_1).f0) 1) else (none)) else (none)) else (none)) = some r := by first | (rw [hji6] at H; exact H) | (simp only [hji6] at H ⊢; exact H)
    have hji6w : (IntKind.i64.wrap (x6_1 - 1)) = ji6 := (i64_w _).trans hji6
    by_cases c7 : 0 ≤ (ji6)
    ·rw [if_pos c7] at H
     have c7b0 : decide (0 ≤ (ji6)) = true := decide_eq_true c7
     clear c7
     by_cases c8 : (ji6) < (l0.length : Int)
     ·rw [if_pos c8] at H
      have c8b0 : decide ((ji6) < (l0.length : Int)) = true := decide_eq_true c8
      clear c8
      by_cases c9 : 0 ≤ x6_1
      ·rw [if_pos c9] at H
       have c9b0 : decide (0 ≤ x6_1) = true := decide_eq_true c9
       clear c9
       have H' := Aside0.mk H
       clear H
       have p364 : 0 ≤ ((ji6) : Int) := of_decide_eq_true (by first | (with_reducible assumption) | assumption)
       have q364 : (ji6) < (l0.length : Int) := of_decide_eq_true (by first | (with_reducible assumption) | assumption)
       obtain ⟨ad364, e364, hx364_0, hx364_1⟩ := at_T39 HR0.out (ji6) p364 q364
       cases e364
       replace hx364_0 := (HB.out.cell (World.block_lt_of_cell? w _ hx364_0)).trans hx364_0
       replace hx364_1 := (HB.out.cell (World.block_lt_of_cell? w _ hx364_1)).trans hx364_1
       replace p364 := eq_true p364
       replace q364 := eq_true q364
       have p365 : 0 ≤ (x6_1 : Int) := of_decide_eq_true (by first | (with_reducible assumption) | assumption)
       have q365 : x6_1 < (l0.length : Int) := of_decide_eq_true (by first | (with_reducible assumption) | assumption)
       obtain ⟨ad365, e365, hx365_0, hx365_1⟩ := at_T39 HR0.out x6_1 p365 q365
       obtain rfl : ad364 = ad365 := (by injection e365)
       replace hx365_0 := (HB.out.cell (World.block_lt_of_cell? w _ hx365_0)).trans hx365_0
       replace hx365_1 := (HB.out.cell (World.block_lt_of_cell? w _ hx365_1)).trans hx365_1
       replace p365 := eq_true p365
       replace q365 := eq_true q365
       go_wp2
       repeat (go_quiet (fail); try go_wp2)
       go_loopg [5, 9] k1 (fun kq v5 v9 w' => ∃ (x5_2 : List Int) (x9_2 : Int), v9 = .int .i64 x9_2 ∧ Aside0 (spileref11_Places.l1 kq l0 a1 x5_2 x6_1 ((rd_T39 l0 (ji6)).f0) ((rd_T39 l0 x6_1).f0) x9_2 = some r) ∧ Aside0 (kq ≤ k1) ∧ Aside0 (Kd.R (Kd.int .i64) 3 w' w.heap.size (fun _ => True) v5 x5_2) ∧ Aside0 (Below w.heap.size w w'))
       case atStart => exact ⟨(x5_1), (1), (by first | rfl | (simp; done) | (simp [*]; done)), H', ⟨Nat.le_refl _⟩, ⟨by (with_reducible repeat (first | apply Kd.R_alloc | apply Kd.R_drewN | apply Kd.R_drew)); exact HO_5.out⟩, ⟨GS.lB HB.out⟩⟩
       case round =>
        clear H'
        try clear c5b0
        try clear c7b0
        try clear c8b0
        try clear c9b0
        try clear hx364_0
        try clear hx364_1
        try clear hx365_0
        try clear hx365_1
        try clear p364
        try clear p365
        try clear q364
        try clear q365
        obtain ⟨x5_2, x9_2, rfl, HA, HK2, HO_5, HB⟩ := hrel
        cases gk with
        | zero => exact absurd HA.out (by simp [spileref11_Places.l1])
        | succ k2 =>
         have H := HA.out
         clear HA
         simp only [spileref11_Places.l1] at H
         by_cases c10 : x9_2 ≤ a1
         ·rw [if_pos c10] at H
          have c10b0 : decide (x9_2 ≤ a1) = true := decide_eq_true c10
          clear c10
          by_cases c11 : a1 = 0
          ·rw [if_pos c11] at H
           exact absurd H (by simp)
          ·rw [if_neg c11] at H
           have c11b0 : (a1 == 0) = false := beq_eq_false_iff_ne.mpr c11
           have c11b1 : (a1 != 0) = true := bne_iff_ne.mpr c11
           obtain ⟨ji12, hji12⟩ : ∃ j_ : Int, (wrap64 ((x5_2.length : Int) - 1)) = j_ := ⟨_, rfl⟩
           replace H : (if 0 ≤ (ji12) then (if (ji12) < (x5_2.length : Int) then (if (wrap64 (((rd_T39 l0 (ji6)).f0) + (wrap64 (Int.tdiv (wrap64 (x9_2 * (wrap64 (((rd_T39 l0 x6_1).f0) - ((rd_T39 l0 (ji6)).f0))))) a1)))) > (rd x5_2 (ji12)) then (if x5_2.length < 17592186044416 then (spileref11_Places.l1 k2 l0 a1 (x5_2 ++ [wrap64 (((rd_T39 l0 (ji6)).f0) + (wrap64 (Int.tdiv (wrap64 (x9_2 * (wrap64 (((rd_T39 l0 x6_1).f0) - ((rd_T39 l0 (ji6)).f0))))) a1)))]) x6_1 ((rd_T39 l0 (ji6)).f0) ((rd_T39 l0 x6_1).f0) (wrap64 (x9_2 + 1))) else (none)) else (spileref11_Places.l1 k2 l0 a1 x5_2 x6_1 ((rd_T39 l0 (ji6)).f0) ((rd_T39 l0 x6_1).f0) (wrap64 (x9_2 + 1)))) else (none)) else (none)) = some r := by first | (rw [hji12] at H; exact H) | (simp only [hji12] at H ⊢; exact H)
           have hji12w : (IntKind.i64.wrap ((x5_2.length : Int) - 1)) = ji12 := (i64_w _).trans hji12
           by_cases c13 : 0 ≤ (ji12)
           ·rw [if_pos c13] at H
            have c13b0 : decide (0 ≤ (ji12)) = true := decide_eq_true c13
            clear c13
            by_cases c14 : (ji12) < (x5_2.length : Int)
            ·rw [if_pos c14] at H
             have c14b0 : decide ((ji12) < (x5_2.length : Int)) = true := decide_eq_true c14
             clear c14
             by_cases c15 : (wrap64 (((rd_T39 l0 (ji6)).f0) + (wrap64 (Int.tdiv (wrap64 (x9_2 * (wrap64 (((rd_T39 l0 x6_1).f0) - ((rd_T39 l0 (ji6)).f0))))) a1)))) > (rd x5_2 (ji12))
             ·rw [if_pos c15] at H
              have c15b0 : decide ((rd x5_2 (ji12)) < (wrap64 (((rd_T39 l0 (ji6)).f0) + (wrap64 (Int.tdiv (wrap64 (x9_2 * (wrap64 (((rd_T39 l0 x6_1).f0) - ((rd_T39 l0 (ji6)).f0))))) a1))))) = true := decide_eq_true c15
              clear c15
              by_cases c16 : x5_2.length < 17592186044416
              ·rw [if_pos c16] at H
               have LMc16 := Aside0.mk c16
               clear c16
               obtain ⟨y367, hy367⟩ : ∃ y_ : List Int, y_ = (x5_2 ++ [wrap64 (((rd_T39 l0 (ji6)).f0) + (wrap64 (Int.tdiv (wrap64 (x9_2 * (wrap64 (((rd_T39 l0 x6_1).f0) - ((rd_T39 l0 (ji6)).f0))))) a1)))]) := ⟨_, rfl⟩
               replace H : (spileref11_Places.l1 k2 l0 a1 y367 x6_1 ((rd_T39 l0 (ji6)).f0) ((rd_T39 l0 x6_1).f0) (wrap64 (x9_2 + 1))) = some r := by first | (rw [hy367]; with_reducible exact H) | (have H2_ := (Option.bind_some _ _).symm.trans H; rw [hy367]; with_reducible exact H2_) | (have H2_ := (Option.bind_some _ _).symm.trans H; with_reducible exact H2_) | with_reducible exact H | (rw [hy367]; exact H) | exact H
               have Ny367 := Aside0.mk hy367
               clear hy367
               have H' := Aside0.mk H
               clear H
               obtain ⟨Ao17, co17, eo17⟩ := Kd.R_slice HO_5.out
               subst eo17
               have p366 : 0 ≤ ((ji12) : Int) := of_decide_eq_true (by first | (with_reducible assumption) | assumption)
               have q366 : (ji12) < (x5_2.length : Int) := of_decide_eq_true (by first | (with_reducible assumption) | assumption)
               obtain ⟨ad366, e366, hx366_0⟩ := Kd.at_int (Kd.R_reads' HO_5.out).2.2 (ji12) p366 q366
               cases e366
               replace p366 := eq_true p366
               replace q366 := eq_true q366
               go_wp2_with (first | ((with_reducible refine gate_builtin (b := .append) (xs := #[.tmp 51, .tmp 53]) rfl ?_); at_builtin; refine Kd.R_append (Kd.int .i64) (w0 := w) w.heap.size rfl (.tmp 51) (.tmp 53) 34 3 (.int .i64 0) 8 rfl Try.underlying34 info3 rfl (by decide) (by omega) (.slice (some ad366) x5_2.length co17) x5_2 (wrap64 (((rd_T39 l0 (ji6)).f0) + (wrap64 (Int.tdiv (wrap64 (x9_2 * (wrap64 (((rd_T39 l0 x6_1).f0) - ((rd_T39 l0 (ji6)).f0))))) a1)))) [.int .i64 (wrap64 (((rd_T39 l0 (ji6)).f0) + (wrap64 (Int.tdiv (wrap64 (x9_2 * (wrap64 (((rd_T39 l0 x6_1).f0) - ((rd_T39 l0 (ji6)).f0))))) a1))))] (fun _ => True) (fun _ => False) rfl rfl ?aP (fun _ hk => hk.elim) ?aF ?aO ?aB ?aS ?aL ?_; (case aP => exact rfl); (case aB => exact (GS.lB HB.out)); (case aF => exact (fun _ _ => trivial)); (case aO => exact (GS.rR HO_5.out)); (case aS => exact (lqZ (GS.lB HB.out))); (case aL => have := LMc16.out; omega); intro v368 w18 ho hb hg hat; rw [← Ny367.out] at ho; have q_ := GS.q2 (Aside0.mk hb) (Aside0.mk ho); clear HB HO_5; obtain ⟨HB, HO369⟩ := q_; clear ho hb hg hat))
               repeat (go_quiet (first | ((with_reducible refine gate_builtin (b := .append) (xs := #[.tmp 51, .tmp 53]) rfl ?_); at_builtin; refine Kd.R_append (Kd.int .i64) (w0 := w) w.heap.size rfl (.tmp 51) (.tmp 53) 34 3 (.int .i64 0) 8 rfl Try.underlying34 info3 rfl (by decide) (by omega) (.slice (some ad366) x5_2.length co17) x5_2 (wrap64 (((rd_T39 l0 (ji6)).f0) + (wrap64 (Int.tdiv (wrap64 (x9_2 * (wrap64 (((rd_T39 l0 x6_1).f0) - ((rd_T39 l0 (ji6)).f0))))) a1)))) [.int .i64 (wrap64 (((rd_T39 l0 (ji6)).f0) + (wrap64 (Int.tdiv (wrap64 (x9_2 * (wrap64 (((rd_T39 l0 x6_1).f0) - ((rd_T39 l0 (ji6)).f0))))) a1))))] (fun _ => True) (fun _ => False) rfl rfl ?aP (fun _ hk => hk.elim) ?aF ?aO ?aB ?aS ?aL ?_; (case aP => exact rfl); (case aB => exact (GS.lB HB.out)); (case aF => exact (fun _ _ => trivial)); (case aO => exact (GS.rR HO_5.out)); (case aS => exact (lqZ (GS.lB HB.out))); (case aL => have := LMc16.out; omega); intro v368 w18 ho hb hg hat; rw [← Ny367.out] at ho; have q_ := GS.q2 (Aside0.mk hb) (Aside0.mk ho); clear HB HO_5; obtain ⟨HB, HO369⟩ := q_; clear ho hb hg hat)); try go_wp2_with (first | ((with_reducible refine gate_builtin (b := .append) (xs := #[.tmp 51, .tmp 53]) rfl ?_); at_builtin; refine Kd.R_append (Kd.int .i64) (w0 := w) w.heap.size rfl (.tmp 51) (.tmp 53) 34 3 (.int .i64 0) 8 rfl Try.underlying34 info3 rfl (by decide) (by omega) (.slice (some ad366) x5_2.length co17) x5_2 (wrap64 (((rd_T39 l0 (ji6)).f0) + (wrap64 (Int.tdiv (wrap64 (x9_2 * (wrap64 (((rd_T39 l0 x6_1).f0) - ((rd_T39 l0 (ji6)).f0))))) a1)))) [.int .i64 (wrap64 (((rd_T39 l0 (ji6)).f0) + (wrap64 (Int.tdiv (wrap64 (x9_2 * (wrap64 (((rd_T39 l0 x6_1).f0) - ((rd_T39 l0 (ji6)).f0))))) a1))))] (fun _ => True) (fun _ => False) rfl rfl ?aP (fun _ hk => hk.elim) ?aF ?aO ?aB ?aS ?aL ?_; (case aP => exact rfl); (case aB => exact (GS.lB HB.out)); (case aF => exact (fun _ _ => trivial)); (case aO => exact (GS.rR HO_5.out)); (case aS => exact (lqZ (GS.lB HB.out))); (case aL => have := LMc16.out; omega); intro v368 w18 ho hb hg hat; rw [← Ny367.out] at ho; have q_ := GS.q2 (Aside0.mk hb) (Aside0.mk ho); clear HB HO_5; obtain ⟨HB, HO369⟩ := q_; clear ho hb hg hat)))
               go_roundg k2
               case measure => have := HK1.out; have := HK2.out; omega
               case rel => exact ⟨(y367), (wrap64 (x9_2 + 1)), (by first | rfl | (simp; done) | (simp [*]; done)), H', ⟨by have := HK1.out; have := HK2.out; omega⟩, ⟨by (with_reducible repeat (first | apply Kd.R_alloc | apply Kd.R_drewN | apply Kd.R_drew)); exact HO369.out⟩, ⟨GS.lB HB.out⟩⟩
              ·rw [if_neg c16] at H
               exact absurd H (by simp)
             ·rw [if_neg c15] at H
              have c15b0 : decide ((rd x5_2 (ji12)) < (wrap64 (((rd_T39 l0 (ji6)).f0) + (wrap64 (Int.tdiv (wrap64 (x9_2 * (wrap64 (((rd_T39 l0 x6_1).f0) - ((rd_T39 l0 (ji6)).f0))))) a1))))) = false := decide_eq_false c15
              clear c15
              have H' := Aside0.mk H
              clear H
              obtain ⟨Ao19, co19, eo19⟩ := Kd.R_slice HO_5.out
              subst eo19
              have p366 : 0 ≤ ((ji12) : Int) := of_decide_eq_true (by first | (with_reducible assumption) | assumption)
              have q366 : (ji12) < (x5_2.length : Int) := of_decide_eq_true (by first | (with_reducible assumption) | assumption)
              obtain ⟨ad366, e366, hx366_0⟩ := Kd.at_int (Kd.R_reads' HO_5.out).2.2 (ji12) p366 q366
              cases e366
              replace p366 := eq_true p366
              replace q366 := eq_true q366
              go_wp2
              repeat (go_quiet (fail); try go_wp2)
              go_roundg k2
              case measure => have := HK1.out; have := HK2.out; omega
              case rel => exact ⟨(x5_2), (wrap64 (x9_2 + 1)), (by first | rfl | (simp; done) | (simp [*]; done)), H', ⟨by have := HK1.out; have := HK2.out; omega⟩, ⟨by (with_reducible repeat (first | apply Kd.R_alloc | apply Kd.R_drewN | apply Kd.R_drew)); exact HO_5.out⟩, ⟨GS.lB HB.out⟩⟩
            ·rw [if_neg c14] at H
             exact absurd H (by simp)
           ·rw [if_neg c13] at H
            exact absurd H (by simp)
         ·rw [if_neg c10] at H
          have c10b0 : decide (x9_2 ≤ a1) = false := decide_eq_false c10
          clear c10
          have H' := Aside0.mk H
          clear H
          go_wp2
          repeat (go_quiet (fail); try go_wp2)
          go_roundg k2
          case measure => have := HK1.out; have := HK2.out; omega
          case rel => exact ⟨(x5_2), (wrap64 (x6_1 + 1)), (by first | rfl | (simp; done) | (simp [*]; done)), H', ⟨by have := HK1.out; have := HK2.out; omega⟩, ⟨by (with_reducible repeat (first | apply Kd.R_alloc | apply Kd.R_drewN | apply Kd.R_drew)); exact HO_5.out⟩, ⟨GS.lB HB.out⟩⟩
      ·rw [if_neg c9] at H
       exact absurd H (by simp)
     ·rw [if_neg c8] at H
      exact absurd H (by simp)
    ·rw [if_neg c7] at H
     exact absurd H (by simp)
   ·rw [if_neg c5] at H
    have c5b0 : decide (x6_1 < (l0.length : Int)) = false := decide_eq_false c5
    clear c5
    obtain rfl := Option.some.inj H
    go_wp2
    repeat (go_quiet (fail); try go_wp2)
    go_ret
    exact ⟨_, by first | rfl | (simp [errW_none, errW_some] <;> rfl) | (simp [*, errW_none, errW_some] <;> rfl), by (with_reducible repeat (first | apply Kd.R_alloc | apply Kd.R_drewN | apply Kd.R_drew)); exact HO_5.out, GS.lB HB.out⟩
def spileref11_Slices.j0 : Nat → List (S39) → Int → Bool → Option (List Int × Int)
 | 0, _, _, _ => none
 | k + 1, x0, x1, x15 => if x15 = true then (some (([] : List Int), 2)) else ((spileref11_Places.f k x0 x1).bind fun t371 => (if (t371.length : Int) > 65 then (some (([] : List Int), 15)) else (some (t371, 0))))
def spileref11_Slices.f (k : Nat) (l0 : List (S39)) (a1 : Int) : Option (List Int × Int) := (spileref08_Check.f k l0).bind fun t370 => (if t370 = 0 then (if a1 < 1 then (spileref11_Slices.j0 k l0 a1 true) else (spileref11_Slices.j0 k l0 a1 (decide (a1 > 64)))) else (some (([] : List Int), 1)))
set_option maxHeartbeats 8000000 in
set_option maxRecDepth 100000 in
theorem spileref11_Slices.calls (k : Nat) (A0 : Option Addr) (c0 : Nat) (l0 : List (S39)) (a1 : Int) (r1 : List Int) (r2 : Int) (w : World) (hr0 : Kd.C k39 w A0 l0.length l0) (hc0 : l0.length ≤ c0) (h : spileref11_Slices.f k l0 a1 = some (r1, r2)) :
  Calls Try.prog 19 #[.slice A0 l0.length c0, .int .i64 a1] w fun e w' => ∃ v0_ : Value, e = .returned (.tuple #[v0_, .int .i64 r2]) ∧ Kd.R (Kd.int .i64) 3 w' w.heap.size (fun _ => True) v0_ r1 ∧ Below w.heap.size w w' := by
 have HR0 := Aside0.mk hr0
 have HC0 := Aside0.mk hc0
 clear hr0 hc0
 have HB := Aside0.mk (Below.refl w.heap.size w)
 have H : ((spileref08_Check.f k l0).bind fun t370 => (if t370 = 0 then (if a1 < 1 then (spileref11_Slices.j0 k l0 a1 true) else (spileref11_Slices.j0 k l0 a1 (decide (a1 > 64)))) else (some (([] : List Int), 1)))) = some (r1, r2) := h
 clear h
 replace H := Option.bind_eq_some_iff.mp H
 obtain ⟨t370, A30, H⟩ := H
 try (set_option simprocs false in dsimp only at H)
 have A3 := Aside0.mk A30
 clear A30
 by_cases c4 : t370 = 0
 ·rw [if_pos c4] at H
  have c4b0 : (t370 == 0) = true := beq_iff_eq.mpr c4
  have c4b1 : (t370 != 0) = false := bne_eq_false_iff_eq.mpr c4
  clear c4
  have HC5 := Aside0.mk H
  clear H
  go_enter Try.func19, Try.ntmps19
  go_upto_region 3 with (first | ((with_reducible refine gqC (f := 30) rfl ?_); refine GS.gL (some 8) Try.func30 #[.slice A0 l0.length c0] ?_; (with_reducible refine (spileref08_Check.calls k _ _ l0 t370 _ ?side1 ?side2 A3.out).mono ?_); (case side1 => exact GS.rC HR0.out); (case side2 => exact HC0.out); rintro e w' ⟨rfl, ⟨nd, rfl⟩⟩; refine ⟨_, rfl, ?_⟩))
  (try simp only [Act.put, List.setIfInBounds_toArray, List.set_cons_zero, List.set_cons_succ])
  go_cut [15] (fun v15 wc => ∃ (kq : Nat) (x15_4 : Bool), v15 = .bool x15_4 ∧ Aside0 (spileref11_Slices.j0 kq l0 a1 x15_4 = some (r1, r2)) ∧ Aside0 (kq ≤ k) ∧ Aside0 (Below w.heap.size w wc))
  case first =>
   have H := HC5.out
   clear HC5
   by_cases c6 : a1 < 1
   ·rw [if_pos c6] at H
    have c6b0 : decide (a1 < 1) = true := decide_eq_true c6
    clear c6
    (first | rw [c6b0] | (simp only [i64_w, i32_w]; rw [c6b0]) | skip)
    have H' := Aside0.mk H
    clear H
    go_wp2
    go_meet
    case rel => exact ⟨_, (true), (by first | rfl | (simp; done) | (simp [*]; done)), H', ⟨by first | omega | exact Nat.le_refl _⟩, ⟨GS.lB HB.out⟩⟩
   ·rw [if_neg c6] at H
    have c6b0 : decide (a1 < 1) = false := decide_eq_false c6
    clear c6
    (first | rw [c6b0] | (simp only [i64_w, i32_w]; rw [c6b0]) | skip)
    have H' := Aside0.mk H
    clear H
    go_wp2
    go_meet
    case rel => exact ⟨_, (decide (a1 > 64)), (by first | rfl | (simp; done) | (simp [*]; done)), H', ⟨by first | omega | exact Nat.le_refl _⟩, ⟨GS.lB HB.out⟩⟩
  case rest =>
   clear HC5
   try clear c4b0
   try clear c4b1
   obtain ⟨kq, x15_4, rfl, HA, HJ4, HB⟩ := hcut
   cases kq with
   | zero => exact absurd HA.out (by simp [spileref11_Slices.j0])
   | succ kj4 =>
    have H := HA.out
    clear HA
    simp only [spileref11_Slices.j0] at H
    by_cases c7 : x15_4 = true
    ·subst c7
     rw [if_pos rfl] at H
     simp only [Option.some.injEq, Prod.mk.injEq] at H
     obtain ⟨rfl, rfl⟩ := H
     go_wp2
     go_ret2
     exact ⟨_, by first | rfl | (simp [errW_none, errW_some] <;> rfl) | (simp [*, errW_none, errW_some] <;> rfl), by first | exact Kd.R_nil _ _ _ _ _ | exact Kd.N_nil _ _ _ _ _ | exact Kd.V_nil _ _ _ _ _ | exact Kd.Q_nil _ _ _ _ _ | exact Kd.S_nil _ _ _ _ _, GS.lB HB.out⟩
    ·replace c7 := Bool.eq_false_iff.mpr c7
     subst c7
     rw [if_neg (show ¬ (false = true) by decide)] at H
     replace H := Option.bind_eq_some_iff.mp H
     obtain ⟨t371, A80, H⟩ := H
     try (set_option simprocs false in dsimp only at H)
     have A8 := Aside0.mk A80
     clear A80
     by_cases c9 : (t371.length : Int) > 65
     ·rw [if_pos c9] at H
      have c9b0 : decide (65 < (t371.length : Int)) = true := decide_eq_true c9
      have c9b1 : decide (65 < t371.length) = true := decide_eq_true (by omega)
      clear c9
      simp only [Option.some.injEq, Prod.mk.injEq] at H
      obtain ⟨rfl, rfl⟩ := H
      go_wp2_with (first | ((with_reducible refine gqC (f := 50) rfl ?_); refine GS.gL (some 18) Try.func50 #[.slice A0 l0.length c0, .int .i64 a1] ?_; (with_reducible refine (spileref11_Places.calls kj4 _ _ l0 a1 t371 _ ?side1 ?side2 A8.out).mono ?_); (case side1 => exact GS.rC (Kd.C_below HR0.out HB.out)); (case side2 => exact HC0.out); rintro e w10 ⟨v372, rfl, ho0, hb⟩; refine ⟨_, rfl, ?_⟩; have q_ := GS.q2 (GS.kL ho0 HB) (GS.kH HB hb); clear HB; obtain ⟨HO373, HB⟩ := q_; (try clear hb); (try clear hb2); (try clear hk); (try clear hi); (try clear ho0); obtain ⟨Ao11, co11, eo11⟩ := Kd.R_slice HO373.out; subst eo11))
      go_ret2
      exact ⟨_, by first | rfl | (simp [errW_none, errW_some] <;> rfl) | (simp [*, errW_none, errW_some] <;> rfl), by first | exact Kd.R_nil _ _ _ _ _ | exact Kd.N_nil _ _ _ _ _ | exact Kd.V_nil _ _ _ _ _ | exact Kd.Q_nil _ _ _ _ _ | exact Kd.S_nil _ _ _ _ _, GS.lB HB.out⟩
     ·rw [if_neg c9] at H
      have c9b0 : decide (65 < (t371.length : Int)) = false := decide_eq_false c9
      have c9b1 : decide (65 < t371.length) = false := decide_eq_false (by omega)
      clear c9
      simp only [Option.some.injEq, Prod.mk.injEq] at H
      obtain ⟨rfl, rfl⟩ := H
      go_wp2_with (first | ((with_reducible refine gqC (f := 50) rfl ?_); refine GS.gL (some 18) Try.func50 #[.slice A0 l0.length c0, .int .i64 a1] ?_; (with_reducible refine (spileref11_Places.calls kj4 _ _ l0 a1 t371 _ ?side1 ?side2 A8.out).mono ?_); (case side1 => exact GS.rC (Kd.C_below HR0.out HB.out)); (case side2 => exact HC0.out); rintro e w12 ⟨v372, rfl, ho0, hb⟩; refine ⟨_, rfl, ?_⟩; have q_ := GS.q2 (GS.kL ho0 HB) (GS.kH HB hb); clear HB; obtain ⟨HO373, HB⟩ := q_; (try clear hb); (try clear hb2); (try clear hk); (try clear hi); (try clear ho0); obtain ⟨Ao13, co13, eo13⟩ := Kd.R_slice HO373.out; subst eo13))
      go_ret2
      exact ⟨_, by first | rfl | (simp [errW_none, errW_some] <;> rfl) | (simp [*, errW_none, errW_some] <;> rfl), by (with_reducible repeat (first | apply Kd.R_alloc | apply Kd.R_drewN | apply Kd.R_drew)); exact HO373.out, GS.lB HB.out⟩
 ·rw [if_neg c4] at H
  have c4b0 : (t370 == 0) = false := beq_eq_false_iff_ne.mpr c4
  have c4b1 : (t370 != 0) = true := bne_iff_ne.mpr c4
  simp only [Option.some.injEq, Prod.mk.injEq] at H
  obtain ⟨rfl, rfl⟩ := H
  go_enter Try.func19, Try.ntmps19
  go_wp2_with (first | ((with_reducible refine gqC (f := 30) rfl ?_); refine GS.gL (some 8) Try.func30 #[.slice A0 l0.length c0] ?_; (with_reducible refine (spileref08_Check.calls k _ _ l0 t370 _ ?side1 ?side2 A3.out).mono ?_); (case side1 => exact GS.rC HR0.out); (case side2 => exact HC0.out); rintro e w' ⟨rfl, ⟨nd, rfl⟩⟩; refine ⟨_, rfl, ?_⟩))
  go_ret2
  exact ⟨_, by first | rfl | (simp [errW_none, errW_some] <;> rfl) | (simp [*, errW_none, errW_some] <;> rfl), by first | exact Kd.R_nil _ _ _ _ _ | exact Kd.N_nil _ _ _ _ _ | exact Kd.V_nil _ _ _ _ _ | exact Kd.Q_nil _ _ _ _ _ | exact Kd.S_nil _ _ _ _ _, GS.lB HB.out⟩
def spileref08_Bung.l0 : Nat → List (S39) → Int → Int → Option (Int × Int)
 | 0, _, _, _ => none
 | k + 1, x0, x5, x6 => if x6 < (x0.length : Int) then (if 0 ≤ x6 then (if 0 ≤ x5 then (if x5 < (x0.length : Int) then (if ((rd_T39 x0 x6).f1) > ((rd_T39 x0 x5).f1) then (spileref08_Bung.l0 k x0 x6 (wrap64 (x6 + 1))) else (spileref08_Bung.l0 k x0 x5 (wrap64 (x6 + 1)))) else (none)) else (none)) else (none)) else (some (x5, 0))
def spileref08_Bung.f (k : Nat) (l0 : List (S39)) : Option (Int × Int) := (spileref08_Check.f k l0).bind fun t374 => (if t374 = 0 then (spileref08_Bung.l0 k l0 0 0) else (some (0, t374)))
set_option maxHeartbeats 8000000 in
set_option maxRecDepth 100000 in
theorem spileref08_Bung.calls (k : Nat) (A0 : Option Addr) (c0 : Nat) (l0 : List (S39)) (r1 : Int) (r2 : Int) (w : World) (hr0 : Kd.C k39 w A0 l0.length l0) (hc0 : l0.length ≤ c0) (h : spileref08_Bung.f k l0 = some (r1, r2)) :
  Calls Try.prog 74 #[.slice A0 l0.length c0] w fun e w' => e = .returned (.tuple #[.int .i64 r1, .int .i64 r2]) ∧ Drawn0 w w' := by
 have HR0 := Aside0.mk hr0
 have HC0 := Aside0.mk hc0
 clear hr0 hc0
 have H : ((spileref08_Check.f k l0).bind fun t374 => (if t374 = 0 then (spileref08_Bung.l0 k l0 0 0) else (some (0, t374)))) = some (r1, r2) := h
 clear h
 replace H := Option.bind_eq_some_iff.mp H
 obtain ⟨t374, A20, H⟩ := H
 try (set_option simprocs false in dsimp only at H)
 have A2 := Aside0.mk A20
 clear A20
 by_cases c3 : t374 = 0
 ·rw [if_pos c3] at H
  have c3b0 : (t374 == 0) = true := beq_iff_eq.mpr c3
  have c3b1 : (t374 != 0) = false := bne_eq_false_iff_eq.mpr c3
  clear c3
  have H' := Aside0.mk H
  clear H
  go_enter Try.func74, Try.ntmps74
  go_wp2_with (first | (go_at_call 30; (with_reducible refine (spileref08_Check.calls k _ _ l0 t374 _ ?side1 ?side2 A2.out).mono ?_); (case side1 => exact GS.rC HR0.out); (case side2 => exact HC0.out); rintro e w' ⟨rfl, ⟨nd, rfl⟩⟩; (try first | exact ⟨rfl, _, World.drewN_drewN _ _ _⟩ | exact ⟨rfl, _, Eq.trans (World.drewN_drewN _ _ _) (congrArg (World.drewN _) (Nat.add_assoc _ _ _))⟩)))
  repeat (go_quiet (first | (go_at_call 30; (with_reducible refine (spileref08_Check.calls k _ _ l0 t374 _ ?side1 ?side2 A2.out).mono ?_); (case side1 => exact GS.rC HR0.out); (case side2 => exact HC0.out); rintro e w' ⟨rfl, ⟨nd, rfl⟩⟩; (try first | exact ⟨rfl, _, World.drewN_drewN _ _ _⟩ | exact ⟨rfl, _, Eq.trans (World.drewN_drewN _ _ _) (congrArg (World.drewN _) (Nat.add_assoc _ _ _))⟩))); try go_wp2_with (first | (go_at_call 30; (with_reducible refine (spileref08_Check.calls k _ _ l0 t374 _ ?side1 ?side2 A2.out).mono ?_); (case side1 => exact GS.rC HR0.out); (case side2 => exact HC0.out); rintro e w' ⟨rfl, ⟨nd, rfl⟩⟩; (try first | exact ⟨rfl, _, World.drewN_drewN _ _ _⟩ | exact ⟨rfl, _, Eq.trans (World.drewN_drewN _ _ _) (congrArg (World.drewN _) (Nat.add_assoc _ _ _))⟩))))
  go_loopg [5, 6] k (fun kq v5 v6 w' => ∃ (x5_1 : Int) (x6_1 : Int), v5 = .int .i64 x5_1 ∧ v6 = .int .i64 x6_1 ∧ Aside0 (spileref08_Bung.l0 kq l0 x5_1 x6_1 = some (r1, r2)) ∧ Aside0 (kq ≤ k) ∧ Drawn0 w w')
  case atStart => exact ⟨(0), (0), (by first | rfl | (simp; done) | (simp [*]; done)), (by first | rfl | (simp; done) | (simp [*]; done)), H', ⟨Nat.le_refl _⟩, by repeat (first | exact Drawn0.refl _ | apply Drawn0.step)⟩
  case round =>
   clear H'
   try clear c3b0
   try clear c3b1
   obtain ⟨x5_1, x6_1, rfl, rfl, HA, HK1, ⟨m1, rfl⟩⟩ := hrel
   cases gk with
   | zero => exact absurd HA.out (by simp [spileref08_Bung.l0])
   | succ k1 =>
    have H := HA.out
    clear HA
    simp only [spileref08_Bung.l0] at H
    by_cases c4 : x6_1 < (l0.length : Int)
    ·rw [if_pos c4] at H
     have c4b0 : decide (x6_1 < (l0.length : Int)) = true := decide_eq_true c4
     clear c4
     by_cases c5 : 0 ≤ x6_1
     ·rw [if_pos c5] at H
      have c5b0 : decide (0 ≤ x6_1) = true := decide_eq_true c5
      clear c5
      by_cases c6 : 0 ≤ x5_1
      ·rw [if_pos c6] at H
       have c6b0 : decide (0 ≤ x5_1) = true := decide_eq_true c6
       clear c6
       by_cases c7 : x5_1 < (l0.length : Int)
       ·rw [if_pos c7] at H
        have c7b0 : decide (x5_1 < (l0.length : Int)) = true := decide_eq_true c7
        clear c7
        by_cases c8 : ((rd_T39 l0 x6_1).f1) > ((rd_T39 l0 x5_1).f1)
        ·rw [if_pos c8] at H
         have c8b0 : decide (((rd_T39 l0 x5_1).f1) < ((rd_T39 l0 x6_1).f1)) = true := decide_eq_true c8
         clear c8
         have H' := Aside0.mk H
         clear H
         have p375 : 0 ≤ (x6_1 : Int) := of_decide_eq_true (by first | (with_reducible assumption) | assumption)
         have q375 : x6_1 < (l0.length : Int) := of_decide_eq_true (by first | (with_reducible assumption) | assumption)
         obtain ⟨ad375, e375, hx375_0, hx375_1⟩ := at_T39 HR0.out x6_1 p375 q375
         cases e375
         replace p375 := eq_true p375
         replace q375 := eq_true q375
         have p376 : 0 ≤ (x5_1 : Int) := of_decide_eq_true (by first | (with_reducible assumption) | assumption)
         have q376 : x5_1 < (l0.length : Int) := of_decide_eq_true (by first | (with_reducible assumption) | assumption)
         obtain ⟨ad376, e376, hx376_0, hx376_1⟩ := at_T39 HR0.out x5_1 p376 q376
         obtain rfl : ad375 = ad376 := (by injection e376)
         replace p376 := eq_true p376
         replace q376 := eq_true q376
         go_wp2
         repeat (go_quiet (fail); try go_wp2)
         go_roundg k1
         case measure => have := HK1.out; omega
         case rel => exact ⟨(x6_1), (wrap64 (x6_1 + 1)), (by first | rfl | (simp; done) | (simp [*]; done)), (by first | rfl | (simp; done) | (simp [*]; done)), H', ⟨by have := HK1.out; omega⟩, by repeat (first | exact Drawn0.refl _ | apply Drawn0.step)⟩
        ·rw [if_neg c8] at H
         have c8b0 : decide (((rd_T39 l0 x5_1).f1) < ((rd_T39 l0 x6_1).f1)) = false := decide_eq_false c8
         clear c8
         have H' := Aside0.mk H
         clear H
         have p375 : 0 ≤ (x6_1 : Int) := of_decide_eq_true (by first | (with_reducible assumption) | assumption)
         have q375 : x6_1 < (l0.length : Int) := of_decide_eq_true (by first | (with_reducible assumption) | assumption)
         obtain ⟨ad375, e375, hx375_0, hx375_1⟩ := at_T39 HR0.out x6_1 p375 q375
         cases e375
         replace p375 := eq_true p375
         replace q375 := eq_true q375
         have p376 : 0 ≤ (x5_1 : Int) := of_decide_eq_true (by first | (with_reducible assumption) | assumption)
         have q376 : x5_1 < (l0.length : Int) := of_decide_eq_true (by first | (with_reducible assumption) | assumption)
         obtain ⟨ad376, e376, hx376_0, hx376_1⟩ := at_T39 HR0.out x5_1 p376 q376
         obtain rfl : ad375 = ad376 := (by injection e376)
         replace p376 := eq_true p376
         replace q376 := eq_true q376
         go_wp2
         repeat (go_quiet (fail); try go_wp2)
         go_roundg k1
         case measure => have := HK1.out; omega
         case rel => exact ⟨(x5_1), (wrap64 (x6_1 + 1)), (by first | rfl | (simp; done) | (simp [*]; done)), (by first | rfl | (simp; done) | (simp [*]; done)), H', ⟨by have := HK1.out; omega⟩, by repeat (first | exact Drawn0.refl _ | apply Drawn0.step)⟩
       ·rw [if_neg c7] at H
        exact absurd H (by simp)
      ·rw [if_neg c6] at H
       exact absurd H (by simp)
     ·rw [if_neg c5] at H
      exact absurd H (by simp)
    ·rw [if_neg c4] at H
     have c4b0 : decide (x6_1 < (l0.length : Int)) = false := decide_eq_false c4
     clear c4
     simp only [Option.some.injEq, Prod.mk.injEq] at H
     obtain ⟨rfl, rfl⟩ := H
     go_wp2
     repeat (go_quiet (fail); try go_wp2)
     go_ret2
     exact ⟨by first | rfl | (simp; done) | (simp [*]; done), by repeat (first | exact Drawn0.refl _ | apply Drawn0.step)⟩
 ·rw [if_neg c3] at H
  have c3b0 : (t374 == 0) = false := beq_eq_false_iff_ne.mpr c3
  have c3b1 : (t374 != 0) = true := bne_iff_ne.mpr c3
  simp only [Option.some.injEq, Prod.mk.injEq] at H
  obtain ⟨rfl, rfl⟩ := H
  go_enter Try.func74, Try.ntmps74
  go_wp2_with (first | (go_at_call 30; (with_reducible refine (spileref08_Check.calls k _ _ l0 t374 _ ?side1 ?side2 A2.out).mono ?_); (case side1 => exact GS.rC HR0.out); (case side2 => exact HC0.out); rintro e w' ⟨rfl, ⟨nd, rfl⟩⟩; (try first | exact ⟨rfl, _, World.drewN_drewN _ _ _⟩ | exact ⟨rfl, _, Eq.trans (World.drewN_drewN _ _ _) (congrArg (World.drewN _) (Nat.add_assoc _ _ _))⟩)))
  repeat (go_quiet (first | (go_at_call 30; (with_reducible refine (spileref08_Check.calls k _ _ l0 t374 _ ?side1 ?side2 A2.out).mono ?_); (case side1 => exact GS.rC HR0.out); (case side2 => exact HC0.out); rintro e w' ⟨rfl, ⟨nd, rfl⟩⟩; (try first | exact ⟨rfl, _, World.drewN_drewN _ _ _⟩ | exact ⟨rfl, _, Eq.trans (World.drewN_drewN _ _ _) (congrArg (World.drewN _) (Nat.add_assoc _ _ _))⟩))); try go_wp2_with (first | (go_at_call 30; (with_reducible refine (spileref08_Check.calls k _ _ l0 t374 _ ?side1 ?side2 A2.out).mono ?_); (case side1 => exact GS.rC HR0.out); (case side2 => exact HC0.out); rintro e w' ⟨rfl, ⟨nd, rfl⟩⟩; (try first | exact ⟨rfl, _, World.drewN_drewN _ _ _⟩ | exact ⟨rfl, _, Eq.trans (World.drewN_drewN _ _ _) (congrArg (World.drewN _) (Nat.add_assoc _ _ _))⟩))))
  go_ret2
  exact ⟨by first | rfl | (simp; done) | (simp [*]; done), by repeat (first | exact Drawn0.refl _ | apply Drawn0.step)⟩
def spileref09_Radius.f (k : Nat) (a0_0 : ByteArray) (a0_1 : Int) (l0_2 : List (S39)) (a0_3 : Int) : Option (Int) := (spileref08_Bung.f k l0_2).bind fun bt378 => (if 0 ≤ bt378.1 then (if bt378.1 < (l0_2.length : Int) then (some ((rd_T39 l0_2 bt378.1).f1)) else (none)) else (none))
set_option maxHeartbeats 8000000 in
set_option maxRecDepth 100000 in
theorem spileref09_Radius.calls (k : Nat) (a0_0 : ByteArray) (a0_1 : Int) (A0_2 : Option Addr) (c0_2 : Nat) (l0_2 : List (S39)) (a0_3 : Int) (r : Int) (w : World) (hr0_2 : Kd.C k39 w A0_2 l0_2.length l0_2) (hc0_2 : l0_2.length ≤ c0_2) (h : spileref09_Radius.f k a0_0 a0_1 l0_2 a0_3 = some r) :
  Calls Try.prog 47 #[.agg #[.string a0_0, .int .i64 a0_1, .slice A0_2 l0_2.length c0_2, .int .i64 a0_3]] w fun e w' => e = .returned (.int .i64 r) ∧ Below w.heap.size w w' := by
 have hu24 := Try.underlying24
 have HR0_2 := Aside0.mk hr0_2
 have HC0_2 := Aside0.mk hc0_2
 clear hr0_2 hc0_2
 have HB := Aside0.mk (Below.refl w.heap.size w)
 have H : ((spileref08_Bung.f k l0_2).bind fun bt378 => (if 0 ≤ bt378.1 then (if bt378.1 < (l0_2.length : Int) then (some ((rd_T39 l0_2 bt378.1).f1)) else (none)) else (none))) = some r := h
 clear h
 replace H := Option.bind_eq_some_iff.mp H
 obtain ⟨⟨t378, t379⟩, A20, H⟩ := H
 try (set_option simprocs false in dsimp only at H)
 have A2 := Aside0.mk A20
 clear A20
 by_cases c3 : 0 ≤ t378
 ·rw [if_pos c3] at H
  have c3b0 : decide (0 ≤ t378) = true := decide_eq_true c3
  clear c3
  by_cases c4 : t378 < (l0_2.length : Int)
  ·rw [if_pos c4] at H
   have c4b0 : decide (t378 < (l0_2.length : Int)) = true := decide_eq_true c4
   clear c4
   obtain rfl := Option.some.inj H
   go_enter Try.func47, Try.ntmps47
   go_wp2_with (first | ((with_reducible refine gqD (N := 1) rfl ?_); refine GS.bx (N := 1) (cs := #[.string a0_0, .int .i64 a0_1, .slice A0_2 l0_2.length c0_2, .int .i64 a0_3]) (t := 24) ?_; intro gb377 hg w5 hbox hb; have q_ := GS.q4 (GS.kH HB hb) (Aside0.mk hbox) (GS.kZ hg HB) (GS.kZ hg HB); clear HB; obtain ⟨HB, BK377, GW377, GE377⟩ := q_; clear hb hbox hg; obtain ⟨hcz6_0, hcz6_1, hcz6_2, hcz6_3, hfz6_0, hfz6_1, hfz6_2, hfz6_3⟩ := GS.c4 BK377.out) | ((with_reducible refine gqC (f := 74) rfl ?_); refine GS.gL (some 8) Try.func74 #[.slice A0_2 l0_2.length c0_2] ?_; (with_reducible refine (spileref08_Bung.calls k _ _ l0_2 t378 t379 _ ?side1 ?side2 A2.out).mono ?_); (case side1 => exact GS.rC (Kd.C_below HR0_2.out HB.out)); (case side2 => exact HC0_2.out); rintro e w' ⟨rfl, ⟨nd, rfl⟩⟩; refine ⟨_, rfl, ?_⟩; have p380 : 0 ≤ (t378 : Int) := of_decide_eq_true (by first | (with_reducible assumption) | assumption); have q380 : t378 < (l0_2.length : Int) := of_decide_eq_true (by first | (with_reducible assumption) | assumption); obtain ⟨ad380, e380, hx380_0, hx380_1⟩ := at_T39 HR0_2.out t378 p380 q380; cases e380; replace hx380_0 := (HB.out.cell (World.block_lt_of_cell? w _ hx380_0)).trans hx380_0; replace hx380_1 := (HB.out.cell (World.block_lt_of_cell? w _ hx380_1)).trans hx380_1; replace p380 := eq_true p380; replace q380 := eq_true q380))
   go_ret
   exact ⟨by first | rfl | (simp [errW_none, errW_some] <;> rfl) | (simp [*, errW_none, errW_some] <;> rfl), GS.lB HB.out⟩
  ·rw [if_neg c4] at H
   exact absurd H (by simp)
 ·rw [if_neg c3] at H
  exact absurd H (by simp)
end Go.Proofs.Ytefjmcljkmppoaa.K
