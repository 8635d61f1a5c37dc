import Derived.Test.YtefjmcljkmppoaaK0
import Derived.Test.YtefjmcljkmppoaaGPu
import Derived.Test.YtefjmcljkmppoaaGShort
import Derived.Test.YtefjmcljkmppoaaK15
namespace Go.Proofs.Ytefjmcljkmppoaa.K
open Go.RowKit Go.Proofs.YtefjmcljkmppoaaW.PrintWords Go.Proofs.YtefjmcljkmppoaaW.PrintLast Go.Proofs.YtefjmcljkmppoaaW.PrintMore
attribute [local go_sem] max2_int min2_int max_two min_two max_three min_three max_four min_four   -- for this text's walks alone
set_option linter.unusedVariables false
set_option linter.unusedSimpArgs false
def spileref08_Radius.f (k : Nat) (l0 : List (S39)) (a1 : Int) : Option (Int × Int) := (spileref08_radius.f k l0 a1).bind fun bt401 => (if bt401.2 = 0 then (none) else (some (wrap64 (Int.tdiv bt401.1 bt401.2), wrap64 (Int.tdiv (wrap64 ((wrap64 (bt401.1 + bt401.2)) - 1)) bt401.2))))
def spileref08_Radius.T2 : Bool × List (List Nat × List Nat) := (true, [([], []), ([], []), ([0, 1], [0, 1]), ([], []), ([], []), ([3, 4], [3, 4]), ([5], [5]), ([], []), ([6, 7], [6, 7]), ([2, 8], [2, 8]), ([9, 0, 1, 2, 3, 4, 5, 6, 7, 8, 9], [9])])
def spileref08_Radius.B2 : List Nat := [0, 0, 3, 0, 0, 24, 56, 0, 248, 511, 1023]
theorem spileref08_Radius.tab2 : rtab .any (opsOf Try.f86 2) = spileref08_Radius.T2 := by kernel_rfl
theorem spileref08_Radius.bits2 : waitsOk spileref08_Radius.T2.2 spileref08_Radius.B2 = true := by kernel_rfl
set_option maxHeartbeats 8000000 in
set_option maxRecDepth 100000 in
theorem spileref08_Radius.calls (k : Nat) (A0 : Option Addr) (c0 : Nat) (l0 : List (S39)) (a1 : Int) (r1 : Int) (r2 : Int) (w : World) (hr0 : Kd.C k39 w A0 l0.length l0) (hc0 : l0.length ≤ c0) (h : spileref08_Radius.f k l0 a1 = some (r1, r2)) :
  Calls Try.prog 86 #[.slice A0 l0.length c0, .int .i64 a1] w fun e w' => e = .returned (.agg #[.int .i64 r1, .int .i64 r2]) ∧ Below w.heap.size w w' := by
 have hu28 := Try.underlying28
 have HR0 := Aside0.mk hr0
 have HC0 := Aside0.mk hc0
 clear hr0 hc0
 have HB := Aside0.mk (Below.refl w.heap.size w)
 have H : ((spileref08_radius.f k l0 a1).bind fun bt401 => (if bt401.2 = 0 then (none) else (some (wrap64 (Int.tdiv bt401.1 bt401.2), wrap64 (Int.tdiv (wrap64 ((wrap64 (bt401.1 + bt401.2)) - 1)) bt401.2))))) = some (r1, r2) := h
 clear h
 replace H := Option.bind_eq_some_iff.mp H
 obtain ⟨⟨t401, t402⟩, A30, H⟩ := H
 try (set_option simprocs false in dsimp only at H)
 have A3 := Aside0.mk A30
 clear A30
 by_cases c4 : t402 = 0
 ·rw [if_pos c4] at H
  exact absurd H (by simp)
 ·rw [if_neg c4] at H
  have c4b0 : (t402 == 0) = false := beq_eq_false_iff_ne.mpr c4
  have c4b1 : (t402 != 0) = true := bne_iff_ne.mpr c4
  simp only [Option.some.injEq, Prod.mk.injEq] at H
  obtain ⟨rfl, rfl⟩ := H
  go_enter Try.func86, Try.ntmps86
  try go_wp2_with (first | ((with_reducible refine gqD (N := 4) rfl ?_); refine GS.bx (N := 4) (cs := #[.int .i64 0, .int .i64 0]) (t := 28) ?_; intro gb400 hg w5 hbox hb; have q_ := GS.q4 (GS.kH HB hb) (Aside0.mk hbox) (GS.kZ hg HB) (GS.kZ hg HB); clear HB; obtain ⟨HB, BK400, GW400, GE400⟩ := q_; clear hb hbox hg) | ((with_reducible refine gqC (f := 100) rfl ?_); refine GS.gL (some 10) Try.func100 #[.slice A0 l0.length c0, .int .i64 a1] ?_; (with_reducible refine (spileref08_radius.calls k _ _ l0 a1 t401 t402 _ ?side1 ?side2 A3.out).mono ?_); (case side1 => exact GS.rC (Kd.C_below HR0.out HB.out)); (case side2 => exact HC0.out); rintro e w6 ⟨rfl, hb⟩; refine ⟨_, rfl, ?_⟩; have q_ := GS.q2 (GS.kB BK400 hb) (GS.kH HB hb); clear BK400 HB; obtain ⟨BK400, HB⟩ := q_; (try clear hb); (try clear hb2); (try clear hk); (try clear hi)))
  have q_ := GS.q2 (Aside0.mk (bqD BK400.out)) (Aside0.mk (lqD HB.out))
  clear BK400 HB
  obtain ⟨BK400, HB⟩ := q_
  refine start_ (n := 11) (S := fun w' => True) (ds := []) #[false, false, false, false, false, false, false, false, false, false, false] (by kernel_rfl) rfl rfl trivial (fun hHeld => ?_); refine with_tabW spileref08_Radius.tab2 spileref08_Radius.bits2 (fun HT_ HW_ => ?_)
  generalize w6.drew = w7 at BK400 HB hHeld ⊢
  refine GS.pu 0 (some 13) HT_.out ?_
  refine GS.pu 1 (some 14) HT_.out ?_
  refine GS.pu 2 (some 15) HT_.out ?_
  refine GS.pu 3 (some 16) HT_.out ?_
  refine GS.pu 4 (some 17) HT_.out ?_
  refine GS.pu 5 (some 18) HT_.out ?_
  refine GS.pu 6 (some 19) HT_.out ?_
  refine GS.pu 7 (some 20) HT_.out ?_
  refine GS.pu 8 (some 21) HT_.out ?_
  refine GS.pu 9 (some 22) HT_.out ?_
  refine one_ (i := 10) (N := none) #[true, true, true, true, true, true, true, true, true, true, true] rfl rfl (one_of HT_.out (by kernel_rfl)) (by decide) (fun K hK => ?_)
  have hs8 : w7.cell? ⟨gb400, 0, none⟩ = some (.int .i64 0) := (bqC BK400.out 0).trans rfl
  have hfs8 := bqF BK400.out 0
  have hs9 : w7.cell? ⟨gb400, 1, none⟩ = some (.int .i64 0) := (bqC BK400.out 1).trans rfl
  have hfs9 := bqF BK400.out 1
  refine skip_ (w1 := ?_) (by rfl) rfl ?_ ?_
  rotate_left
  ·go_simp
   rfl
  refine hK.out _ _ trivial (fun hHeld => ?_)
  clear hK K
  refine done_ (done_of HT_.out (by kernel_rfl)) ?_
  try go_wp2
  refine bodyPost_ret (results_cell_row rfl _ _ gb400 28 #[.int .i64 (wrap64 (Int.tdiv t401 t402)), .int .i64 (wrap64 (Int.tdiv (wrap64 ((wrap64 (t401 + t402)) - 1)) t402))] (0, 0) _ rfl (GS.bqZ BK400.out) Try.underlying28 rfl (by kernel_rfl)) rfl ?_
  exact ⟨by first | rfl | (simp [errW_none, errW_some] <;> rfl) | (simp [*, errW_none, errW_some] <;> rfl), GS.lB HB.out⟩
def spileref06_Floor.l0 : Nat → Int → Int → Int → Option (Int)
 | 0, _, _, _ => none
 | k + 1, x0, x3, x4 => if x4 > 0 then (if (wrap64 ((wrap64 (x3 + x4)) * (wrap64 (x3 + x4)))) ≤ x0 then (spileref06_Floor.l0 k x0 (wrap64 (x3 + x4)) (wrap64 (Int.tdiv x4 2))) else (spileref06_Floor.l0 k x0 x3 (wrap64 (Int.tdiv x4 2)))) else (some x3)
def spileref06_Floor.f (k : Nat) (a0 : Int) : Option (Int) := spileref06_Floor.l0 k a0 0 1073741824
set_option maxHeartbeats 8000000 in
set_option maxRecDepth 100000 in
theorem spileref06_Floor.calls (k : Nat) (a0 : Int) (r : Int) (w : World) (h : spileref06_Floor.f k a0 = some r) :
  Calls Try.prog 106 #[.int .i64 a0] w fun e w' => e = .returned (.int .i64 r) ∧ Drawn0 w w' := by
 have H : (spileref06_Floor.l0 k a0 0 1073741824) = some r := h
 clear h
 have H' := Aside0.mk H
 clear H
 go_enter Try.func106, Try.ntmps106
 go_wp2
 go_loopg [3, 4] k (fun kq v3 v4 w' => ∃ (x3_1 : Int) (x4_1 : Int), v3 = .int .i64 x3_1 ∧ v4 = .int .i64 x4_1 ∧ Aside0 (spileref06_Floor.l0 kq a0 x3_1 x4_1 = some r) ∧ Aside0 (kq ≤ k) ∧ Drawn0 w w')
 case atStart => exact ⟨(0), (1073741824), (by first | rfl | (simp; done) | (simp [*]; done)), (by first | rfl | (simp; done) | (simp [*]; done)), H', ⟨Nat.le_refl _⟩, by repeat (first | exact Drawn0.refl _ | apply Drawn0.step)⟩
 case round =>
  clear H'
  obtain ⟨x3_1, x4_1, rfl, rfl, HA, HK1, ⟨m1, rfl⟩⟩ := hrel
  cases gk with
  | zero => exact absurd HA.out (by simp [spileref06_Floor.l0])
  | succ k1 =>
   have H := HA.out
   clear HA
   simp only [spileref06_Floor.l0] at H
   by_cases c2 : x4_1 > 0
   ·rw [if_pos c2] at H
    have c2b0 : decide (0 < x4_1) = true := decide_eq_true c2
    clear c2
    by_cases c3 : (wrap64 ((wrap64 (x3_1 + x4_1)) * (wrap64 (x3_1 + x4_1)))) ≤ a0
    ·rw [if_pos c3] at H
     have c3b0 : decide ((wrap64 ((wrap64 (x3_1 + x4_1)) * (wrap64 (x3_1 + x4_1)))) ≤ a0) = true := decide_eq_true c3
     clear c3
     have H' := Aside0.mk H
     clear H
     go_wp2
     go_roundg k1
     case measure => have := HK1.out; omega
     case rel => exact ⟨(wrap64 (x3_1 + x4_1)), (wrap64 (Int.tdiv x4_1 2)), (by first | rfl | (simp; done) | (simp [*]; done)), (by first | rfl | (simp; done) | (simp [*]; done)), H', ⟨by have := HK1.out; omega⟩, by repeat (first | exact Drawn0.refl _ | apply Drawn0.step)⟩
    ·rw [if_neg c3] at H
     have c3b0 : decide ((wrap64 ((wrap64 (x3_1 + x4_1)) * (wrap64 (x3_1 + x4_1)))) ≤ a0) = false := decide_eq_false c3
     clear c3
     have H' := Aside0.mk H
     clear H
     go_wp2
     go_roundg k1
     case measure => have := HK1.out; omega
     case rel => exact ⟨(x3_1), (wrap64 (Int.tdiv x4_1 2)), (by first | rfl | (simp; done) | (simp [*]; done)), (by first | rfl | (simp; done) | (simp [*]; done)), H', ⟨by have := HK1.out; omega⟩, by repeat (first | exact Drawn0.refl _ | apply Drawn0.step)⟩
   ·rw [if_neg c2] at H
    have c2b0 : decide (0 < x4_1) = false := decide_eq_false c2
    clear c2
    obtain rfl := Option.some.inj H
    go_wp2
    go_ret
    exact ⟨by first | rfl | (simp; done) | (simp [*]; done), by repeat (first | exact Drawn0.refl _ | apply Drawn0.step)⟩
def spileref06_Ceiling.f (k : Nat) (a0 : Int) : Option (Int) := (spileref06_Floor.f k a0).bind fun t403 => (if (wrap64 (t403 * t403)) < a0 then (some (wrap64 (t403 + 1))) else (some t403))
set_option maxHeartbeats 8000000 in
set_option maxRecDepth 100000 in
theorem spileref06_Ceiling.calls (k : Nat) (a0 : Int) (r : Int) (w : World) (h : spileref06_Ceiling.f k a0 = some r) :
  Calls Try.prog 107 #[.int .i64 a0] w fun e w' => e = .returned (.int .i64 r) ∧ Drawn0 w w' := by
 have H : ((spileref06_Floor.f k a0).bind fun t403 => (if (wrap64 (t403 * t403)) < a0 then (some (wrap64 (t403 + 1))) else (some t403))) = some r := h
 clear h
 replace H := Option.bind_eq_some_iff.mp H
 obtain ⟨t403, A20, H⟩ := H
 try (set_option simprocs false in dsimp only at H)
 have A2 := Aside0.mk A20
 clear A20
 by_cases c3 : (wrap64 (t403 * t403)) < a0
 ·rw [if_pos c3] at H
  have c3b0 : decide ((wrap64 (t403 * t403)) < a0) = true := decide_eq_true c3
  clear c3
  obtain rfl := Option.some.inj H
  go_enter Try.func107, Try.ntmps107
  go_wp2_with (first | ((with_reducible refine gqC (f := 106) rfl ?_); refine GS.gL (some 5) Try.func106 #[.int .i64 a0] ?_; (with_reducible refine (spileref06_Floor.calls k a0 t403 _ A2.out).mono ?_); rintro e w' ⟨rfl, ⟨nd, rfl⟩⟩; refine ⟨_, rfl, ?_⟩))
  go_ret
  exact ⟨by first | rfl | (simp; done) | (simp [*]; done), by repeat (first | exact Drawn0.refl _ | apply Drawn0.step)⟩
 ·rw [if_neg c3] at H
  have c3b0 : decide ((wrap64 (t403 * t403)) < a0) = false := decide_eq_false c3
  clear c3
  obtain rfl := Option.some.inj H
  go_enter Try.func107, Try.ntmps107
  go_wp2_with (first | ((with_reducible refine gqC (f := 106) rfl ?_); refine GS.gL (some 5) Try.func106 #[.int .i64 a0] ?_; (with_reducible refine (spileref06_Floor.calls k a0 t403 _ A2.out).mono ?_); rintro e w' ⟨rfl, ⟨nd, rfl⟩⟩; refine ⟨_, rfl, ?_⟩))
  go_ret
  exact ⟨by first | rfl | (simp; done) | (simp [*]; done), by repeat (first | exact Drawn0.refl _ | apply Drawn0.step)⟩
def spileref06_Bounds.j0 : Nat → Int → Int → Bool → Option (Int × Int)
 | 0, _, _, _ => none
 | k + 1, x0, x1, x13 => if x13 = true then (some (0, 0)) else ((spileref06_Floor.f k (wrap64 ((wrap64 (x0 * x0)) - (wrap64 (x1 * x1))))).bind fun t405 => ((spileref06_Ceiling.f k (wrap64 ((wrap64 (x0 * x0)) - (wrap64 (x1 * x1))))).bind fun t406 => (some (t405, t406))))
def spileref06_Bounds.f (k : Nat) (a0 : Int) (a1 : Int) : Option (Int × Int) := if a1 > a0 then (spileref06_Bounds.j0 k a0 a1 true) else (spileref06_Bounds.j0 k a0 a1 (decide (a1 < (wrap64 (-a0)))))
set_option maxHeartbeats 8000000 in
set_option maxRecDepth 100000 in
theorem spileref06_Bounds.calls (k : Nat) (a0 : Int) (a1 : Int) (r1 : Int) (r2 : Int) (w : World) (h : spileref06_Bounds.f k a0 a1 = some (r1, r2)) :
  Calls Try.prog 104 #[.int .i64 a0, .int .i64 a1] w fun e w' => e = .returned (.agg #[.int .i64 r1, .int .i64 r2]) ∧ Below w.heap.size w w' := by
 have hu28 := Try.underlying28
 have HB := Aside0.mk (Below.refl w.heap.size w)
 have H : (if a1 > a0 then (spileref06_Bounds.j0 k a0 a1 true) else (spileref06_Bounds.j0 k a0 a1 (decide (a1 < (wrap64 (-a0)))))) = some (r1, r2) := h
 clear h
 have HC3 := Aside0.mk H
 clear H
 go_enter Try.func104, Try.ntmps104
 go_upto_region 1 with (first | ((with_reducible refine gqD (N := 4) rfl ?_); refine GS.bx (N := 4) (cs := #[.int .i64 0, .int .i64 0]) (t := 28) ?_; intro gb404 hg w4 hbox hb; have q_ := GS.q4 (GS.kH HB hb) (Aside0.mk hbox) (GS.kZ hg HB) (GS.kZ hg HB); clear HB; obtain ⟨HB, BK404, GW404, GE404⟩ := q_; clear hb hbox hg))
 (try simp only [Act.put, List.setIfInBounds_toArray, List.set_cons_zero, List.set_cons_succ])
 go_cut [13] (fun v13 wc => ∃ (kq : Nat) (x13_2 : Bool), v13 = .bool x13_2 ∧ Aside0 (spileref06_Bounds.j0 kq a0 a1 x13_2 = some (r1, r2)) ∧ Aside0 (kq ≤ k) ∧ Aside0 (wc.heap[gb404]? = some (.cells #[.int .i64 0, .int .i64 0] 28 (0, 0))) ∧ Aside0 (Below w.heap.size w wc))
 case first =>
  have H := HC3.out
  clear HC3
  by_cases c5 : a1 > a0
  ·rw [if_pos c5] at H
   have c5b0 : decide (a0 < a1) = true := decide_eq_true c5
   clear c5
   (first | rw [c5b0] | (simp only [i64_w, i32_w]; rw [c5b0]) | skip)
   have H' := Aside0.mk H
   clear H
   go_wp2
   go_meet
   case rel => exact ⟨_, (true), (by first | rfl | (simp; done) | (simp [*]; done)), H', ⟨by first | omega | exact Nat.le_refl _⟩, ⟨GS.bqX BK404.out⟩, ⟨GS.lB HB.out⟩⟩
  ·rw [if_neg c5] at H
   have c5b0 : decide (a0 < a1) = false := decide_eq_false c5
   clear c5
   (first | rw [c5b0] | (simp only [i64_w, i32_w]; rw [c5b0]) | skip)
   have H' := Aside0.mk H
   clear H
   go_wp2
   go_meet
   case rel => exact ⟨_, (decide (a1 < (wrap64 (-a0)))), (by first | rfl | (simp; done) | (simp [*]; done)), H', ⟨by first | omega | exact Nat.le_refl _⟩, ⟨GS.bqX BK404.out⟩, ⟨GS.lB HB.out⟩⟩
 case rest =>
  clear HC3
  obtain ⟨kq, x13_2, rfl, HA, HJ2, BK404, HB⟩ := hcut
  cases kq with
  | zero => exact absurd HA.out (by simp [spileref06_Bounds.j0])
  | succ kj2 =>
   have H := HA.out
   clear HA
   simp only [spileref06_Bounds.j0] at H
   by_cases c6 : x13_2 = true
   ·subst c6
    rw [if_pos rfl] at H
    simp only [Option.some.injEq, Prod.mk.injEq] at H
    obtain ⟨rfl, rfl⟩ := H
    obtain ⟨hcz7_0, hcz7_1, hfz7_0, hfz7_1⟩ := GS.c2 BK404.out
    go_wp2
    refine bodyPost_ret (results_cell_row rfl _ _ gb404 28 #[.int .i64 0, .int .i64 0] (0, 0) _ rfl (GS.bqZ BK404.out) Try.underlying28 rfl (by kernel_rfl)) rfl ?_
    exact ⟨by first | rfl | (simp [errW_none, errW_some] <;> rfl) | (simp [*, errW_none, errW_some] <;> rfl), GS.lB HB.out⟩
   ·replace c6 := Bool.eq_false_iff.mpr c6
    subst c6
    rw [if_neg (show ¬ (false = true) by decide)] at H
    replace H := Option.bind_eq_some_iff.mp H
    obtain ⟨t405, A80, H⟩ := H
    try (set_option simprocs false in dsimp only at H)
    have A8 := Aside0.mk A80
    clear A80
    replace H := Option.bind_eq_some_iff.mp H
    obtain ⟨t406, A90, H⟩ := H
    replace H : (some (t405, t406)) = some (r1, r2) := H
    have A9 := Aside0.mk A90
    clear A90
    simp only [Option.some.injEq, Prod.mk.injEq] at H
    obtain ⟨rfl, rfl⟩ := H
    go_wp2_with (first | ((with_reducible refine gqC (f := 106) rfl ?_); refine GS.gL (some 22) Try.func106 #[.int .i64 (wrap64 ((wrap64 (a0 * a0)) - (wrap64 (a1 * a1))))] ?_; (with_reducible refine (spileref06_Floor.calls kj2 (wrap64 ((wrap64 (a0 * a0)) - (wrap64 (a1 * a1)))) t405 _ A8.out).mono ?_); rintro e w' ⟨rfl, ⟨nd, rfl⟩⟩; refine ⟨_, rfl, ?_⟩; (try (rw [drewN_self wc]; generalize hq_ : World.drewN wc _ = wc; have n0_ : Aside0 (wc.heap[gb404]? = some (.cells #[.int .i64 0, .int .i64 0] 28 (0, 0))) := ⟨by rw [← hq_]; exact (GS.bqX BK404.out)⟩; have n1_ : Aside0 (Below w.heap.size w wc) := ⟨by rw [← hq_]; exact (GS.lB HB.out)⟩; clear BK404 HB hq_; have BK404 := n0_; have HB := n1_; clear n0_ n1_))) | ((with_reducible refine gqC (f := 107) rfl ?_); refine GS.gL (some 30) Try.func107 #[.int .i64 (wrap64 ((wrap64 (a0 * a0)) - (wrap64 (a1 * a1))))] ?_; (with_reducible refine (spileref06_Ceiling.calls kj2 (wrap64 ((wrap64 (a0 * a0)) - (wrap64 (a1 * a1)))) t406 _ A9.out).mono ?_); rintro e w' ⟨rfl, ⟨nd, rfl⟩⟩; refine ⟨_, rfl, ?_⟩; (try (rw [drewN_self wc]; generalize hq_ : World.drewN wc _ = wc; have n0_ : Aside0 (wc.heap[gb404]? = some (.cells #[.int .i64 0, .int .i64 0] 28 (0, 0))) := ⟨by rw [← hq_]; exact (GS.bqX BK404.out)⟩; have n1_ : Aside0 (Below w.heap.size w wc) := ⟨by rw [← hq_]; exact (GS.lB HB.out)⟩; clear BK404 HB hq_; have BK404 := n0_; have HB := n1_; clear n0_ n1_)); obtain ⟨hcz10_0, hcz10_1, hfz10_0, hfz10_1⟩ := GS.c2 BK404.out))
    refine bodyPost_ret (results_cell_row rfl _ _ gb404 28 #[.int .i64 t405, .int .i64 t406] (0, 0) _ rfl (GS.bqZ BK404.out) Try.underlying28 rfl (by kernel_rfl)) rfl ?_
    exact ⟨by first | rfl | (simp [errW_none, errW_some] <;> rfl) | (simp [*, errW_none, errW_some] <;> rfl), GS.lB HB.out⟩
def spileref07_chord.f (k : Nat) (a0 : Int) (a1 : Int) (a2 : Int) : Option (Int × Int) := (spileref06_Bounds.f k a0 (wrap64 (a2 - a1))).bind fun bt408 => (some (wrap64 (2 * bt408.1), wrap64 (2 * bt408.2)))
set_option maxHeartbeats 8000000 in
set_option maxRecDepth 100000 in
theorem spileref07_chord.calls (k : Nat) (a0 : Int) (a1 : Int) (a2 : Int) (r1 : Int) (r2 : Int) (w : World) (h : spileref07_chord.f k a0 a1 a2 = some (r1, r2)) :
  Calls Try.prog 101 #[.int .i64 a0, .int .i64 a1, .int .i64 a2] w fun e w' => e = .returned (.agg #[.int .i64 r1, .int .i64 r2]) ∧ Below w.heap.size w w' := by
 have hu28 := Try.underlying28
 have HB := Aside0.mk (Below.refl w.heap.size w)
 have H : ((spileref06_Bounds.f k a0 (wrap64 (a2 - a1))).bind fun bt408 => (some (wrap64 (2 * bt408.1), wrap64 (2 * bt408.2)))) = some (r1, r2) := h
 clear h
 replace H := Option.bind_eq_some_iff.mp H
 obtain ⟨⟨t408, t409⟩, A40, H⟩ := H
 replace H : (some (wrap64 (2 * t408), wrap64 (2 * t409))) = some (r1, r2) := H
 have A4 := Aside0.mk A40
 clear A40
 simp only [Option.some.injEq, Prod.mk.injEq] at H
 obtain ⟨rfl, rfl⟩ := H
 go_enter Try.func101, Try.ntmps101
 go_wp2_with (first | ((with_reducible refine gqD (N := 6) rfl ?_); refine GS.bx (N := 6) (cs := #[.int .i64 0, .int .i64 0]) (t := 28) ?_; intro gb407 hg w5 hbox hb; have q_ := GS.q4 (GS.kH HB hb) (Aside0.mk hbox) (GS.kZ hg HB) (GS.kZ hg HB); clear HB; obtain ⟨HB, BK407, GW407, GE407⟩ := q_; clear hb hbox hg) | ((with_reducible refine gqC (f := 104) rfl ?_); refine GS.gL (some 12) Try.func104 #[.int .i64 a0, .int .i64 (wrap64 (a2 - a1))] ?_; (with_reducible refine (spileref06_Bounds.calls k a0 (wrap64 (a2 - a1)) t408 t409 _ A4.out).mono ?_); rintro e w6 ⟨rfl, hb⟩; refine ⟨_, rfl, ?_⟩; have q_ := GS.q2 (GS.kB BK407 hb) (GS.kH HB hb); clear BK407 HB; obtain ⟨BK407, HB⟩ := q_; (try clear hb); (try clear hb2); (try clear hk); (try clear hi)) | ((with_reducible refine gqD (N := 7) rfl ?_); refine GS.bx (N := 7) (cs := #[.int .i64 0, .int .i64 0]) (t := 28) ?_; intro gb410 hg w7 hbox hb; have q_ := GS.q7 (GS.kB BK407 hb) (GS.kH HB hb) (Aside0.mk hbox) (GS.kZ hg HB) (GS.kZ hg HB) (Aside0.mk ((by rw [hg]; exact Nat.ne_of_lt (blk_lt (GS.bqX BK407.out)) : gb407 ≠ gb410))) (Aside0.mk ((by rw [hg]; exact Nat.ne_of_gt (blk_lt (GS.bqX BK407.out)) : gb410 ≠ gb407))); clear BK407 HB; obtain ⟨BK407, HB, BK410, GW410, GE410, NB407_410, NB410_407⟩ := q_; clear hb hbox hg; have hnb8 := NB410_407.out; have hnc8 := NB407_410.out; obtain ⟨hcz9_0, hcz9_1, hfz9_0, hfz9_1⟩ := GS.c2 BK410.out; obtain ⟨hcz10_0, hcz10_1, hfz10_0, hfz10_1⟩ := GS.c2 BK407.out))
 refine bodyPost_ret (results_cell_row rfl _ _ gb407 28 #[.int .i64 (wrap64 (2 * t408)), .int .i64 (wrap64 (2 * t409))] (0, 0) _ rfl (GS.bqZ BK407.out) Try.underlying28 rfl (by kernel_rfl)) rfl ?_
 exact ⟨by first | rfl | (simp [errW_none, errW_some] <;> rfl) | (simp [*, errW_none, errW_some] <;> rfl), GS.lB HB.out⟩
def spileref07_Of.f (k : Nat) (a0 : Int) (a1 : Int) (a2 : Int) (a3 : Int) : Option (Int × Int) := (spileref07_chord.f k a0 a1 a2).bind fun bt412 => ((spileref07_chord.f k a0 a1 a3).bind fun bt414 => (if a2 ≤ a1 then (if a1 ≤ a3 then (some (wrap64 ((wrap64 (a3 - a2)) * (mn bt412.1 bt414.1)), wrap64 ((wrap64 (a3 - a2)) * (wrap64 (2 * a0))))) else (some (wrap64 ((wrap64 (a3 - a2)) * (mn bt412.1 bt414.1)), wrap64 ((wrap64 (a3 - a2)) * (mx bt412.2 bt414.2))))) else (some (wrap64 ((wrap64 (a3 - a2)) * (mn bt412.1 bt414.1)), wrap64 ((wrap64 (a3 - a2)) * (mx bt412.2 bt414.2))))))
set_option maxHeartbeats 8000000 in
set_option maxRecDepth 100000 in
theorem spileref07_Of.calls (k : Nat) (a0 : Int) (a1 : Int) (a2 : Int) (a3 : Int) (r1 : Int) (r2 : Int) (w : World) (h : spileref07_Of.f k a0 a1 a2 a3 = some (r1, r2)) :
  Calls Try.prog 87 #[.int .i64 a0, .int .i64 a1, .int .i64 a2, .int .i64 a3] w fun e w' => e = .returned (.agg #[.int .i64 r1, .int .i64 r2]) ∧ Below w.heap.size w w' := by
 have hu28 := Try.underlying28
 have HB := Aside0.mk (Below.refl w.heap.size w)
 have H : ((spileref07_chord.f k a0 a1 a2).bind fun bt412 => ((spileref07_chord.f k a0 a1 a3).bind fun bt414 => (if a2 ≤ a1 then (if a1 ≤ a3 then (some (wrap64 ((wrap64 (a3 - a2)) * (mn bt412.1 bt414.1)), wrap64 ((wrap64 (a3 - a2)) * (wrap64 (2 * a0))))) else (some (wrap64 ((wrap64 (a3 - a2)) * (mn bt412.1 bt414.1)), wrap64 ((wrap64 (a3 - a2)) * (mx bt412.2 bt414.2))))) else (some (wrap64 ((wrap64 (a3 - a2)) * (mn bt412.1 bt414.1)), wrap64 ((wrap64 (a3 - a2)) * (mx bt412.2 bt414.2))))))) = some (r1, r2) := h
 clear h
 replace H := Option.bind_eq_some_iff.mp H
 obtain ⟨⟨t412, t413⟩, A50, H⟩ := H
 try (set_option simprocs false in dsimp only at H)
 have A5 := Aside0.mk A50
 clear A50
 replace H := Option.bind_eq_some_iff.mp H
 obtain ⟨⟨t414, t415⟩, A60, H⟩ := H
 try (set_option simprocs false in dsimp only at H)
 have A6 := Aside0.mk A60
 clear A60
 obtain ⟨ji7, hji7⟩ : ∃ j_ : Int, (mn t412 t414) = j_ := ⟨_, rfl⟩
 replace H : (if a2 ≤ a1 then (if a1 ≤ a3 then (some (wrap64 ((wrap64 (a3 - a2)) * (ji7)), wrap64 ((wrap64 (a3 - a2)) * (wrap64 (2 * a0))))) else (some (wrap64 ((wrap64 (a3 - a2)) * (ji7)), wrap64 ((wrap64 (a3 - a2)) * (mx t413 t415))))) else (some (wrap64 ((wrap64 (a3 - a2)) * (ji7)), wrap64 ((wrap64 (a3 - a2)) * (mx t413 t415))))) = some (r1, r2) := by first | (rw [hji7] at H; exact H) | (simp only [hji7] at H ⊢; exact H)
 have hji7_ : (if t414 < t412 then t414 else t412) = ji7 := hji7
 obtain ⟨ji8, hji8⟩ : ∃ j_ : Int, (mx t413 t415) = j_ := ⟨_, rfl⟩
 replace H : (if a2 ≤ a1 then (if a1 ≤ a3 then (some (wrap64 ((wrap64 (a3 - a2)) * (ji7)), wrap64 ((wrap64 (a3 - a2)) * (wrap64 (2 * a0))))) else (some (wrap64 ((wrap64 (a3 - a2)) * (ji7)), wrap64 ((wrap64 (a3 - a2)) * (ji8))))) else (some (wrap64 ((wrap64 (a3 - a2)) * (ji7)), wrap64 ((wrap64 (a3 - a2)) * (ji8))))) = some (r1, r2) := by first | (rw [hji8] at H; exact H) | (simp only [hji8] at H ⊢; exact H)
 have hji8_ : (if t413 < t415 then t415 else t413) = ji8 := hji8
 by_cases c9 : a2 ≤ a1
 ·rw [if_pos c9] at H
  have c9b0 : decide (a2 ≤ a1) = true := decide_eq_true c9
  clear c9
  by_cases c10 : a1 ≤ a3
  ·rw [if_pos c10] at H
   have c10b0 : decide (a1 ≤ a3) = true := decide_eq_true c10
   clear c10
   simp only [Option.some.injEq, Prod.mk.injEq] at H
   obtain ⟨rfl, rfl⟩ := H
   go_enter Try.func87, Try.ntmps87
   go_wp2_with (first | ((with_reducible refine gqD (N := 8) rfl ?_); refine GS.bx (N := 8) (cs := #[.int .i64 0, .int .i64 0]) (t := 28) ?_; intro gb411 hg w11 hbox hb; have q_ := GS.q4 (GS.kH HB hb) (Aside0.mk hbox) (GS.kZ hg HB) (GS.kZ hg HB); clear HB; obtain ⟨HB, BK411, GW411, GE411⟩ := q_; clear hb hbox hg) | (go_at_call 101; (with_reducible refine (spileref07_chord.calls k a0 a1 a2 t412 t413 _ A5.out).mono ?_); rintro e w12 ⟨rfl, hb⟩; have q_ := GS.q2 (GS.kB BK411 hb) (GS.kH HB hb); clear BK411 HB; obtain ⟨BK411, HB⟩ := q_; (try clear hb); (try clear hb2); (try clear hk); (try clear hi)) | (go_at_call 101; (with_reducible refine (spileref07_chord.calls k a0 a1 a3 t414 t415 _ A6.out).mono ?_); rintro e w13 ⟨rfl, hb⟩; have q_ := GS.q2 (GS.kB BK411 hb) (GS.kH HB hb); clear BK411 HB; obtain ⟨BK411, HB⟩ := q_; (try clear hb); (try clear hb2); (try clear hk); (try clear hi)) | ((with_reducible refine gqD (N := 9) rfl ?_); refine GS.bx (N := 9) (cs := #[.int .i64 0, .int .i64 0]) (t := 28) ?_; intro gb416 hg w14 hbox hb; have q_ := GS.q7 (GS.kB BK411 hb) (GS.kH HB hb) (Aside0.mk hbox) (GS.kZ hg HB) (GS.kZ hg HB) (Aside0.mk ((by rw [hg]; exact Nat.ne_of_lt (blk_lt (GS.bqX BK411.out)) : gb411 ≠ gb416))) (Aside0.mk ((by rw [hg]; exact Nat.ne_of_gt (blk_lt (GS.bqX BK411.out)) : gb416 ≠ gb411))); clear BK411 HB; obtain ⟨BK411, HB, BK416, GW416, GE416, NB411_416, NB416_411⟩ := q_; clear hb hbox hg) | ((with_reducible refine gqD (N := 10) rfl ?_); refine GS.bx (N := 10) (cs := #[.int .i64 0, .int .i64 0]) (t := 28) ?_; intro gb417 hg w15 hbox hb; have q_ := GS.q10 (GS.kB BK411 hb) (GS.kB BK416 hb) (GS.kH HB hb) (Aside0.mk hbox) (GS.kZ hg HB) (GS.kZ hg HB) (Aside0.mk ((by rw [hg]; exact Nat.ne_of_lt (blk_lt (GS.bqX BK411.out)) : gb411 ≠ gb417))) (Aside0.mk ((by rw [hg]; exact Nat.ne_of_gt (blk_lt (GS.bqX BK411.out)) : gb417 ≠ gb411))) (Aside0.mk ((by rw [hg]; exact Nat.ne_of_lt (blk_lt (GS.bqX BK416.out)) : gb416 ≠ gb417))) (Aside0.mk ((by rw [hg]; exact Nat.ne_of_gt (blk_lt (GS.bqX BK416.out)) : gb417 ≠ gb416))); clear BK411 BK416 HB; obtain ⟨BK411, BK416, HB, BK417, GW417, GE417, NB411_417, NB417_411, NB416_417, NB417_416⟩ := q_; clear hb hbox hg; have hnb16 := NB416_411.out; have hnc16 := NB411_416.out; have hnb17 := NB416_417.out; have hnc17 := NB417_416.out; obtain ⟨hcz18_0, hcz18_1, hfz18_0, hfz18_1⟩ := GS.c2 BK416.out; have hnb19 := NB417_411.out; have hnc19 := NB411_417.out; obtain ⟨hcz20_0, hcz20_1, hfz20_0, hfz20_1⟩ := GS.c2 BK417.out; obtain ⟨hcz21_0, hcz21_1, hfz21_0, hfz21_1⟩ := GS.c2 BK411.out))
   repeat (go_quiet (first | ((with_reducible refine gqD (N := 8) rfl ?_); refine GS.bx (N := 8) (cs := #[.int .i64 0, .int .i64 0]) (t := 28) ?_; intro gb411 hg w11 hbox hb; have q_ := GS.q4 (GS.kH HB hb) (Aside0.mk hbox) (GS.kZ hg HB) (GS.kZ hg HB); clear HB; obtain ⟨HB, BK411, GW411, GE411⟩ := q_; clear hb hbox hg) | (go_at_call 101; (with_reducible refine (spileref07_chord.calls k a0 a1 a2 t412 t413 _ A5.out).mono ?_); rintro e w12 ⟨rfl, hb⟩; have q_ := GS.q2 (GS.kB BK411 hb) (GS.kH HB hb); clear BK411 HB; obtain ⟨BK411, HB⟩ := q_; (try clear hb); (try clear hb2); (try clear hk); (try clear hi)) | (go_at_call 101; (with_reducible refine (spileref07_chord.calls k a0 a1 a3 t414 t415 _ A6.out).mono ?_); rintro e w13 ⟨rfl, hb⟩; have q_ := GS.q2 (GS.kB BK411 hb) (GS.kH HB hb); clear BK411 HB; obtain ⟨BK411, HB⟩ := q_; (try clear hb); (try clear hb2); (try clear hk); (try clear hi)) | ((with_reducible refine gqD (N := 9) rfl ?_); refine GS.bx (N := 9) (cs := #[.int .i64 0, .int .i64 0]) (t := 28) ?_; intro gb416 hg w14 hbox hb; have q_ := GS.q7 (GS.kB BK411 hb) (GS.kH HB hb) (Aside0.mk hbox) (GS.kZ hg HB) (GS.kZ hg HB) (Aside0.mk ((by rw [hg]; exact Nat.ne_of_lt (blk_lt (GS.bqX BK411.out)) : gb411 ≠ gb416))) (Aside0.mk ((by rw [hg]; exact Nat.ne_of_gt (blk_lt (GS.bqX BK411.out)) : gb416 ≠ gb411))); clear BK411 HB; obtain ⟨BK411, HB, BK416, GW416, GE416, NB411_416, NB416_411⟩ := q_; clear hb hbox hg) | ((with_reducible refine gqD (N := 10) rfl ?_); refine GS.bx (N := 10) (cs := #[.int .i64 0, .int .i64 0]) (t := 28) ?_; intro gb417 hg w15 hbox hb; have q_ := GS.q10 (GS.kB BK411 hb) (GS.kB BK416 hb) (GS.kH HB hb) (Aside0.mk hbox) (GS.kZ hg HB) (GS.kZ hg HB) (Aside0.mk ((by rw [hg]; exact Nat.ne_of_lt (blk_lt (GS.bqX BK411.out)) : gb411 ≠ gb417))) (Aside0.mk ((by rw [hg]; exact Nat.ne_of_gt (blk_lt (GS.bqX BK411.out)) : gb417 ≠ gb411))) (Aside0.mk ((by rw [hg]; exact Nat.ne_of_lt (blk_lt (GS.bqX BK416.out)) : gb416 ≠ gb417))) (Aside0.mk ((by rw [hg]; exact Nat.ne_of_gt (blk_lt (GS.bqX BK416.out)) : gb417 ≠ gb416))); clear BK411 BK416 HB; obtain ⟨BK411, BK416, HB, BK417, GW417, GE417, NB411_417, NB417_411, NB416_417, NB417_416⟩ := q_; clear hb hbox hg; have hnb16 := NB416_411.out; have hnc16 := NB411_416.out; have hnb17 := NB416_417.out; have hnc17 := NB417_416.out; obtain ⟨hcz18_0, hcz18_1, hfz18_0, hfz18_1⟩ := GS.c2 BK416.out; have hnb19 := NB417_411.out; have hnc19 := NB411_417.out; obtain ⟨hcz20_0, hcz20_1, hfz20_0, hfz20_1⟩ := GS.c2 BK417.out; obtain ⟨hcz21_0, hcz21_1, hfz21_0, hfz21_1⟩ := GS.c2 BK411.out)); try go_wp2_with (first | ((with_reducible refine gqD (N := 8) rfl ?_); refine GS.bx (N := 8) (cs := #[.int .i64 0, .int .i64 0]) (t := 28) ?_; intro gb411 hg w11 hbox hb; have q_ := GS.q4 (GS.kH HB hb) (Aside0.mk hbox) (GS.kZ hg HB) (GS.kZ hg HB); clear HB; obtain ⟨HB, BK411, GW411, GE411⟩ := q_; clear hb hbox hg) | (go_at_call 101; (with_reducible refine (spileref07_chord.calls k a0 a1 a2 t412 t413 _ A5.out).mono ?_); rintro e w12 ⟨rfl, hb⟩; have q_ := GS.q2 (GS.kB BK411 hb) (GS.kH HB hb); clear BK411 HB; obtain ⟨BK411, HB⟩ := q_; (try clear hb); (try clear hb2); (try clear hk); (try clear hi)) | (go_at_call 101; (with_reducible refine (spileref07_chord.calls k a0 a1 a3 t414 t415 _ A6.out).mono ?_); rintro e w13 ⟨rfl, hb⟩; have q_ := GS.q2 (GS.kB BK411 hb) (GS.kH HB hb); clear BK411 HB; obtain ⟨BK411, HB⟩ := q_; (try clear hb); (try clear hb2); (try clear hk); (try clear hi)) | ((with_reducible refine gqD (N := 9) rfl ?_); refine GS.bx (N := 9) (cs := #[.int .i64 0, .int .i64 0]) (t := 28) ?_; intro gb416 hg w14 hbox hb; have q_ := GS.q7 (GS.kB BK411 hb) (GS.kH HB hb) (Aside0.mk hbox) (GS.kZ hg HB) (GS.kZ hg HB) (Aside0.mk ((by rw [hg]; exact Nat.ne_of_lt (blk_lt (GS.bqX BK411.out)) : gb411 ≠ gb416))) (Aside0.mk ((by rw [hg]; exact Nat.ne_of_gt (blk_lt (GS.bqX BK411.out)) : gb416 ≠ gb411))); clear BK411 HB; obtain ⟨BK411, HB, BK416, GW416, GE416, NB411_416, NB416_411⟩ := q_; clear hb hbox hg) | ((with_reducible refine gqD (N := 10) rfl ?_); refine GS.bx (N := 10) (cs := #[.int .i64 0, .int .i64 0]) (t := 28) ?_; intro gb417 hg w15 hbox hb; have q_ := GS.q10 (GS.kB BK411 hb) (GS.kB BK416 hb) (GS.kH HB hb) (Aside0.mk hbox) (GS.kZ hg HB) (GS.kZ hg HB) (Aside0.mk ((by rw [hg]; exact Nat.ne_of_lt (blk_lt (GS.bqX BK411.out)) : gb411 ≠ gb417))) (Aside0.mk ((by rw [hg]; exact Nat.ne_of_gt (blk_lt (GS.bqX BK411.out)) : gb417 ≠ gb411))) (Aside0.mk ((by rw [hg]; exact Nat.ne_of_lt (blk_lt (GS.bqX BK416.out)) : gb416 ≠ gb417))) (Aside0.mk ((by rw [hg]; exact Nat.ne_of_gt (blk_lt (GS.bqX BK416.out)) : gb417 ≠ gb416))); clear BK411 BK416 HB; obtain ⟨BK411, BK416, HB, BK417, GW417, GE417, NB411_417, NB417_411, NB416_417, NB417_416⟩ := q_; clear hb hbox hg; have hnb16 := NB416_411.out; have hnc16 := NB411_416.out; have hnb17 := NB416_417.out; have hnc17 := NB417_416.out; obtain ⟨hcz18_0, hcz18_1, hfz18_0, hfz18_1⟩ := GS.c2 BK416.out; have hnb19 := NB417_411.out; have hnc19 := NB411_417.out; obtain ⟨hcz20_0, hcz20_1, hfz20_0, hfz20_1⟩ := GS.c2 BK417.out; obtain ⟨hcz21_0, hcz21_1, hfz21_0, hfz21_1⟩ := GS.c2 BK411.out)))
   refine bodyPost_ret (results_cell_row rfl _ _ gb411 28 #[.int .i64 (wrap64 ((wrap64 (a3 - a2)) * (ji7))), .int .i64 (wrap64 ((wrap64 (a3 - a2)) * (wrap64 (2 * a0))))] (0, 0) _ rfl (GS.bqZ BK411.out) Try.underlying28 rfl (by kernel_rfl)) rfl ?_
   exact ⟨by first | rfl | (simp [errW_none, errW_some] <;> rfl) | (simp only [← hji7, ← hji8]; first | rfl | (simp [errW_none, errW_some] <;> rfl)) | (simp [*, errW_none, errW_some] <;> rfl), GS.lB HB.out⟩
  ·rw [if_neg c10] at H
   have c10b0 : decide (a1 ≤ a3) = false := decide_eq_false c10
   clear c10
   simp only [Option.some.injEq, Prod.mk.injEq] at H
   obtain ⟨rfl, rfl⟩ := H
   go_enter Try.func87, Try.ntmps87
   go_wp2_with (first | ((with_reducible refine gqD (N := 8) rfl ?_); refine GS.bx (N := 8) (cs := #[.int .i64 0, .int .i64 0]) (t := 28) ?_; intro gb411 hg w22 hbox hb; have q_ := GS.q4 (GS.kH HB hb) (Aside0.mk hbox) (GS.kZ hg HB) (GS.kZ hg HB); clear HB; obtain ⟨HB, BK411, GW411, GE411⟩ := q_; clear hb hbox hg) | (go_at_call 101; (with_reducible refine (spileref07_chord.calls k a0 a1 a2 t412 t413 _ A5.out).mono ?_); rintro e w23 ⟨rfl, hb⟩; have q_ := GS.q2 (GS.kB BK411 hb) (GS.kH HB hb); clear BK411 HB; obtain ⟨BK411, HB⟩ := q_; (try clear hb); (try clear hb2); (try clear hk); (try clear hi)) | (go_at_call 101; (with_reducible refine (spileref07_chord.calls k a0 a1 a3 t414 t415 _ A6.out).mono ?_); rintro e w24 ⟨rfl, hb⟩; have q_ := GS.q2 (GS.kB BK411 hb) (GS.kH HB hb); clear BK411 HB; obtain ⟨BK411, HB⟩ := q_; (try clear hb); (try clear hb2); (try clear hk); (try clear hi)) | ((with_reducible refine gqD (N := 9) rfl ?_); refine GS.bx (N := 9) (cs := #[.int .i64 0, .int .i64 0]) (t := 28) ?_; intro gb416 hg w25 hbox hb; have q_ := GS.q7 (GS.kB BK411 hb) (GS.kH HB hb) (Aside0.mk hbox) (GS.kZ hg HB) (GS.kZ hg HB) (Aside0.mk ((by rw [hg]; exact Nat.ne_of_lt (blk_lt (GS.bqX BK411.out)) : gb411 ≠ gb416))) (Aside0.mk ((by rw [hg]; exact Nat.ne_of_gt (blk_lt (GS.bqX BK411.out)) : gb416 ≠ gb411))); clear BK411 HB; obtain ⟨BK411, HB, BK416, GW416, GE416, NB411_416, NB416_411⟩ := q_; clear hb hbox hg) | ((with_reducible refine gqD (N := 10) rfl ?_); refine GS.bx (N := 10) (cs := #[.int .i64 0, .int .i64 0]) (t := 28) ?_; intro gb417 hg w26 hbox hb; have q_ := GS.q10 (GS.kB BK411 hb) (GS.kB BK416 hb) (GS.kH HB hb) (Aside0.mk hbox) (GS.kZ hg HB) (GS.kZ hg HB) (Aside0.mk ((by rw [hg]; exact Nat.ne_of_lt (blk_lt (GS.bqX BK411.out)) : gb411 ≠ gb417))) (Aside0.mk ((by rw [hg]; exact Nat.ne_of_gt (blk_lt (GS.bqX BK411.out)) : gb417 ≠ gb411))) (Aside0.mk ((by rw [hg]; exact Nat.ne_of_lt (blk_lt (GS.bqX BK416.out)) : gb416 ≠ gb417))) (Aside0.mk ((by rw [hg]; exact Nat.ne_of_gt (blk_lt (GS.bqX BK416.out)) : gb417 ≠ gb416))); clear BK411 BK416 HB; obtain ⟨BK411, BK416, HB, BK417, GW417, GE417, NB411_417, NB417_411, NB416_417, NB417_416⟩ := q_; clear hb hbox hg; have hnb27 := NB416_411.out; have hnc27 := NB411_416.out; have hnb28 := NB416_417.out; have hnc28 := NB417_416.out; obtain ⟨hcz29_0, hcz29_1, hfz29_0, hfz29_1⟩ := GS.c2 BK416.out; have hnb30 := NB417_411.out; have hnc30 := NB411_417.out; obtain ⟨hcz31_0, hcz31_1, hfz31_0, hfz31_1⟩ := GS.c2 BK417.out; obtain ⟨hcz32_0, hcz32_1, hfz32_0, hfz32_1⟩ := GS.c2 BK411.out))
   repeat (go_quiet (first | ((with_reducible refine gqD (N := 8) rfl ?_); refine GS.bx (N := 8) (cs := #[.int .i64 0, .int .i64 0]) (t := 28) ?_; intro gb411 hg w22 hbox hb; have q_ := GS.q4 (GS.kH HB hb) (Aside0.mk hbox) (GS.kZ hg HB) (GS.kZ hg HB); clear HB; obtain ⟨HB, BK411, GW411, GE411⟩ := q_; clear hb hbox hg) | (go_at_call 101; (with_reducible refine (spileref07_chord.calls k a0 a1 a2 t412 t413 _ A5.out).mono ?_); rintro e w23 ⟨rfl, hb⟩; have q_ := GS.q2 (GS.kB BK411 hb) (GS.kH HB hb); clear BK411 HB; obtain ⟨BK411, HB⟩ := q_; (try clear hb); (try clear hb2); (try clear hk); (try clear hi)) | (go_at_call 101; (with_reducible refine (spileref07_chord.calls k a0 a1 a3 t414 t415 _ A6.out).mono ?_); rintro e w24 ⟨rfl, hb⟩; have q_ := GS.q2 (GS.kB BK411 hb) (GS.kH HB hb); clear BK411 HB; obtain ⟨BK411, HB⟩ := q_; (try clear hb); (try clear hb2); (try clear hk); (try clear hi)) | ((with_reducible refine gqD (N := 9) rfl ?_); refine GS.bx (N := 9) (cs := #[.int .i64 0, .int .i64 0]) (t := 28) ?_; intro gb416 hg w25 hbox hb; have q_ := GS.q7 (GS.kB BK411 hb) (GS.kH HB hb) (Aside0.mk hbox) (GS.kZ hg HB) (GS.kZ hg HB) (Aside0.mk ((by rw [hg]; exact Nat.ne_of_lt (blk_lt (GS.bqX BK411.out)) : gb411 ≠ gb416))) (Aside0.mk ((by rw [hg]; exact Nat.ne_of_gt (blk_lt (GS.bqX BK411.out)) : gb416 ≠ gb411))); clear BK411 HB; obtain ⟨BK411, HB, BK416, GW416, GE416, NB411_416, NB416_411⟩ := q_; clear hb hbox hg) | ((with_reducible refine gqD (N := 10) rfl ?_); refine GS.bx (N := 10) (cs := #[.int .i64 0, .int .i64 0]) (t := 28) ?_; intro gb417 hg w26 hbox hb; have q_ := GS.q10 (GS.kB BK411 hb) (GS.kB BK416 hb) (GS.kH HB hb) (Aside0.mk hbox) (GS.kZ hg HB) (GS.kZ hg HB) (Aside0.mk ((by rw [hg]; exact Nat.ne_of_lt (blk_lt (GS.bqX BK411.out)) : gb411 ≠ gb417))) (Aside0.mk ((by rw [hg]; exact Nat.ne_of_gt (blk_lt (GS.bqX BK411.out)) : gb417 ≠ gb411))) (Aside0.mk ((by rw [hg]; exact Nat.ne_of_lt (blk_lt (GS.bqX BK416.out)) : gb416 ≠ gb417))) (Aside0.mk ((by rw [hg]; exact Nat.ne_of_gt (blk_lt (GS.bqX BK416.out)) : gb417 ≠ gb416))); clear BK411 BK416 HB; obtain ⟨BK411, BK416, HB, BK417, GW417, GE417, NB411_417, NB417_411, NB416_417, NB417_416⟩ := q_; clear hb hbox hg; have hnb27 := NB416_411.out; have hnc27 := NB411_416.out; have hnb28 := NB416_417.out; have hnc28 := NB417_416.out; obtain ⟨hcz29_0, hcz29_1, hfz29_0, hfz29_1⟩ := GS.c2 BK416.out; have hnb30 := NB417_411.out; have hnc30 := NB411_417.out; obtain ⟨hcz31_0, hcz31_1, hfz31_0, hfz31_1⟩ := GS.c2 BK417.out; obtain ⟨hcz32_0, hcz32_1, hfz32_0, hfz32_1⟩ := GS.c2 BK411.out)); try go_wp2_with (first | ((with_reducible refine gqD (N := 8) rfl ?_); refine GS.bx (N := 8) (cs := #[.int .i64 0, .int .i64 0]) (t := 28) ?_; intro gb411 hg w22 hbox hb; have q_ := GS.q4 (GS.kH HB hb) (Aside0.mk hbox) (GS.kZ hg HB) (GS.kZ hg HB); clear HB; obtain ⟨HB, BK411, GW411, GE411⟩ := q_; clear hb hbox hg) | (go_at_call 101; (with_reducible refine (spileref07_chord.calls k a0 a1 a2 t412 t413 _ A5.out).mono ?_); rintro e w23 ⟨rfl, hb⟩; have q_ := GS.q2 (GS.kB BK411 hb) (GS.kH HB hb); clear BK411 HB; obtain ⟨BK411, HB⟩ := q_; (try clear hb); (try clear hb2); (try clear hk); (try clear hi)) | (go_at_call 101; (with_reducible refine (spileref07_chord.calls k a0 a1 a3 t414 t415 _ A6.out).mono ?_); rintro e w24 ⟨rfl, hb⟩; have q_ := GS.q2 (GS.kB BK411 hb) (GS.kH HB hb); clear BK411 HB; obtain ⟨BK411, HB⟩ := q_; (try clear hb); (try clear hb2); (try clear hk); (try clear hi)) | ((with_reducible refine gqD (N := 9) rfl ?_); refine GS.bx (N := 9) (cs := #[.int .i64 0, .int .i64 0]) (t := 28) ?_; intro gb416 hg w25 hbox hb; have q_ := GS.q7 (GS.kB BK411 hb) (GS.kH HB hb) (Aside0.mk hbox) (GS.kZ hg HB) (GS.kZ hg HB) (Aside0.mk ((by rw [hg]; exact Nat.ne_of_lt (blk_lt (GS.bqX BK411.out)) : gb411 ≠ gb416))) (Aside0.mk ((by rw [hg]; exact Nat.ne_of_gt (blk_lt (GS.bqX BK411.out)) : gb416 ≠ gb411))); clear BK411 HB; obtain ⟨BK411, HB, BK416, GW416, GE416, NB411_416, NB416_411⟩ := q_; clear hb hbox hg) | ((with_reducible refine gqD (N := 10) rfl ?_); refine GS.bx (N := 10) (cs := #[.int .i64 0, .int .i64 0]) (t := 28) ?_; intro gb417 hg w26 hbox hb; have q_ := GS.q10 (GS.kB BK411 hb) (GS.kB BK416 hb) (GS.kH HB hb) (Aside0.mk hbox) (GS.kZ hg HB) (GS.kZ hg HB) (Aside0.mk ((by rw [hg]; exact Nat.ne_of_lt (blk_lt (GS.bqX BK411.out)) : gb411 ≠ gb417))) (Aside0.mk ((by rw [hg]; exact Nat.ne_of_gt (blk_lt (GS.bqX BK411.out)) : gb417 ≠ gb411))) (Aside0.mk ((by rw [hg]; exact Nat.ne_of_lt (blk_lt (GS.bqX BK416.out)) : gb416 ≠ gb417))) (Aside0.mk ((by rw [hg]; exact Nat.ne_of_gt (blk_lt (GS.bqX BK416.out)) : gb417 ≠ gb416))); clear BK411 BK416 HB; obtain ⟨BK411, BK416, HB, BK417, GW417, GE417, NB411_417, NB417_411, NB416_417, NB417_416⟩ := q_; clear hb hbox hg; have hnb27 := NB416_411.out; have hnc27 := NB411_416.out; have hnb28 := NB416_417.out; have hnc28 := NB417_416.out; obtain ⟨hcz29_0, hcz29_1, hfz29_0, hfz29_1⟩ := GS.c2 BK416.out; have hnb30 := NB417_411.out; have hnc30 := NB411_417.out; obtain ⟨hcz31_0, hcz31_1, hfz31_0, hfz31_1⟩ := GS.c2 BK417.out; obtain ⟨hcz32_0, hcz32_1, hfz32_0, hfz32_1⟩ := GS.c2 BK411.out)))
   refine bodyPost_ret (results_cell_row rfl _ _ gb411 28 #[.int .i64 (wrap64 ((wrap64 (a3 - a2)) * (ji7))), .int .i64 (wrap64 ((wrap64 (a3 - a2)) * (ji8)))] (0, 0) _ rfl (GS.bqZ BK411.out) Try.underlying28 rfl (by kernel_rfl)) rfl ?_
   exact ⟨by first | rfl | (simp [errW_none, errW_some] <;> rfl) | (simp only [← hji7, ← hji8]; first | rfl | (simp [errW_none, errW_some] <;> rfl)) | (simp [*, errW_none, errW_some] <;> rfl), GS.lB HB.out⟩
 ·rw [if_neg c9] at H
  have c9b0 : decide (a2 ≤ a1) = false := decide_eq_false c9
  clear c9
  simp only [Option.some.injEq, Prod.mk.injEq] at H
  obtain ⟨rfl, rfl⟩ := H
  go_enter Try.func87, Try.ntmps87
  go_wp2_with (first | ((with_reducible refine gqD (N := 8) rfl ?_); refine GS.bx (N := 8) (cs := #[.int .i64 0, .int .i64 0]) (t := 28) ?_; intro gb411 hg w33 hbox hb; have q_ := GS.q4 (GS.kH HB hb) (Aside0.mk hbox) (GS.kZ hg HB) (GS.kZ hg HB); clear HB; obtain ⟨HB, BK411, GW411, GE411⟩ := q_; clear hb hbox hg) | (go_at_call 101; (with_reducible refine (spileref07_chord.calls k a0 a1 a2 t412 t413 _ A5.out).mono ?_); rintro e w34 ⟨rfl, hb⟩; have q_ := GS.q2 (GS.kB BK411 hb) (GS.kH HB hb); clear BK411 HB; obtain ⟨BK411, HB⟩ := q_; (try clear hb); (try clear hb2); (try clear hk); (try clear hi)) | (go_at_call 101; (with_reducible refine (spileref07_chord.calls k a0 a1 a3 t414 t415 _ A6.out).mono ?_); rintro e w35 ⟨rfl, hb⟩; have q_ := GS.q2 (GS.kB BK411 hb) (GS.kH HB hb); clear BK411 HB; obtain ⟨BK411, HB⟩ := q_; (try clear hb); (try clear hb2); (try clear hk); (try clear hi)) | ((with_reducible refine gqD (N := 9) rfl ?_); refine GS.bx (N := 9) (cs := #[.int .i64 0, .int .i64 0]) (t := 28) ?_; intro gb416 hg w36 hbox hb; have q_ := GS.q7 (GS.kB BK411 hb) (GS.kH HB hb) (Aside0.mk hbox) (GS.kZ hg HB) (GS.kZ hg HB) (Aside0.mk ((by rw [hg]; exact Nat.ne_of_lt (blk_lt (GS.bqX BK411.out)) : gb411 ≠ gb416))) (Aside0.mk ((by rw [hg]; exact Nat.ne_of_gt (blk_lt (GS.bqX BK411.out)) : gb416 ≠ gb411))); clear BK411 HB; obtain ⟨BK411, HB, BK416, GW416, GE416, NB411_416, NB416_411⟩ := q_; clear hb hbox hg) | ((with_reducible refine gqD (N := 10) rfl ?_); refine GS.bx (N := 10) (cs := #[.int .i64 0, .int .i64 0]) (t := 28) ?_; intro gb417 hg w37 hbox hb; have q_ := GS.q10 (GS.kB BK411 hb) (GS.kB BK416 hb) (GS.kH HB hb) (Aside0.mk hbox) (GS.kZ hg HB) (GS.kZ hg HB) (Aside0.mk ((by rw [hg]; exact Nat.ne_of_lt (blk_lt (GS.bqX BK411.out)) : gb411 ≠ gb417))) (Aside0.mk ((by rw [hg]; exact Nat.ne_of_gt (blk_lt (GS.bqX BK411.out)) : gb417 ≠ gb411))) (Aside0.mk ((by rw [hg]; exact Nat.ne_of_lt (blk_lt (GS.bqX BK416.out)) : gb416 ≠ gb417))) (Aside0.mk ((by rw [hg]; exact Nat.ne_of_gt (blk_lt (GS.bqX BK416.out)) : gb417 ≠ gb416))); clear BK411 BK416 HB; obtain ⟨BK411, BK416, HB, BK417, GW417, GE417, NB411_417, NB417_411, NB416_417, NB417_416⟩ := q_; clear hb hbox hg; have hnb38 := NB416_411.out; have hnc38 := NB411_416.out; have hnb39 := NB416_417.out; have hnc39 := NB417_416.out; obtain ⟨hcz40_0, hcz40_1, hfz40_0, hfz40_1⟩ := GS.c2 BK416.out; have hnb41 := NB417_411.out; have hnc41 := NB411_417.out; obtain ⟨hcz42_0, hcz42_1, hfz42_0, hfz42_1⟩ := GS.c2 BK417.out; obtain ⟨hcz43_0, hcz43_1, hfz43_0, hfz43_1⟩ := GS.c2 BK411.out))
  repeat (go_quiet (first | ((with_reducible refine gqD (N := 8) rfl ?_); refine GS.bx (N := 8) (cs := #[.int .i64 0, .int .i64 0]) (t := 28) ?_; intro gb411 hg w33 hbox hb; have q_ := GS.q4 (GS.kH HB hb) (Aside0.mk hbox) (GS.kZ hg HB) (GS.kZ hg HB); clear HB; obtain ⟨HB, BK411, GW411, GE411⟩ := q_; clear hb hbox hg) | (go_at_call 101; (with_reducible refine (spileref07_chord.calls k a0 a1 a2 t412 t413 _ A5.out).mono ?_); rintro e w34 ⟨rfl, hb⟩; have q_ := GS.q2 (GS.kB BK411 hb) (GS.kH HB hb); clear BK411 HB; obtain ⟨BK411, HB⟩ := q_; (try clear hb); (try clear hb2); (try clear hk); (try clear hi)) | (go_at_call 101; (with_reducible refine (spileref07_chord.calls k a0 a1 a3 t414 t415 _ A6.out).mono ?_); rintro e w35 ⟨rfl, hb⟩; have q_ := GS.q2 (GS.kB BK411 hb) (GS.kH HB hb); clear BK411 HB; obtain ⟨BK411, HB⟩ := q_; (try clear hb); (try clear hb2); (try clear hk); (try clear hi)) | ((with_reducible refine gqD (N := 9) rfl ?_); refine GS.bx (N := 9) (cs := #[.int .i64 0, .int .i64 0]) (t := 28) ?_; intro gb416 hg w36 hbox hb; have q_ := GS.q7 (GS.kB BK411 hb) (GS.kH HB hb) (Aside0.mk hbox) (GS.kZ hg HB) (GS.kZ hg HB) (Aside0.mk ((by rw [hg]; exact Nat.ne_of_lt (blk_lt (GS.bqX BK411.out)) : gb411 ≠ gb416))) (Aside0.mk ((by rw [hg]; exact Nat.ne_of_gt (blk_lt (GS.bqX BK411.out)) : gb416 ≠ gb411))); clear BK411 HB; obtain ⟨BK411, HB, BK416, GW416, GE416, NB411_416, NB416_411⟩ := q_; clear hb hbox hg) | ((with_reducible refine gqD (N := 10) rfl ?_); refine GS.bx (N := 10) (cs := #[.int .i64 0, .int .i64 0]) (t := 28) ?_; intro gb417 hg w37 hbox hb; have q_ := GS.q10 (GS.kB BK411 hb) (GS.kB BK416 hb) (GS.kH HB hb) (Aside0.mk hbox) (GS.kZ hg HB) (GS.kZ hg HB) (Aside0.mk ((by rw [hg]; exact Nat.ne_of_lt (blk_lt (GS.bqX BK411.out)) : gb411 ≠ gb417))) (Aside0.mk ((by rw [hg]; exact Nat.ne_of_gt (blk_lt (GS.bqX BK411.out)) : gb417 ≠ gb411))) (Aside0.mk ((by rw [hg]; exact Nat.ne_of_lt (blk_lt (GS.bqX BK416.out)) : gb416 ≠ gb417))) (Aside0.mk ((by rw [hg]; exact Nat.ne_of_gt (blk_lt (GS.bqX BK416.out)) : gb417 ≠ gb416))); clear BK411 BK416 HB; obtain ⟨BK411, BK416, HB, BK417, GW417, GE417, NB411_417, NB417_411, NB416_417, NB417_416⟩ := q_; clear hb hbox hg; have hnb38 := NB416_411.out; have hnc38 := NB411_416.out; have hnb39 := NB416_417.out; have hnc39 := NB417_416.out; obtain ⟨hcz40_0, hcz40_1, hfz40_0, hfz40_1⟩ := GS.c2 BK416.out; have hnb41 := NB417_411.out; have hnc41 := NB411_417.out; obtain ⟨hcz42_0, hcz42_1, hfz42_0, hfz42_1⟩ := GS.c2 BK417.out; obtain ⟨hcz43_0, hcz43_1, hfz43_0, hfz43_1⟩ := GS.c2 BK411.out)); try go_wp2_with (first | ((with_reducible refine gqD (N := 8) rfl ?_); refine GS.bx (N := 8) (cs := #[.int .i64 0, .int .i64 0]) (t := 28) ?_; intro gb411 hg w33 hbox hb; have q_ := GS.q4 (GS.kH HB hb) (Aside0.mk hbox) (GS.kZ hg HB) (GS.kZ hg HB); clear HB; obtain ⟨HB, BK411, GW411, GE411⟩ := q_; clear hb hbox hg) | (go_at_call 101; (with_reducible refine (spileref07_chord.calls k a0 a1 a2 t412 t413 _ A5.out).mono ?_); rintro e w34 ⟨rfl, hb⟩; have q_ := GS.q2 (GS.kB BK411 hb) (GS.kH HB hb); clear BK411 HB; obtain ⟨BK411, HB⟩ := q_; (try clear hb); (try clear hb2); (try clear hk); (try clear hi)) | (go_at_call 101; (with_reducible refine (spileref07_chord.calls k a0 a1 a3 t414 t415 _ A6.out).mono ?_); rintro e w35 ⟨rfl, hb⟩; have q_ := GS.q2 (GS.kB BK411 hb) (GS.kH HB hb); clear BK411 HB; obtain ⟨BK411, HB⟩ := q_; (try clear hb); (try clear hb2); (try clear hk); (try clear hi)) | ((with_reducible refine gqD (N := 9) rfl ?_); refine GS.bx (N := 9) (cs := #[.int .i64 0, .int .i64 0]) (t := 28) ?_; intro gb416 hg w36 hbox hb; have q_ := GS.q7 (GS.kB BK411 hb) (GS.kH HB hb) (Aside0.mk hbox) (GS.kZ hg HB) (GS.kZ hg HB) (Aside0.mk ((by rw [hg]; exact Nat.ne_of_lt (blk_lt (GS.bqX BK411.out)) : gb411 ≠ gb416))) (Aside0.mk ((by rw [hg]; exact Nat.ne_of_gt (blk_lt (GS.bqX BK411.out)) : gb416 ≠ gb411))); clear BK411 HB; obtain ⟨BK411, HB, BK416, GW416, GE416, NB411_416, NB416_411⟩ := q_; clear hb hbox hg) | ((with_reducible refine gqD (N := 10) rfl ?_); refine GS.bx (N := 10) (cs := #[.int .i64 0, .int .i64 0]) (t := 28) ?_; intro gb417 hg w37 hbox hb; have q_ := GS.q10 (GS.kB BK411 hb) (GS.kB BK416 hb) (GS.kH HB hb) (Aside0.mk hbox) (GS.kZ hg HB) (GS.kZ hg HB) (Aside0.mk ((by rw [hg]; exact Nat.ne_of_lt (blk_lt (GS.bqX BK411.out)) : gb411 ≠ gb417))) (Aside0.mk ((by rw [hg]; exact Nat.ne_of_gt (blk_lt (GS.bqX BK411.out)) : gb417 ≠ gb411))) (Aside0.mk ((by rw [hg]; exact Nat.ne_of_lt (blk_lt (GS.bqX BK416.out)) : gb416 ≠ gb417))) (Aside0.mk ((by rw [hg]; exact Nat.ne_of_gt (blk_lt (GS.bqX BK416.out)) : gb417 ≠ gb416))); clear BK411 BK416 HB; obtain ⟨BK411, BK416, HB, BK417, GW417, GE417, NB411_417, NB417_411, NB416_417, NB417_416⟩ := q_; clear hb hbox hg; have hnb38 := NB416_411.out; have hnc38 := NB411_416.out; have hnb39 := NB416_417.out; have hnc39 := NB417_416.out; obtain ⟨hcz40_0, hcz40_1, hfz40_0, hfz40_1⟩ := GS.c2 BK416.out; have hnb41 := NB417_411.out; have hnc41 := NB411_417.out; obtain ⟨hcz42_0, hcz42_1, hfz42_0, hfz42_1⟩ := GS.c2 BK417.out; obtain ⟨hcz43_0, hcz43_1, hfz43_0, hfz43_1⟩ := GS.c2 BK411.out)))
  refine bodyPost_ret (results_cell_row rfl _ _ gb411 28 #[.int .i64 (wrap64 ((wrap64 (a3 - a2)) * (ji7))), .int .i64 (wrap64 ((wrap64 (a3 - a2)) * (ji8)))] (0, 0) _ rfl (GS.bqZ BK411.out) Try.underlying28 rfl (by kernel_rfl)) rfl ?_
  exact ⟨by first | rfl | (simp [errW_none, errW_some] <;> rfl) | (simp only [← hji7, ← hji8]; first | rfl | (simp [errW_none, errW_some] <;> rfl)) | (simp [*, errW_none, errW_some] <;> rfl), GS.lB HB.out⟩
end Go.Proofs.Ytefjmcljkmppoaa.K
