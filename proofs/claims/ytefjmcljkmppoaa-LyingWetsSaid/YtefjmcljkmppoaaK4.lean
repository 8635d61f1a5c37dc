import Derived.Test.YtefjmcljkmppoaaK0
import Derived.Test.YtefjmcljkmppoaaGShort
import Derived.Test.YtefjmcljkmppoaaGRoot
namespace Go.Proofs.Ytefjmcljkmppoaa.K
open Go.RowKit Go.Proofs.YtefjmcljkmppoaaW.PrintWords Go.Proofs.YtefjmcljkmppoaaW.PrintLast Go.Proofs.YtefjmcljkmppoaaW.PrintMore
attribute [local go_sem] max2_int min2_int max_two min_two max_three min_three max_four min_four   -- for this text's walks alone
set_option linter.unusedVariables false
set_option linter.unusedSimpArgs false
def segment_measure.f (a0 : Int) : Option (Bool) := if a0 ≥ 0 then (some (decide (a0 ≤ 100000))) else (some false)
set_option maxHeartbeats 8000000 in
set_option maxRecDepth 100000 in
theorem segment_measure.calls (a0 : Int) (r : Bool) (w : World) (h : segment_measure.f a0 = some r) :
  Calls Try.prog 60 #[.int .i64 a0] w fun e w' => e = .returned (.bool r) ∧ Drawn0 w w' := by
 have H : (if a0 ≥ 0 then (some (decide (a0 ≤ 100000))) else (some false)) = some r := h
 clear h
 by_cases c2 : a0 ≥ 0
 ·rw [if_pos c2] at H
  have c2b0 : decide (0 ≤ a0) = true := decide_eq_true c2
  clear c2
  obtain rfl := Option.some.inj H
  go_enter Try.func60, Try.ntmps60
  go_wp2
  go_ret
  exact ⟨by first | rfl | (simp; done) | (simp [*]; done), by repeat (first | exact Drawn0.refl _ | apply Drawn0.step)⟩
 ·rw [if_neg c2] at H
  have c2b0 : decide (0 ≤ a0) = false := decide_eq_false c2
  clear c2
  obtain rfl := Option.some.inj H
  go_enter Try.func60, Try.ntmps60
  go_wp2
  go_ret
  exact ⟨by first | rfl | (simp; done) | (simp [*]; done), by repeat (first | exact Drawn0.refl _ | apply Drawn0.step)⟩
def root_both.f (a0 : Int) : Option (Int × Int) := (of109.f a0).bind fun t119 => (if (wrap64 (t119 * t119)) = a0 then (some (t119, t119)) else (some (t119, wrap64 (t119 + 1))))
set_option maxHeartbeats 8000000 in
set_option maxRecDepth 100000 in
theorem root_both.calls (a0 : Int) (r1 : Int) (r2 : Int) (w : World) (h : root_both.f a0 = some (r1, r2)) :
  Calls Try.prog 108 #[.int .i64 a0] w fun e w' => e = .returned (.agg #[.int .i64 r1, .int .i64 r2]) ∧ Below w.heap.size w w' := by
 have hu28 := Try.underlying28
 have HB := Aside0.mk (Below.refl w.heap.size w)
 have H : ((of109.f a0).bind fun t119 => (if (wrap64 (t119 * t119)) = a0 then (some (t119, t119)) else (some (t119, wrap64 (t119 + 1))))) = some (r1, r2) := h
 clear h
 replace H := Option.bind_eq_some_iff.mp H
 obtain ⟨t119, A20, H⟩ := H
 try (set_option simprocs false in dsimp only at H)
 have A2 := Aside0.mk A20
 clear A20
 by_cases c3 : (wrap64 (t119 * t119)) = a0
 ·rw [if_pos c3] at H
  have c3b0 : ((wrap64 (t119 * t119)) == a0) = true := beq_iff_eq.mpr c3
  have c3b1 : ((wrap64 (t119 * t119)) != a0) = false := bne_eq_false_iff_eq.mpr c3
  clear c3
  simp only [Option.some.injEq, Prod.mk.injEq] at H
  obtain ⟨rfl, rfl⟩ := H
  go_enter Try.func108, Try.ntmps108
  go_wp2_with (first | ((with_reducible refine gqD (N := 2) rfl ?_); refine GS.bx (N := 2) (cs := #[.int .i64 0, .int .i64 0]) (t := 28) ?_; intro gb118 hg w4 hbox hb; have q_ := GS.q4 (GS.kH HB hb) (Aside0.mk hbox) (GS.kZ hg HB) (GS.kZ hg HB); clear HB; obtain ⟨HB, BK118, GW118, GE118⟩ := q_; clear hb hbox hg) | ((with_reducible refine gqC (f := 109) rfl ?_); refine GS.gL (some 5) Try.func109 #[.int .i64 a0] ?_; (with_reducible refine (of109.calls a0 t119 _ A2.out).mono ?_); rintro e w5 ⟨rfl, hb⟩; refine ⟨_, rfl, ?_⟩; have q_ := GS.q2 (GS.kB BK118 hb) (GS.kH HB hb); clear BK118 HB; obtain ⟨BK118, HB⟩ := q_; (try clear hb); (try clear hb2); (try clear hk); (try clear hi); obtain ⟨hcz6_0, hcz6_1, hfz6_0, hfz6_1⟩ := GS.c2 BK118.out))
  refine bodyPost_ret (results_cell_row rfl _ _ gb118 28 #[.int .i64 t119, .int .i64 t119] (0, 0) _ rfl (GS.bqZ BK118.out) Try.underlying28 rfl (by kernel_rfl)) rfl ?_
  exact ⟨by first | rfl | (simp [errW_none, errW_some] <;> rfl) | (simp [*, errW_none, errW_some] <;> rfl), GS.lB HB.out⟩
 ·rw [if_neg c3] at H
  have c3b0 : ((wrap64 (t119 * t119)) == a0) = false := beq_eq_false_iff_ne.mpr c3
  have c3b1 : ((wrap64 (t119 * t119)) != a0) = true := bne_iff_ne.mpr c3
  simp only [Option.some.injEq, Prod.mk.injEq] at H
  obtain ⟨rfl, rfl⟩ := H
  go_enter Try.func108, Try.ntmps108
  go_wp2_with (first | ((with_reducible refine gqD (N := 2) rfl ?_); refine GS.bx (N := 2) (cs := #[.int .i64 0, .int .i64 0]) (t := 28) ?_; intro gb118 hg w7 hbox hb; have q_ := GS.q4 (GS.kH HB hb) (Aside0.mk hbox) (GS.kZ hg HB) (GS.kZ hg HB); clear HB; obtain ⟨HB, BK118, GW118, GE118⟩ := q_; clear hb hbox hg) | ((with_reducible refine gqC (f := 109) rfl ?_); refine GS.gL (some 5) Try.func109 #[.int .i64 a0] ?_; (with_reducible refine (of109.calls a0 t119 _ A2.out).mono ?_); rintro e w8 ⟨rfl, hb⟩; refine ⟨_, rfl, ?_⟩; have q_ := GS.q2 (GS.kB BK118 hb) (GS.kH HB hb); clear BK118 HB; obtain ⟨BK118, HB⟩ := q_; (try clear hb); (try clear hb2); (try clear hk); (try clear hi); obtain ⟨hcz9_0, hcz9_1, hfz9_0, hfz9_1⟩ := GS.c2 BK118.out))
  refine bodyPost_ret (results_cell_row rfl _ _ gb118 28 #[.int .i64 t119, .int .i64 (wrap64 (t119 + 1))] (0, 0) _ rfl (GS.bqZ BK118.out) Try.underlying28 rfl (by kernel_rfl)) rfl ?_
  exact ⟨by first | rfl | (simp [errW_none, errW_some] <;> rfl) | (simp [*, errW_none, errW_some] <;> rfl), GS.lB HB.out⟩
def root_Half.j0 : Nat → Int → Int → Bool → Option (Int × Int × Int)
 | 0, _, _, _ => none
 | k + 1, x0, x1, x19 => if x19 = true then (some (0, 0, 2)) else (if x1 > x0 then (some (0, 0, 0)) else (if (wrap64 (-x1)) > x0 then (some (0, 0, 0)) else ((root_both.f (wrap64 ((wrap64 (x0 * x0)) - (wrap64 (x1 * x1))))).bind fun bt121 => (some (bt121.1, bt121.2, 0)))))
def root_Half.f (k : Nat) (a0 : Int) (a1 : Int) : Option (Int × Int × Int) := if a0 < 0 then (root_Half.j0 k a0 a1 true) else (if a0 > 100000 then (root_Half.j0 k a0 a1 true) else (if a1 < (-100000) then (root_Half.j0 k a0 a1 true) else (root_Half.j0 k a0 a1 (decide (a1 > 100000)))))
set_option maxHeartbeats 8000000 in
set_option maxRecDepth 100000 in
theorem root_Half.calls (k : Nat) (a0 : Int) (a1 : Int) (r1 : Int) (r2 : Int) (r3 : Int) (w : World) (h : root_Half.f k a0 a1 = some (r1, r2, r3)) :
  Calls Try.prog 105 #[.int .i64 a0, .int .i64 a1] w fun e w' => e = .returned (.tuple #[.agg #[.int .i64 r1, .int .i64 r2], .int .i64 r3]) ∧ Below w.heap.size w w' := by
 have hu28 := Try.underlying28
 have HB := Aside0.mk (Below.refl w.heap.size w)
 have H : (if a0 < 0 then (root_Half.j0 k a0 a1 true) else (if a0 > 100000 then (root_Half.j0 k a0 a1 true) else (if a1 < (-100000) then (root_Half.j0 k a0 a1 true) else (root_Half.j0 k a0 a1 (decide (a1 > 100000)))))) = some (r1, r2, r3) := h
 clear h
 have HC3 := Aside0.mk H
 clear H
 go_enter Try.func105, Try.ntmps105
 go_upto_region 1 with (first | ((with_reducible refine gqD (N := 4) rfl ?_); refine GS.bx (N := 4) (cs := #[.int .i64 0, .int .i64 0]) (t := 28) ?_; intro gb120 hg w4 hbox hb; have q_ := GS.q4 (GS.kH HB hb) (Aside0.mk hbox) (GS.kZ hg HB) (GS.kZ hg HB); clear HB; obtain ⟨HB, BK120, GW120, GE120⟩ := q_; clear hb hbox hg))
 (try simp only [Act.put, List.setIfInBounds_toArray, List.set_cons_zero, List.set_cons_succ])
 go_cut [19] (fun v19 wc => ∃ (kq : Nat) (x19_2 : Bool), v19 = .bool x19_2 ∧ Aside0 (root_Half.j0 kq a0 a1 x19_2 = some (r1, r2, r3)) ∧ Aside0 (kq ≤ k) ∧ Aside0 (wc.heap[gb120]? = some (.cells #[.int .i64 0, .int .i64 0] 28 (0, 0))) ∧ Aside0 (Below w.heap.size w wc))
 case first =>
  have H := HC3.out
  clear HC3
  by_cases c5 : a0 < 0
  ·rw [if_pos c5] at H
   have c5b0 : decide (a0 < 0) = true := decide_eq_true c5
   clear c5
   (first | rw [c5b0] | (simp only [i64_w, i32_w]; rw [c5b0]) | skip)
   have H' := Aside0.mk H
   clear H
   go_wp2
   go_meet
   case rel => exact ⟨_, (true), (by first | rfl | (simp; done) | (simp [*]; done)), H', ⟨by first | omega | exact Nat.le_refl _⟩, ⟨GS.bqX BK120.out⟩, ⟨GS.lB HB.out⟩⟩
  ·rw [if_neg c5] at H
   have c5b0 : decide (a0 < 0) = false := decide_eq_false c5
   clear c5
   (first | rw [c5b0] | (simp only [i64_w, i32_w]; rw [c5b0]) | skip)
   by_cases c6 : a0 > 100000
   ·rw [if_pos c6] at H
    have c6b0 : decide (100000 < a0) = true := decide_eq_true c6
    clear c6
    have H' := Aside0.mk H
    clear H
    go_wp2
    go_meet
    case rel => exact ⟨_, (true), (by first | rfl | (simp; done) | (simp [*]; done)), H', ⟨by first | omega | exact Nat.le_refl _⟩, ⟨GS.bqX BK120.out⟩, ⟨GS.lB HB.out⟩⟩
   ·rw [if_neg c6] at H
    have c6b0 : decide (100000 < a0) = false := decide_eq_false c6
    clear c6
    by_cases c7 : a1 < (-100000)
    ·rw [if_pos c7] at H
     have c7b0 : decide (a1 < (-100000)) = true := decide_eq_true c7
     clear c7
     have H' := Aside0.mk H
     clear H
     go_wp2
     go_meet
     case rel => exact ⟨_, (true), (by first | rfl | (simp; done) | (simp [*]; done)), H', ⟨by first | omega | exact Nat.le_refl _⟩, ⟨GS.bqX BK120.out⟩, ⟨GS.lB HB.out⟩⟩
    ·rw [if_neg c7] at H
     have c7b0 : decide (a1 < (-100000)) = false := decide_eq_false c7
     clear c7
     have H' := Aside0.mk H
     clear H
     go_wp2
     go_meet
     case rel => exact ⟨_, (decide (a1 > 100000)), (by first | rfl | (simp; done) | (simp [*]; done)), H', ⟨by first | omega | exact Nat.le_refl _⟩, ⟨GS.bqX BK120.out⟩, ⟨GS.lB HB.out⟩⟩
 case rest =>
  clear HC3
  obtain ⟨kq, x19_2, rfl, HA, HJ2, BK120, HB⟩ := hcut
  cases kq with
  | zero => exact absurd HA.out (by simp [root_Half.j0])
  | succ kj2 =>
   have H := HA.out
   clear HA
   simp only [root_Half.j0] at H
   by_cases c8 : x19_2 = true
   ·subst c8
    rw [if_pos rfl] at H
    simp only [Option.some.injEq, Prod.mk.injEq] at H
    obtain ⟨rfl, rfl, rfl⟩ := H
    obtain ⟨hcz9_0, hcz9_1, hfz9_0, hfz9_1⟩ := GS.c2 BK120.out
    go_wp2
    refine bodyPost_ret (results_ct rfl _ _ gb120 28 #[.int .i64 0, .int .i64 0] (0, 0) _ rfl (GS.bqZ BK120.out) Try.underlying28 rfl (by kernel_rfl)) rfl ?_
    exact ⟨by first | rfl | (simp [errW_none, errW_some] <;> rfl) | (simp [*, errW_none, errW_some] <;> rfl), GS.lB HB.out⟩
   ·replace c8 := Bool.eq_false_iff.mpr c8
    subst c8
    rw [if_neg (show ¬ (false = true) by decide)] at H
    by_cases c10 : a1 > a0
    ·rw [if_pos c10] at H
     have c10b0 : decide (a0 < a1) = true := decide_eq_true c10
     clear c10
     simp only [Option.some.injEq, Prod.mk.injEq] at H
     obtain ⟨rfl, rfl, rfl⟩ := H
     obtain ⟨hcz11_0, hcz11_1, hfz11_0, hfz11_1⟩ := GS.c2 BK120.out
     go_wp2
     refine bodyPost_ret (results_ct rfl _ _ gb120 28 #[.int .i64 0, .int .i64 0] (0, 0) _ rfl (GS.bqZ BK120.out) Try.underlying28 rfl (by kernel_rfl)) rfl ?_
     exact ⟨by first | rfl | (simp [errW_none, errW_some] <;> rfl) | (simp [*, errW_none, errW_some] <;> rfl), GS.lB HB.out⟩
    ·rw [if_neg c10] at H
     have c10b0 : decide (a0 < a1) = false := decide_eq_false c10
     clear c10
     by_cases c12 : (wrap64 (-a1)) > a0
     ·rw [if_pos c12] at H
      have c12b0 : decide (a0 < (wrap64 (-a1))) = true := decide_eq_true c12
      clear c12
      simp only [Option.some.injEq, Prod.mk.injEq] at H
      obtain ⟨rfl, rfl, rfl⟩ := H
      obtain ⟨hcz13_0, hcz13_1, hfz13_0, hfz13_1⟩ := GS.c2 BK120.out
      go_wp2
      refine bodyPost_ret (results_ct rfl _ _ gb120 28 #[.int .i64 0, .int .i64 0] (0, 0) _ rfl (GS.bqZ BK120.out) Try.underlying28 rfl (by kernel_rfl)) rfl ?_
      exact ⟨by first | rfl | (simp [errW_none, errW_some] <;> rfl) | (simp [*, errW_none, errW_some] <;> rfl), GS.lB HB.out⟩
     ·rw [if_neg c12] at H
      have c12b0 : decide (a0 < (wrap64 (-a1))) = false := decide_eq_false c12
      clear c12
      replace H := Option.bind_eq_some_iff.mp H
      obtain ⟨⟨t121, t122⟩, A140, H⟩ := H
      replace H : (some (t121, t122, 0)) = some (r1, r2, r3) := H
      have A14 := Aside0.mk A140
      clear A140
      simp only [Option.some.injEq, Prod.mk.injEq] at H
      obtain ⟨rfl, rfl, rfl⟩ := H
      go_wp2_with (first | ((with_reducible refine gqC (f := 108) rfl ?_); refine GS.gL (some 38) Try.func108 #[.int .i64 (wrap64 ((wrap64 (a0 * a0)) - (wrap64 (a1 * a1))))] ?_; (with_reducible refine (root_both.calls (wrap64 ((wrap64 (a0 * a0)) - (wrap64 (a1 * a1)))) t121 t122 _ A14.out).mono ?_); rintro e w15 ⟨rfl, hb⟩; refine ⟨_, rfl, ?_⟩; have q_ := GS.q2 (GS.kB BK120 hb) (GS.kH HB hb); clear BK120 HB; obtain ⟨BK120, HB⟩ := q_; (try clear hb); (try clear hb2); (try clear hk); (try clear hi); obtain ⟨hcz16_0, hcz16_1, hfz16_0, hfz16_1⟩ := GS.c2 BK120.out))
      refine bodyPost_ret (results_ct rfl _ _ gb120 28 #[.int .i64 t121, .int .i64 t122] (0, 0) _ rfl (GS.bqZ BK120.out) Try.underlying28 rfl (by kernel_rfl)) rfl ?_
      exact ⟨by first | rfl | (simp [errW_none, errW_some] <;> rfl) | (simp [*, errW_none, errW_some] <;> rfl), GS.lB HB.out⟩
def root_Chord.f (k : Nat) (a0 : Int) (a1 : Int) : Option (Int × Int × Int) := (root_Half.f k a0 a1).bind fun bt124 => (some (wrap64 (2 * bt124.1), wrap64 (2 * bt124.2.1), bt124.2.2))
set_option maxHeartbeats 8000000 in
set_option maxRecDepth 100000 in
theorem root_Chord.calls (k : Nat) (a0 : Int) (a1 : Int) (r1 : Int) (r2 : Int) (r3 : Int) (w : World) (h : root_Chord.f k a0 a1 = some (r1, r2, r3)) :
  Calls Try.prog 102 #[.int .i64 a0, .int .i64 a1] w fun e w' => e = .returned (.tuple #[.agg #[.int .i64 r1, .int .i64 r2], .int .i64 r3]) ∧ Below w.heap.size w w' := by
 have hu28 := Try.underlying28
 have HB := Aside0.mk (Below.refl w.heap.size w)
 have H : ((root_Half.f k a0 a1).bind fun bt124 => (some (wrap64 (2 * bt124.1), wrap64 (2 * bt124.2.1), bt124.2.2))) = some (r1, r2, r3) := h
 clear h
 replace H := Option.bind_eq_some_iff.mp H
 obtain ⟨⟨t124, t125, t126⟩, A30, H⟩ := H
 replace H : (some (wrap64 (2 * t124), wrap64 (2 * t125), t126)) = some (r1, r2, r3) := H
 have A3 := Aside0.mk A30
 clear A30
 simp only [Option.some.injEq, Prod.mk.injEq] at H
 obtain ⟨rfl, rfl, rfl⟩ := H
 go_enter Try.func102, Try.ntmps102
 go_wp2_with (first | ((with_reducible refine gqD (N := 4) rfl ?_); refine GS.bx (N := 4) (cs := #[.int .i64 0, .int .i64 0]) (t := 28) ?_; intro gb123 hg w4 hbox hb; have q_ := GS.q4 (GS.kH HB hb) (Aside0.mk hbox) (GS.kZ hg HB) (GS.kZ hg HB); clear HB; obtain ⟨HB, BK123, GW123, GE123⟩ := q_; clear hb hbox hg) | ((with_reducible refine gqC (f := 105) rfl ?_); refine GS.gL (some 11) Try.func105 #[.int .i64 a0, .int .i64 a1] ?_; (with_reducible refine (root_Half.calls k a0 a1 t124 t125 t126 _ A3.out).mono ?_); rintro e w5 ⟨rfl, hb⟩; refine ⟨_, rfl, ?_⟩; have q_ := GS.q2 (GS.kB BK123 hb) (GS.kH HB hb); clear BK123 HB; obtain ⟨BK123, HB⟩ := q_; (try clear hb); (try clear hb2); (try clear hk); (try clear hi)) | ((with_reducible refine gqD (N := 6) rfl ?_); refine GS.bx (N := 6) (cs := #[.int .i64 0, .int .i64 0]) (t := 28) ?_; intro gb127 hg w6 hbox hb; have q_ := GS.q7 (GS.kB BK123 hb) (GS.kH HB hb) (Aside0.mk hbox) (GS.kZ hg HB) (GS.kZ hg HB) (Aside0.mk ((by rw [hg]; exact Nat.ne_of_lt (blk_lt (GS.bqX BK123.out)) : gb123 ≠ gb127))) (Aside0.mk ((by rw [hg]; exact Nat.ne_of_gt (blk_lt (GS.bqX BK123.out)) : gb127 ≠ gb123))); clear BK123 HB; obtain ⟨BK123, HB, BK127, GW127, GE127, NB123_127, NB127_123⟩ := q_; clear hb hbox hg; have hnb7 := NB127_123.out; have hnc7 := NB123_127.out; obtain ⟨hcz8_0, hcz8_1, hfz8_0, hfz8_1⟩ := GS.c2 BK127.out; obtain ⟨hcz9_0, hcz9_1, hfz9_0, hfz9_1⟩ := GS.c2 BK123.out))
 refine bodyPost_ret (results_ct rfl _ _ gb123 28 #[.int .i64 (wrap64 (2 * t124)), .int .i64 (wrap64 (2 * t125))] (0, 0) _ rfl (GS.bqZ BK123.out) Try.underlying28 rfl (by kernel_rfl)) rfl ?_
 exact ⟨by first | rfl | (simp [errW_none, errW_some] <;> rfl) | (simp [*, errW_none, errW_some] <;> rfl), GS.lB HB.out⟩
def segment_circle_chord.f (k : Nat) (a0_0 : Int) (a0_1 : Int) (a1 : Int) : Option (Int × Int) := if (wrap64 (a1 - a0_1)) > a0_0 then (some (0, 0)) else (if (wrap64 (-(wrap64 (a1 - a0_1)))) > a0_0 then (some (0, 0)) else ((root_Chord.f k a0_0 (wrap64 (a1 - a0_1))).bind fun bt130 => (some (bt130.1, bt130.2.1))))
set_option maxHeartbeats 8000000 in
set_option maxRecDepth 100000 in
theorem segment_circle_chord.calls (k : Nat) (a0_0 : Int) (a0_1 : Int) (a1 : Int) (r1 : Int) (r2 : Int) (w : World) (h : segment_circle_chord.f k a0_0 a0_1 a1 = some (r1, r2)) :
  Calls Try.prog 88 #[.agg #[.int .i64 a0_0, .int .i64 a0_1], .int .i64 a1] w fun e w' => e = .returned (.agg #[.int .i64 r1, .int .i64 r2]) ∧ Below w.heap.size w w' := by
 have hu86 := Try.underlying86
 have hu28 := Try.underlying28
 have HB := Aside0.mk (Below.refl w.heap.size w)
 have H : (if (wrap64 (a1 - a0_1)) > a0_0 then (some (0, 0)) else (if (wrap64 (-(wrap64 (a1 - a0_1)))) > a0_0 then (some (0, 0)) else ((root_Chord.f k a0_0 (wrap64 (a1 - a0_1))).bind fun bt130 => (some (bt130.1, bt130.2.1))))) = some (r1, r2) := h
 clear h
 by_cases c3 : (wrap64 (a1 - a0_1)) > a0_0
 ·rw [if_pos c3] at H
  have c3b0 : decide (a0_0 < (wrap64 (a1 - a0_1))) = true := decide_eq_true c3
  clear c3
  simp only [Option.some.injEq, Prod.mk.injEq] at H
  obtain ⟨rfl, rfl⟩ := H
  go_enter Try.func88, Try.ntmps88
  go_wp2_with (first | ((with_reducible refine gqD (N := 2) rfl ?_); refine GS.bx (N := 2) (cs := #[.int .i64 a0_0, .int .i64 a0_1]) (t := 86) ?_; intro gb128 hg w4 hbox hb; have q_ := GS.q4 (GS.kH HB hb) (Aside0.mk hbox) (GS.kZ hg HB) (GS.kZ hg HB); clear HB; obtain ⟨HB, BK128, GW128, GE128⟩ := q_; clear hb hbox hg) | ((with_reducible refine gqD (N := 4) rfl ?_); refine GS.bx (N := 4) (cs := #[.int .i64 0, .int .i64 0]) (t := 28) ?_; intro gb129 hg w5 hbox hb; have q_ := GS.q7 (GS.kB BK128 hb) (GS.kH HB hb) (Aside0.mk hbox) (GS.kZ hg HB) (GS.kZ hg HB) (Aside0.mk ((by rw [hg]; exact Nat.ne_of_lt (blk_lt (GS.bqX BK128.out)) : gb128 ≠ gb129))) (Aside0.mk ((by rw [hg]; exact Nat.ne_of_gt (blk_lt (GS.bqX BK128.out)) : gb129 ≠ gb128))); clear BK128 HB; obtain ⟨BK128, HB, BK129, GW129, GE129, NB128_129, NB129_128⟩ := q_; clear hb hbox hg; have hnb6 := NB128_129.out; have hnc6 := NB129_128.out; obtain ⟨hcz7_0, hcz7_1, hfz7_0, hfz7_1⟩ := GS.c2 BK128.out; obtain ⟨hcz8_0, hcz8_1, hfz8_0, hfz8_1⟩ := GS.c2 BK129.out))
  refine bodyPost_ret (results_cell_row rfl _ _ gb129 28 #[.int .i64 0, .int .i64 0] (0, 0) _ rfl (GS.bqZ BK129.out) Try.underlying28 rfl (by kernel_rfl)) rfl ?_
  exact ⟨by first | rfl | (simp [errW_none, errW_some] <;> rfl) | (simp [*, errW_none, errW_some] <;> rfl), GS.lB HB.out⟩
 ·rw [if_neg c3] at H
  have c3b0 : decide (a0_0 < (wrap64 (a1 - a0_1))) = false := decide_eq_false c3
  clear c3
  by_cases c9 : (wrap64 (-(wrap64 (a1 - a0_1)))) > a0_0
  ·rw [if_pos c9] at H
   have c9b0 : decide (a0_0 < (wrap64 (-(wrap64 (a1 - a0_1))))) = true := decide_eq_true c9
   clear c9
   simp only [Option.some.injEq, Prod.mk.injEq] at H
   obtain ⟨rfl, rfl⟩ := H
   go_enter Try.func88, Try.ntmps88
   go_wp2_with (first | ((with_reducible refine gqD (N := 2) rfl ?_); refine GS.bx (N := 2) (cs := #[.int .i64 a0_0, .int .i64 a0_1]) (t := 86) ?_; intro gb128 hg w10 hbox hb; have q_ := GS.q4 (GS.kH HB hb) (Aside0.mk hbox) (GS.kZ hg HB) (GS.kZ hg HB); clear HB; obtain ⟨HB, BK128, GW128, GE128⟩ := q_; clear hb hbox hg) | ((with_reducible refine gqD (N := 4) rfl ?_); refine GS.bx (N := 4) (cs := #[.int .i64 0, .int .i64 0]) (t := 28) ?_; intro gb129 hg w11 hbox hb; have q_ := GS.q7 (GS.kB BK128 hb) (GS.kH HB hb) (Aside0.mk hbox) (GS.kZ hg HB) (GS.kZ hg HB) (Aside0.mk ((by rw [hg]; exact Nat.ne_of_lt (blk_lt (GS.bqX BK128.out)) : gb128 ≠ gb129))) (Aside0.mk ((by rw [hg]; exact Nat.ne_of_gt (blk_lt (GS.bqX BK128.out)) : gb129 ≠ gb128))); clear BK128 HB; obtain ⟨BK128, HB, BK129, GW129, GE129, NB128_129, NB129_128⟩ := q_; clear hb hbox hg; have hnb12 := NB128_129.out; have hnc12 := NB129_128.out; obtain ⟨hcz13_0, hcz13_1, hfz13_0, hfz13_1⟩ := GS.c2 BK128.out; obtain ⟨hcz14_0, hcz14_1, hfz14_0, hfz14_1⟩ := GS.c2 BK129.out))
   refine bodyPost_ret (results_cell_row rfl _ _ gb129 28 #[.int .i64 0, .int .i64 0] (0, 0) _ rfl (GS.bqZ BK129.out) Try.underlying28 rfl (by kernel_rfl)) rfl ?_
   exact ⟨by first | rfl | (simp [errW_none, errW_some] <;> rfl) | (simp [*, errW_none, errW_some] <;> rfl), GS.lB HB.out⟩
  ·rw [if_neg c9] at H
   have c9b0 : decide (a0_0 < (wrap64 (-(wrap64 (a1 - a0_1))))) = false := decide_eq_false c9
   clear c9
   replace H := Option.bind_eq_some_iff.mp H
   obtain ⟨⟨t130, t131, t132⟩, A150, H⟩ := H
   replace H : (some (t130, t131)) = some (r1, r2) := H
   have A15 := Aside0.mk A150
   clear A150
   simp only [Option.some.injEq, Prod.mk.injEq] at H
   obtain ⟨rfl, rfl⟩ := H
   go_enter Try.func88, Try.ntmps88
   go_wp2_with (first | ((with_reducible refine gqD (N := 2) rfl ?_); refine GS.bx (N := 2) (cs := #[.int .i64 a0_0, .int .i64 a0_1]) (t := 86) ?_; intro gb128 hg w16 hbox hb; have q_ := GS.q4 (GS.kH HB hb) (Aside0.mk hbox) (GS.kZ hg HB) (GS.kZ hg HB); clear HB; obtain ⟨HB, BK128, GW128, GE128⟩ := q_; clear hb hbox hg) | ((with_reducible refine gqD (N := 4) rfl ?_); refine GS.bx (N := 4) (cs := #[.int .i64 0, .int .i64 0]) (t := 28) ?_; intro gb129 hg w17 hbox hb; have q_ := GS.q7 (GS.kB BK128 hb) (GS.kH HB hb) (Aside0.mk hbox) (GS.kZ hg HB) (GS.kZ hg HB) (Aside0.mk ((by rw [hg]; exact Nat.ne_of_lt (blk_lt (GS.bqX BK128.out)) : gb128 ≠ gb129))) (Aside0.mk ((by rw [hg]; exact Nat.ne_of_gt (blk_lt (GS.bqX BK128.out)) : gb129 ≠ gb128))); clear BK128 HB; obtain ⟨BK128, HB, BK129, GW129, GE129, NB128_129, NB129_128⟩ := q_; clear hb hbox hg; have hnb18 := NB128_129.out; have hnc18 := NB129_128.out; obtain ⟨hcz19_0, hcz19_1, hfz19_0, hfz19_1⟩ := GS.c2 BK128.out) | ((with_reducible refine gqC (f := 102) rfl ?_); refine GS.gL (some 28) Try.func102 #[.int .i64 a0_0, .int .i64 (wrap64 (a1 - a0_1))] ?_; (with_reducible refine (root_Chord.calls k a0_0 (wrap64 (a1 - a0_1)) t130 t131 t132 _ A15.out).mono ?_); rintro e w20 ⟨rfl, hb⟩; refine ⟨_, rfl, ?_⟩; have q_ := GS.q3 (GS.kB BK128 hb) (GS.kB BK129 hb) (GS.kH HB hb); clear BK128 BK129 HB; obtain ⟨BK128, BK129, HB⟩ := q_; (try clear hb); (try clear hb2); (try clear hk); (try clear hi)) | ((with_reducible refine gqD (N := 6) rfl ?_); refine GS.bx (N := 6) (cs := #[.int .i64 0, .int .i64 0]) (t := 28) ?_; intro gb133 hg w21 hbox hb; have q_ := GS.q10 (GS.kB BK128 hb) (GS.kB BK129 hb) (GS.kH HB hb) (Aside0.mk hbox) (GS.kZ hg HB) (GS.kZ hg HB) (Aside0.mk ((by rw [hg]; exact Nat.ne_of_lt (blk_lt (GS.bqX BK128.out)) : gb128 ≠ gb133))) (Aside0.mk ((by rw [hg]; exact Nat.ne_of_gt (blk_lt (GS.bqX BK128.out)) : gb133 ≠ gb128))) (Aside0.mk ((by rw [hg]; exact Nat.ne_of_lt (blk_lt (GS.bqX BK129.out)) : gb129 ≠ gb133))) (Aside0.mk ((by rw [hg]; exact Nat.ne_of_gt (blk_lt (GS.bqX BK129.out)) : gb133 ≠ gb129))); clear BK128 BK129 HB; obtain ⟨BK128, BK129, HB, BK133, GW133, GE133, NB128_133, NB133_128, NB129_133, NB133_129⟩ := q_; clear hb hbox hg; have hnb22 := NB133_128.out; have hnc22 := NB128_133.out; have hnb23 := NB133_129.out; have hnc23 := NB129_133.out; obtain ⟨hcz24_0, hcz24_1, hfz24_0, hfz24_1⟩ := GS.c2 BK133.out; obtain ⟨hcz25_0, hcz25_1, hfz25_0, hfz25_1⟩ := GS.c2 BK129.out))
   refine bodyPost_ret (results_cell_row rfl _ _ gb129 28 #[.int .i64 t130, .int .i64 t131] (0, 0) _ rfl (GS.bqZ BK129.out) Try.underlying28 rfl (by kernel_rfl)) rfl ?_
   exact ⟨by first | rfl | (simp [errW_none, errW_some] <;> rfl) | (simp [*, errW_none, errW_some] <;> rfl), GS.lB HB.out⟩
end Go.Proofs.Ytefjmcljkmppoaa.K
