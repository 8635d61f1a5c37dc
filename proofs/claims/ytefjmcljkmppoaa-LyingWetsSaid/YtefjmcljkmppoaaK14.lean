import Derived.Test.YtefjmcljkmppoaaK0
import Derived.Test.YtefjmcljkmppoaaGShort
import Derived.Test.YtefjmcljkmppoaaK12
import Derived.Test.YtefjmcljkmppoaaK13
namespace Go.Proofs.Ytefjmcljkmppoaa.K
open Go.RowKit Go.Proofs.YtefjmcljkmppoaaW.PrintWords Go.Proofs.YtefjmcljkmppoaaW.PrintLast Go.Proofs.YtefjmcljkmppoaaW.PrintMore
attribute [local go_sem] max2_int min2_int max_two min_two max_three min_three max_four min_four   -- for this text's walks alone
set_option linter.unusedVariables false
set_option linter.unusedSimpArgs false
def spileref11_wet.j0 : Nat → Int → Bool → ByteArray → Int → List (S39) → Int → Option (List Int × Int)
 | 0, _, _, _, _, _, _ => none
 | k + 1, x2, x40, x387000, x387001, x387002, x387003 => if x40 = true then (some (([] : List Int), 2)) else ((spileref11_Slices.f k x387002 x2).bind fun bt389 => (some (bt389.1, bt389.2)))
def spileref11_wet.f (k : Nat) (a0_0 : ByteArray) (a0_1 : Int) (l0_2 : List (S39)) (a0_3 : Int) (a1 : Int) (a2 : Int) (a3 : Int) : Option (List Int × Int) := (spileref11_is.f k a0_0 a0_1 l0_2 a0_3).bind fun t387 => (if t387 = 0 then (if a1 < 0 then (spileref11_wet.j0 k a2 true a0_0 a0_1 l0_2 a0_3) else ((spileref09_Radius.f k a0_0 a0_1 l0_2 a0_3).bind fun t388 => (if a1 > (wrap64 (2 * t388)) then (spileref11_wet.j0 k a2 true a0_0 a0_1 l0_2 a0_3) else (if a2 < 1 then (spileref11_wet.j0 k a2 true a0_0 a0_1 l0_2 a0_3) else (if a2 > 64 then (spileref11_wet.j0 k a2 true a0_0 a0_1 l0_2 a0_3) else (if a3 < 1 then (spileref11_wet.j0 k a2 true a0_0 a0_1 l0_2 a0_3) else (spileref11_wet.j0 k a2 (decide (a3 > 64)) a0_0 a0_1 l0_2 a0_3))))))) else (some (([] : List Int), t387)))
set_option maxHeartbeats 8000000 in
set_option maxRecDepth 100000 in
theorem spileref11_wet.calls (k : Nat) (a0_0 : ByteArray) (a0_1 : Int) (A0_2 : Option Addr) (c0_2 : Nat) (l0_2 : List (S39)) (a0_3 : Int) (a1 : Int) (a2 : Int) (a3 : Int) (r1 : List Int) (r2 : Int) (w : World) (hr0_2 : Kd.C k39 w A0_2 l0_2.length l0_2) (hc0_2 : l0_2.length ≤ c0_2) (h : spileref11_wet.f k a0_0 a0_1 l0_2 a0_3 a1 a2 a3 = some (r1, r2)) :
  Calls Try.prog 44 #[.agg #[.string a0_0, .int .i64 a0_1, .slice A0_2 l0_2.length c0_2, .int .i64 a0_3], .int .i64 a1, .int .i64 a2, .int .i64 a3] w fun e w' => ∃ v0_ : Value, e = .returned (.tuple #[v0_, .int .i64 r2]) ∧ Kd.R (Kd.int .i64) 3 w' w.heap.size (fun _ => True) v0_ r1 ∧ Below w.heap.size w w' := by
 have hu24 := Try.underlying24
 have HR0_2 := Aside0.mk hr0_2
 have HC0_2 := Aside0.mk hc0_2
 clear hr0_2 hc0_2
 have HB := Aside0.mk (Below.refl w.heap.size w)
 have H : ((spileref11_is.f k a0_0 a0_1 l0_2 a0_3).bind fun t387 => (if t387 = 0 then (if a1 < 0 then (spileref11_wet.j0 k a2 true a0_0 a0_1 l0_2 a0_3) else ((spileref09_Radius.f k a0_0 a0_1 l0_2 a0_3).bind fun t388 => (if a1 > (wrap64 (2 * t388)) then (spileref11_wet.j0 k a2 true a0_0 a0_1 l0_2 a0_3) else (if a2 < 1 then (spileref11_wet.j0 k a2 true a0_0 a0_1 l0_2 a0_3) else (if a2 > 64 then (spileref11_wet.j0 k a2 true a0_0 a0_1 l0_2 a0_3) else (if a3 < 1 then (spileref11_wet.j0 k a2 true a0_0 a0_1 l0_2 a0_3) else (spileref11_wet.j0 k a2 (decide (a3 > 64)) a0_0 a0_1 l0_2 a0_3))))))) else (some (([] : List Int), t387)))) = some (r1, r2) := h
 clear h
 replace H := Option.bind_eq_some_iff.mp H
 obtain ⟨t387, A50, H⟩ := H
 try (set_option simprocs false in dsimp only at H)
 have A5 := Aside0.mk A50
 clear A50
 by_cases c6 : t387 = 0
 ·rw [if_pos c6] at H
  have c6b0 : (t387 == 0) = true := beq_iff_eq.mpr c6
  have c6b1 : (t387 != 0) = false := bne_eq_false_iff_eq.mpr c6
  clear c6
  have HC7 := Aside0.mk H
  clear H
  go_enter Try.func44, Try.ntmps44
  go_upto_region 4 with (first | ((with_reducible refine gqD (N := 4) rfl ?_); refine GS.bx (N := 4) (cs := #[.string a0_0, .int .i64 a0_1, .slice A0_2 l0_2.length c0_2, .int .i64 a0_3]) (t := 24) ?_; intro gb386 hg w8 hbox hb; have q_ := GS.q4 (GS.kH HB hb) (Aside0.mk hbox) (GS.kZ hg HB) (GS.kZ hg HB); clear HB; obtain ⟨HB, BK386, GW386, GE386⟩ := q_; clear hb hbox hg; obtain ⟨hcz9_0, hcz9_1, hcz9_2, hcz9_3, hfz9_0, hfz9_1, hfz9_2, hfz9_3⟩ := GS.c4 BK386.out) | ((with_reducible refine gqC (f := 54) rfl ?_); refine GS.gL (some 12) Try.func54 #[.agg #[.string a0_0, .int .i64 a0_1, .slice A0_2 l0_2.length c0_2, .int .i64 a0_3]] ?_; (with_reducible refine (spileref11_is.calls k a0_0 a0_1 _ _ l0_2 a0_3 t387 _ ?side1 ?side2 A5.out).mono ?_); (case side1 => exact GS.rC (Kd.C_below HR0_2.out HB.out)); (case side2 => exact HC0_2.out); rintro e w10 ⟨rfl, hb⟩; refine ⟨_, rfl, ?_⟩; have q_ := GS.q2 (GS.kB BK386 hb) (GS.kH HB hb); clear BK386 HB; obtain ⟨BK386, HB⟩ := q_; (try clear hb); (try clear hb2); (try clear hk); (try clear hi)))
  (try simp only [Act.put, List.setIfInBounds_toArray, List.set_cons_zero, List.set_cons_succ])
  go_cut [40] (fun v40 wc => ∃ (kq : Nat) (x40_6 : Bool), v40 = .bool x40_6 ∧ Aside0 (spileref11_wet.j0 kq a2 x40_6 a0_0 a0_1 l0_2 a0_3 = some (r1, r2)) ∧ Aside0 (kq ≤ k) ∧ Aside0 (wc.heap[gb386]? = some (.cells #[.string a0_0, .int .i64 a0_1, (.slice A0_2 l0_2.length c0_2), .int .i64 a0_3] 24 (0, 0))) ∧ Aside0 (Below w.heap.size w wc))
  case first =>
   have H := HC7.out
   clear HC7
   by_cases c11 : a1 < 0
   ·rw [if_pos c11] at H
    have c11b0 : decide (a1 < 0) = true := decide_eq_true c11
    clear c11
    (first | rw [c11b0] | (simp only [i64_w, i32_w]; rw [c11b0]) | skip)
    have H' := Aside0.mk H
    clear H
    go_wp2
    go_meet
    case rel => exact ⟨_, (true), (by first | rfl | (simp; done) | (simp [*]; done)), H', ⟨by first | omega | exact Nat.le_refl _⟩, ⟨GS.bqX BK386.out⟩, ⟨GS.lB HB.out⟩⟩
   ·rw [if_neg c11] at H
    have c11b0 : decide (a1 < 0) = false := decide_eq_false c11
    clear c11
    (first | rw [c11b0] | (simp only [i64_w, i32_w]; rw [c11b0]) | skip)
    replace H := Option.bind_eq_some_iff.mp H
    obtain ⟨t388, A120, H⟩ := H
    try (set_option simprocs false in dsimp only at H)
    have A12 := Aside0.mk A120
    clear A120
    by_cases c13 : a1 > (wrap64 (2 * t388))
    ·rw [if_pos c13] at H
     have c13b0 : decide ((wrap64 (2 * t388)) < a1) = true := decide_eq_true c13
     clear c13
     have H' := Aside0.mk H
     clear H
     obtain ⟨hcz14_0, hcz14_1, hcz14_2, hcz14_3, hfz14_0, hfz14_1, hfz14_2, hfz14_3⟩ := GS.c4 BK386.out
     go_wp2_with (first | (go_at_call 47; (with_reducible refine (spileref09_Radius.calls k a0_0 a0_1 _ _ l0_2 a0_3 t388 _ ?side1 ?side2 A12.out).mono ?_); (case side1 => exact GS.rC (Kd.C_below HR0_2.out HB.out)); (case side2 => exact HC0_2.out); rintro e w15 ⟨rfl, hb⟩; have q_ := GS.q2 (GS.kB BK386 hb) (GS.kH HB hb); clear BK386 HB; obtain ⟨BK386, HB⟩ := q_; (try clear hb); (try clear hb2); (try clear hk); (try clear hi)))
     go_meet
     case rel => exact ⟨_, (true), (by first | rfl | (simp; done) | (simp [*]; done)), H', ⟨by first | omega | exact Nat.le_refl _⟩, ⟨GS.bqX BK386.out⟩, ⟨GS.lB HB.out⟩⟩
    ·rw [if_neg c13] at H
     have c13b0 : decide ((wrap64 (2 * t388)) < a1) = false := decide_eq_false c13
     clear c13
     by_cases c16 : a2 < 1
     ·rw [if_pos c16] at H
      have c16b0 : decide (a2 < 1) = true := decide_eq_true c16
      clear c16
      have H' := Aside0.mk H
      clear H
      obtain ⟨hcz17_0, hcz17_1, hcz17_2, hcz17_3, hfz17_0, hfz17_1, hfz17_2, hfz17_3⟩ := GS.c4 BK386.out
      go_wp2_with (first | (go_at_call 47; (with_reducible refine (spileref09_Radius.calls k a0_0 a0_1 _ _ l0_2 a0_3 t388 _ ?side1 ?side2 A12.out).mono ?_); (case side1 => exact GS.rC (Kd.C_below HR0_2.out HB.out)); (case side2 => exact HC0_2.out); rintro e w18 ⟨rfl, hb⟩; have q_ := GS.q2 (GS.kB BK386 hb) (GS.kH HB hb); clear BK386 HB; obtain ⟨BK386, HB⟩ := q_; (try clear hb); (try clear hb2); (try clear hk); (try clear hi)))
      go_meet
      case rel => exact ⟨_, (true), (by first | rfl | (simp; done) | (simp [*]; done)), H', ⟨by first | omega | exact Nat.le_refl _⟩, ⟨GS.bqX BK386.out⟩, ⟨GS.lB HB.out⟩⟩
     ·rw [if_neg c16] at H
      have c16b0 : decide (a2 < 1) = false := decide_eq_false c16
      clear c16
      by_cases c19 : a2 > 64
      ·rw [if_pos c19] at H
       have c19b0 : decide (64 < a2) = true := decide_eq_true c19
       clear c19
       have H' := Aside0.mk H
       clear H
       obtain ⟨hcz20_0, hcz20_1, hcz20_2, hcz20_3, hfz20_0, hfz20_1, hfz20_2, hfz20_3⟩ := GS.c4 BK386.out
       go_wp2_with (first | (go_at_call 47; (with_reducible refine (spileref09_Radius.calls k a0_0 a0_1 _ _ l0_2 a0_3 t388 _ ?side1 ?side2 A12.out).mono ?_); (case side1 => exact GS.rC (Kd.C_below HR0_2.out HB.out)); (case side2 => exact HC0_2.out); rintro e w21 ⟨rfl, hb⟩; have q_ := GS.q2 (GS.kB BK386 hb) (GS.kH HB hb); clear BK386 HB; obtain ⟨BK386, HB⟩ := q_; (try clear hb); (try clear hb2); (try clear hk); (try clear hi)))
       go_meet
       case rel => exact ⟨_, (true), (by first | rfl | (simp; done) | (simp [*]; done)), H', ⟨by first | omega | exact Nat.le_refl _⟩, ⟨GS.bqX BK386.out⟩, ⟨GS.lB HB.out⟩⟩
      ·rw [if_neg c19] at H
       have c19b0 : decide (64 < a2) = false := decide_eq_false c19
       clear c19
       by_cases c22 : a3 < 1
       ·rw [if_pos c22] at H
        have c22b0 : decide (a3 < 1) = true := decide_eq_true c22
        clear c22
        have H' := Aside0.mk H
        clear H
        obtain ⟨hcz23_0, hcz23_1, hcz23_2, hcz23_3, hfz23_0, hfz23_1, hfz23_2, hfz23_3⟩ := GS.c4 BK386.out
        go_wp2_with (first | (go_at_call 47; (with_reducible refine (spileref09_Radius.calls k a0_0 a0_1 _ _ l0_2 a0_3 t388 _ ?side1 ?side2 A12.out).mono ?_); (case side1 => exact GS.rC (Kd.C_below HR0_2.out HB.out)); (case side2 => exact HC0_2.out); rintro e w24 ⟨rfl, hb⟩; have q_ := GS.q2 (GS.kB BK386 hb) (GS.kH HB hb); clear BK386 HB; obtain ⟨BK386, HB⟩ := q_; (try clear hb); (try clear hb2); (try clear hk); (try clear hi)))
        go_meet
        case rel => exact ⟨_, (true), (by first | rfl | (simp; done) | (simp [*]; done)), H', ⟨by first | omega | exact Nat.le_refl _⟩, ⟨GS.bqX BK386.out⟩, ⟨GS.lB HB.out⟩⟩
       ·rw [if_neg c22] at H
        have c22b0 : decide (a3 < 1) = false := decide_eq_false c22
        clear c22
        have H' := Aside0.mk H
        clear H
        obtain ⟨hcz25_0, hcz25_1, hcz25_2, hcz25_3, hfz25_0, hfz25_1, hfz25_2, hfz25_3⟩ := GS.c4 BK386.out
        go_wp2_with (first | (go_at_call 47; (with_reducible refine (spileref09_Radius.calls k a0_0 a0_1 _ _ l0_2 a0_3 t388 _ ?side1 ?side2 A12.out).mono ?_); (case side1 => exact GS.rC (Kd.C_below HR0_2.out HB.out)); (case side2 => exact HC0_2.out); rintro e w26 ⟨rfl, hb⟩; have q_ := GS.q2 (GS.kB BK386 hb) (GS.kH HB hb); clear BK386 HB; obtain ⟨BK386, HB⟩ := q_; (try clear hb); (try clear hb2); (try clear hk); (try clear hi)))
        go_meet
        case rel => exact ⟨_, (decide (a3 > 64)), (by first | rfl | (simp; done) | (simp [*]; done)), H', ⟨by first | omega | exact Nat.le_refl _⟩, ⟨GS.bqX BK386.out⟩, ⟨GS.lB HB.out⟩⟩
  case rest =>
   clear HC7
   try clear c6b0
   try clear c6b1
   try clear hcz9_0
   try clear hcz9_1
   try clear hcz9_2
   try clear hcz9_3
   try clear hfz9_0
   try clear hfz9_1
   try clear hfz9_2
   try clear hfz9_3
   obtain ⟨kq, x40_6, rfl, HA, HJ6, BK386, HB⟩ := hcut
   cases kq with
   | zero => exact absurd HA.out (by simp [spileref11_wet.j0])
   | succ kj6 =>
    have H := HA.out
    clear HA
    simp only [spileref11_wet.j0] at H
    by_cases c27 : x40_6 = true
    ·subst c27
     rw [if_pos rfl] at H
     simp only [Option.some.injEq, Prod.mk.injEq] at H
     obtain ⟨rfl, rfl⟩ := H
     go_wp2
     go_ret2
     exact ⟨_, by first | rfl | (simp [errW_none, errW_some] <;> rfl) | (simp [*, errW_none, errW_some] <;> rfl), by first | exact Kd.R_nil _ _ _ _ _ | exact Kd.N_nil _ _ _ _ _ | exact Kd.V_nil _ _ _ _ _ | exact Kd.Q_nil _ _ _ _ _ | exact Kd.S_nil _ _ _ _ _, GS.lB HB.out⟩
    ·replace c27 := Bool.eq_false_iff.mpr c27
     subst c27
     rw [if_neg (show ¬ (false = true) by decide)] at H
     replace H := Option.bind_eq_some_iff.mp H
     obtain ⟨⟨t389, t390⟩, A280, H⟩ := H
     replace H : (some (t389, t390)) = some (r1, r2) := H
     have A28 := Aside0.mk A280
     clear A280
     simp only [Option.some.injEq, Prod.mk.injEq] at H
     obtain ⟨rfl, rfl⟩ := H
     obtain ⟨hcz29_0, hcz29_1, hcz29_2, hcz29_3, hfz29_0, hfz29_1, hfz29_2, hfz29_3⟩ := GS.c4 BK386.out
     go_wp2_with (first | ((with_reducible refine gqC (f := 19) rfl ?_); refine GS.gL (some 44) Try.func19 #[.slice A0_2 l0_2.length c0_2, .int .i64 a2] ?_; (with_reducible refine (spileref11_Slices.calls kj6 _ _ l0_2 a2 t389 t390 _ ?side1 ?side2 A28.out).mono ?_); (case side1 => exact GS.rC (Kd.C_below HR0_2.out HB.out)); (case side2 => exact HC0_2.out); rintro e w30 ⟨v391, rfl, ho0, hb⟩; refine ⟨_, rfl, ?_⟩; have q_ := GS.q3 (GS.kL ho0 HB) (GS.kB BK386 hb) (GS.kH HB hb); clear BK386 HB; obtain ⟨HO392, BK386, HB⟩ := q_; (try clear hb); (try clear hb2); (try clear hk); (try clear hi); (try clear ho0)))
     go_ret2
     exact ⟨_, by first | rfl | (simp [errW_none, errW_some] <;> rfl) | (simp [*, errW_none, errW_some] <;> rfl), by (with_reducible repeat (first | apply Kd.R_alloc | apply Kd.R_drewN | apply Kd.R_drew)); exact HO392.out, GS.lB HB.out⟩
 ·rw [if_neg c6] at H
  have c6b0 : (t387 == 0) = false := beq_eq_false_iff_ne.mpr c6
  have c6b1 : (t387 != 0) = true := bne_iff_ne.mpr c6
  simp only [Option.some.injEq, Prod.mk.injEq] at H
  obtain ⟨rfl, rfl⟩ := H
  go_enter Try.func44, Try.ntmps44
  go_wp2_with (first | ((with_reducible refine gqD (N := 4) rfl ?_); refine GS.bx (N := 4) (cs := #[.string a0_0, .int .i64 a0_1, .slice A0_2 l0_2.length c0_2, .int .i64 a0_3]) (t := 24) ?_; intro gb386 hg w31 hbox hb; have q_ := GS.q4 (GS.kH HB hb) (Aside0.mk hbox) (GS.kZ hg HB) (GS.kZ hg HB); clear HB; obtain ⟨HB, BK386, GW386, GE386⟩ := q_; clear hb hbox hg; obtain ⟨hcz32_0, hcz32_1, hcz32_2, hcz32_3, hfz32_0, hfz32_1, hfz32_2, hfz32_3⟩ := GS.c4 BK386.out) | ((with_reducible refine gqC (f := 54) rfl ?_); refine GS.gL (some 12) Try.func54 #[.agg #[.string a0_0, .int .i64 a0_1, .slice A0_2 l0_2.length c0_2, .int .i64 a0_3]] ?_; (with_reducible refine (spileref11_is.calls k a0_0 a0_1 _ _ l0_2 a0_3 t387 _ ?side1 ?side2 A5.out).mono ?_); (case side1 => exact GS.rC (Kd.C_below HR0_2.out HB.out)); (case side2 => exact HC0_2.out); rintro e w33 ⟨rfl, hb⟩; refine ⟨_, rfl, ?_⟩; have q_ := GS.q2 (GS.kB BK386 hb) (GS.kH HB hb); clear BK386 HB; obtain ⟨BK386, HB⟩ := q_; (try clear hb); (try clear hb2); (try clear hk); (try clear hi)))
  go_ret2
  exact ⟨_, by first | rfl | (simp [errW_none, errW_some] <;> rfl) | (simp [*, errW_none, errW_some] <;> rfl), by first | exact Kd.R_nil _ _ _ _ _ | exact Kd.N_nil _ _ _ _ _ | exact Kd.V_nil _ _ _ _ _ | exact Kd.Q_nil _ _ _ _ _ | exact Kd.S_nil _ _ _ _ _, GS.lB HB.out⟩
mutual
def spileref07_Heights.j0 : Nat → Int → Int → Bool → Option (List Int × Int)
 | 0, _, _, _ => none
 | k + 1, x0, x1, x21 => if x21 = true then (some (([] : List Int), 2)) else (spileref07_Heights.l0 k x0 x1 ([] : List Int) 0)
def spileref07_Heights.l0 : Nat → Int → Int → List Int → Int → Option (List Int × Int)
 | 0, _, _, _, _ => none
 | k + 1, x0, x1, x6, x7 => if x7 ≤ x1 then (if x1 = 0 then (none) else (if x6.length < 17592186044416 then (spileref07_Heights.l0 k x0 x1 (x6 ++ [wrap64 (Int.tdiv (wrap64 (x7 * x0)) x1)]) (wrap64 (x7 + 1))) else (none))) else (some (x6, 0))
end
def spileref07_Heights.f (k : Nat) (a0 : Int) (a1 : Int) : Option (List Int × Int) := if a0 < 0 then (spileref07_Heights.j0 k a0 a1 true) else (if a0 > 200000 then (spileref07_Heights.j0 k a0 a1 true) else (if a1 < 1 then (spileref07_Heights.j0 k a0 a1 true) else (spileref07_Heights.j0 k a0 a1 (decide (a1 > 64)))))
set_option maxHeartbeats 8000000 in
set_option maxRecDepth 100000 in
theorem spileref07_Heights.calls (k : Nat) (a0 : Int) (a1 : Int) (r1 : List Int) (r2 : Int) (w : World) (h : spileref07_Heights.f k a0 a1 = some (r1, r2)) :
  Calls Try.prog 45 #[.int .i64 a0, .int .i64 a1] w fun e w' => ∃ v0_ : Value, e = .returned (.tuple #[v0_, .int .i64 r2]) ∧ Kd.R (Kd.int .i64) 3 w' w.heap.size (fun _ => True) v0_ r1 ∧ Below w.heap.size w w' := by
 have HB := Aside0.mk (Below.refl w.heap.size w)
 have H : (if a0 < 0 then (spileref07_Heights.j0 k a0 a1 true) else (if a0 > 200000 then (spileref07_Heights.j0 k a0 a1 true) else (if a1 < 1 then (spileref07_Heights.j0 k a0 a1 true) else (spileref07_Heights.j0 k a0 a1 (decide (a1 > 64)))))) = some (r1, r2) := h
 clear h
 have HC3 := Aside0.mk H
 clear H
 go_enter Try.func45, Try.ntmps45
 go_upto_region 1 with (fail)
 go_cut [21] (fun v21 wc => ∃ (kq : Nat) (x21_2 : Bool), v21 = .bool x21_2 ∧ Aside0 (spileref07_Heights.j0 kq a0 a1 x21_2 = some (r1, r2)) ∧ Aside0 (kq ≤ k) ∧ Aside0 (Below w.heap.size w wc))
 case first =>
  have H := HC3.out
  clear HC3
  by_cases c4 : a0 < 0
  ·rw [if_pos c4] at H
   have c4b0 : decide (a0 < 0) = true := decide_eq_true c4
   clear c4
   (first | rw [c4b0] | (simp only [i64_w, i32_w]; rw [c4b0]) | skip)
   have H' := Aside0.mk H
   clear H
   go_wp2
   go_meet
   case rel => exact ⟨_, (true), (by first | rfl | (simp; done) | (simp [*]; done)), H', ⟨by first | omega | exact Nat.le_refl _⟩, ⟨GS.lB HB.out⟩⟩
  ·rw [if_neg c4] at H
   have c4b0 : decide (a0 < 0) = false := decide_eq_false c4
   clear c4
   (first | rw [c4b0] | (simp only [i64_w, i32_w]; rw [c4b0]) | skip)
   by_cases c5 : a0 > 200000
   ·rw [if_pos c5] at H
    have c5b0 : decide (200000 < a0) = true := decide_eq_true c5
    clear c5
    have H' := Aside0.mk H
    clear H
    go_wp2
    go_meet
    case rel => exact ⟨_, (true), (by first | rfl | (simp; done) | (simp [*]; done)), H', ⟨by first | omega | exact Nat.le_refl _⟩, ⟨GS.lB HB.out⟩⟩
   ·rw [if_neg c5] at H
    have c5b0 : decide (200000 < a0) = false := decide_eq_false c5
    clear c5
    by_cases c6 : a1 < 1
    ·rw [if_pos c6] at H
     have c6b0 : decide (a1 < 1) = true := decide_eq_true c6
     clear c6
     have H' := Aside0.mk H
     clear H
     go_wp2
     go_meet
     case rel => exact ⟨_, (true), (by first | rfl | (simp; done) | (simp [*]; done)), H', ⟨by first | omega | exact Nat.le_refl _⟩, ⟨GS.lB HB.out⟩⟩
    ·rw [if_neg c6] at H
     have c6b0 : decide (a1 < 1) = false := decide_eq_false c6
     clear c6
     have H' := Aside0.mk H
     clear H
     go_wp2
     go_meet
     case rel => exact ⟨_, (decide (a1 > 64)), (by first | rfl | (simp; done) | (simp [*]; done)), H', ⟨by first | omega | exact Nat.le_refl _⟩, ⟨GS.lB HB.out⟩⟩
 case rest =>
  clear HC3
  obtain ⟨kq, x21_2, rfl, HA, HJ2, HB⟩ := hcut
  cases kq with
  | zero => exact absurd HA.out (by simp [spileref07_Heights.j0])
  | succ kj2 =>
   have H := HA.out
   clear HA
   simp only [spileref07_Heights.j0] at H
   by_cases c7 : x21_2 = true
   ·subst c7
    rw [if_pos rfl] at H
    simp only [Option.some.injEq, Prod.mk.injEq] at H
    obtain ⟨rfl, rfl⟩ := H
    go_wp2
    go_ret2
    exact ⟨_, by first | rfl | (simp [errW_none, errW_some] <;> rfl) | (simp [*, errW_none, errW_some] <;> rfl), by first | exact Kd.R_nil _ _ _ _ _ | exact Kd.N_nil _ _ _ _ _ | exact Kd.V_nil _ _ _ _ _ | exact Kd.Q_nil _ _ _ _ _ | exact Kd.S_nil _ _ _ _ _, GS.lB HB.out⟩
   ·replace c7 := Bool.eq_false_iff.mpr c7
    subst c7
    rw [if_neg (show ¬ (false = true) by decide)] at H
    have H' := Aside0.mk H
    clear H
    go_wp2
    go_loopg [6, 7] kj2 (fun kq v6 v7 w' => ∃ (x6_2 : List Int) (x7_2 : Int), v7 = .int .i64 x7_2 ∧ Aside0 (spileref07_Heights.l0 kq a0 a1 x6_2 x7_2 = some (r1, r2)) ∧ Aside0 (kq ≤ kj2) ∧ Aside0 (Kd.R (Kd.int .i64) 3 w' w.heap.size (fun _ => True) v6 x6_2) ∧ Aside0 (Below w.heap.size w w'))
    case atStart => exact ⟨(([] : List Int)), (0), (by first | rfl | (simp; done) | (simp [*]; done)), H', ⟨Nat.le_refl _⟩, ⟨by first | exact Kd.R_nil _ _ _ _ _ | exact Kd.N_nil _ _ _ _ _ | exact Kd.V_nil _ _ _ _ _ | exact Kd.Q_nil _ _ _ _ _ | exact Kd.S_nil _ _ _ _ _⟩, ⟨GS.lB HB.out⟩⟩
    case round =>
     clear H'
     obtain ⟨x6_2, x7_2, rfl, HA, HK2, HO_6, HB⟩ := hrel
     cases gk with
     | zero => exact absurd HA.out (by simp [spileref07_Heights.l0])
     | succ k2 =>
      have H := HA.out
      clear HA
      simp only [spileref07_Heights.l0] at H
      by_cases c8 : x7_2 ≤ a1
      ·rw [if_pos c8] at H
       have c8b0 : decide (x7_2 ≤ a1) = true := decide_eq_true c8
       clear c8
       by_cases c9 : a1 = 0
       ·rw [if_pos c9] at H
        exact absurd H (by simp)
       ·rw [if_neg c9] at H
        have c9b0 : (a1 == 0) = false := beq_eq_false_iff_ne.mpr c9
        have c9b1 : (a1 != 0) = true := bne_iff_ne.mpr c9
        by_cases c10 : x6_2.length < 17592186044416
        ·rw [if_pos c10] at H
         have LMc10 := Aside0.mk c10
         clear c10
         obtain ⟨y393, hy393⟩ : ∃ y_ : List Int, y_ = (x6_2 ++ [wrap64 (Int.tdiv (wrap64 (x7_2 * a0)) a1)]) := ⟨_, rfl⟩
         replace H : (spileref07_Heights.l0 k2 a0 a1 y393 (wrap64 (x7_2 + 1))) = some (r1, r2) := by first | (rw [hy393]; with_reducible exact H) | (have H2_ := (Option.bind_some _ _).symm.trans H; rw [hy393]; with_reducible exact H2_) | (have H2_ := (Option.bind_some _ _).symm.trans H; with_reducible exact H2_) | with_reducible exact H | (rw [hy393]; exact H) | exact H
         have Ny393 := Aside0.mk hy393
         clear hy393
         have H' := Aside0.mk H
         clear H
         go_wp2_with (first | ((with_reducible refine gate_builtin (b := .append) (xs := #[.tmp 27, .tmp 33]) rfl ?_); at_builtin; refine Kd.R_append (Kd.int .i64) (w0 := w) w.heap.size rfl (.tmp 27) (.tmp 33) 34 3 (.int .i64 0) 8 rfl Try.underlying34 info3 rfl (by decide) (by omega) u6 x6_2 (wrap64 (Int.tdiv (wrap64 (x7_2 * a0)) a1)) [.int .i64 (wrap64 (Int.tdiv (wrap64 (x7_2 * a0)) a1))] (fun _ => True) (fun _ => False) rfl rfl ?aP (fun _ hk => hk.elim) ?aF ?aO ?aB ?aS ?aL ?_; (case aP => exact rfl); (case aB => exact (GS.lB HB.out)); (case aF => exact (fun _ _ => trivial)); (case aO => exact (GS.rR HO_6.out)); (case aS => exact (lqZ (GS.lB HB.out))); (case aL => have := LMc10.out; omega); intro v394 w11 ho hb hg hat; rw [← Ny393.out] at ho; have q_ := GS.q2 (Aside0.mk hb) (Aside0.mk ho); clear HB HO_6; obtain ⟨HB, HO395⟩ := q_; clear ho hb hg hat))
         go_roundg k2
         case measure => have := HJ2.out; have := HK2.out; omega
         case rel => exact ⟨(y393), (wrap64 (x7_2 + 1)), (by first | rfl | (simp; done) | (simp [*]; done)), H', ⟨by have := HJ2.out; have := HK2.out; omega⟩, ⟨by (with_reducible repeat (first | apply Kd.R_alloc | apply Kd.R_drewN | apply Kd.R_drew)); exact HO395.out⟩, ⟨GS.lB HB.out⟩⟩
        ·rw [if_neg c10] at H
         exact absurd H (by simp)
      ·rw [if_neg c8] at H
       have c8b0 : decide (x7_2 ≤ a1) = false := decide_eq_false c8
       clear c8
       simp only [Option.some.injEq, Prod.mk.injEq] at H
       obtain ⟨rfl, rfl⟩ := H
       go_wp2
       go_ret2
       exact ⟨_, by first | rfl | (simp [errW_none, errW_some] <;> rfl) | (simp [*, errW_none, errW_some] <;> rfl), by (with_reducible repeat (first | apply Kd.R_alloc | apply Kd.R_drewN | apply Kd.R_drew)); exact HO_6.out, GS.lB HB.out⟩
end Go.Proofs.Ytefjmcljkmppoaa.K
