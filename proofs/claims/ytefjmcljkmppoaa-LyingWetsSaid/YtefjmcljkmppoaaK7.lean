import Derived.Test.YtefjmcljkmppoaaK0
import Derived.Test.YtefjmcljkmppoaaGShort
import Derived.Test.YtefjmcljkmppoaaGSym
import Derived.Test.YtefjmcljkmppoaaK2
import Derived.Test.YtefjmcljkmppoaaK3
import Derived.Test.YtefjmcljkmppoaaK6
import Derived.Test.YtefjmcljkmppoaaGBetw
namespace Go.Proofs.Ytefjmcljkmppoaa.K
open Go.RowKit Go.Proofs.YtefjmcljkmppoaaW.PrintWords Go.Proofs.YtefjmcljkmppoaaW.PrintLast Go.Proofs.YtefjmcljkmppoaaW.PrintMore
attribute [local go_sem] max2_int min2_int max_two min_two max_three min_three max_four min_four   -- for this text's walks alone
set_option linter.unusedVariables false
set_option linter.unusedSimpArgs false
mutual
def lying_cut.j0 : Nat → Int → Int → Int → Bool → Int → Bool → ByteArray → Int → List (S39) → Int → Option (Int × Int × Int)
 | 0, _, _, _, _, _, _, _, _, _, _ => none
 | k + 1, x1, x2, x3, x4, x13, x48, x162000, x162001, x162002, x162003 => if x48 = true then (some (0, 0, 2)) else ((lying_Slices.f k x162002 x2).bind fun bt168 => (if bt168.2 = 0 then (if x4 = true then (lying_cut.j1 k x3 bt168.1 x1 (wrap64 (x13 - x1)) x162000 x162001 x162002 x162003) else (lying_cut.j1 k x3 bt168.1 0 x1 x162000 x162001 x162002 x162003)) else (some (0, 0, bt168.2))))
def lying_cut.j1 : Nat → Int → List Int → Int → Int → ByteArray → Int → List (S39) → Int → Option (Int × Int × Int)
 | 0, _, _, _, _, _, _, _, _ => none
 | k + 1, x3, x15, x17, x18, x162000, x162001, x162002, x162003 => lying_cut.l0 k x3 x15 x17 x18 ([] : List Int) (wrap64 (x3 + 1)) 0 x162000 x162001 x162002 x162003
def lying_cut.l0 : Nat → Int → List Int → Int → Int → List Int → Int → Int → ByteArray → Int → List (S39) → Int → Option (Int × Int × Int)
 | 0, _, _, _, _, _, _, _, _, _, _, _ => none
 | k + 1, x3, x15, x17, x18, x19, x68, x69, x162000, x162001, x162002, x162003 => if x69 < x68 then (if x3 = 0 then (none) else (if x19.length < 17592186044416 then (lying_cut.l0 k x3 x15 x17 x18 (x19 ++ [wrap64 (x17 + (wrap64 (Int.tdiv (wrap64 (x69 * x18)) x3)))]) x68 (wrap64 (x69 + 1)) x162000 x162001 x162002 x162003) else (none))) else ((betw57.f x162000 x162001 x162002 x162003 x15 x19).bind fun bt175 => (some (bt175.1, bt175.2, 0)))
end
def lying_cut.f (k : Nat) (a0_0 : ByteArray) (a0_1 : Int) (l0_2 : List (S39)) (a0_3 : Int) (a1 : Int) (a2 : Int) (a3 : Int) (a4 : Bool) : Option (Int × Int × Int) := (lying_lies.f k a0_0 a0_1 l0_2 a0_3).bind fun t163 => (if t163 = 0 then ((cask_Depth.f k a0_0 a0_1 l0_2 a0_3).bind fun bt164 => (if a1 < 0 then (lying_cut.j0 k a1 a2 a3 a4 bt164.1 true a0_0 a0_1 l0_2 a0_3) else (if a1 > bt164.1 then (lying_cut.j0 k a1 a2 a3 a4 bt164.1 true a0_0 a0_1 l0_2 a0_3) else ((lying_strips.f a2).bind fun t166 => (if t166 = true then ((lying_strips.f a3).bind fun t167 => (lying_cut.j0 k a1 a2 a3 a4 bt164.1 (!t167) a0_0 a0_1 l0_2 a0_3)) else (lying_cut.j0 k a1 a2 a3 a4 bt164.1 true a0_0 a0_1 l0_2 a0_3)))))) else (some (0, 0, t163)))
set_option maxHeartbeats 8000000 in
set_option maxRecDepth 100000 in
theorem lying_cut.calls (k : Nat) (a0_0 : ByteArray) (a0_1 : Int) (A0_2 : Option Addr) (c0_2 : Nat) (l0_2 : List (S39)) (a0_3 : Int) (a1 : Int) (a2 : Int) (a3 : Int) (a4 : Bool) (r1 : Int) (r2 : Int) (r3 : Int) (w : World) (hr0_2 : Kd.C k39 w A0_2 l0_2.length l0_2) (hc0_2 : l0_2.length ≤ c0_2) (h : lying_cut.f k a0_0 a0_1 l0_2 a0_3 a1 a2 a3 a4 = some (r1, r2, r3)) :
  Calls Try.prog 42 #[.agg #[.string a0_0, .int .i64 a0_1, .slice A0_2 l0_2.length c0_2, .int .i64 a0_3], .int .i64 a1, .int .i64 a2, .int .i64 a3, .bool a4] w fun e w' => e = .returned (.tuple #[.agg #[.int .i64 r1, .int .i64 r2], .int .i64 r3]) ∧ Below w.heap.size w w' := by
 have hu24 := Try.underlying24
 have hu28 := Try.underlying28
 have HR0_2 := Aside0.mk hr0_2
 have HC0_2 := Aside0.mk hc0_2
 clear hr0_2 hc0_2
 have HB := Aside0.mk (Below.refl w.heap.size w)
 have H : ((lying_lies.f k a0_0 a0_1 l0_2 a0_3).bind fun t163 => (if t163 = 0 then ((cask_Depth.f k a0_0 a0_1 l0_2 a0_3).bind fun bt164 => (if a1 < 0 then (lying_cut.j0 k a1 a2 a3 a4 bt164.1 true a0_0 a0_1 l0_2 a0_3) else (if a1 > bt164.1 then (lying_cut.j0 k a1 a2 a3 a4 bt164.1 true a0_0 a0_1 l0_2 a0_3) else ((lying_strips.f a2).bind fun t166 => (if t166 = true then ((lying_strips.f a3).bind fun t167 => (lying_cut.j0 k a1 a2 a3 a4 bt164.1 (!t167) a0_0 a0_1 l0_2 a0_3)) else (lying_cut.j0 k a1 a2 a3 a4 bt164.1 true a0_0 a0_1 l0_2 a0_3)))))) else (some (0, 0, t163)))) = some (r1, r2, r3) := h
 clear h
 replace H := Option.bind_eq_some_iff.mp H
 obtain ⟨t163, A60, H⟩ := H
 try (set_option simprocs false in dsimp only at H)
 have A6 := Aside0.mk A60
 clear A60
 by_cases c7 : t163 = 0
 ·rw [if_pos c7] at H
  have c7b0 : (t163 == 0) = true := beq_iff_eq.mpr c7
  have c7b1 : (t163 != 0) = false := bne_eq_false_iff_eq.mpr c7
  clear c7
  replace H := Option.bind_eq_some_iff.mp H
  obtain ⟨⟨t164, t165⟩, A80, H⟩ := H
  try (set_option simprocs false in dsimp only at H)
  have A8 := Aside0.mk A80
  clear A80
  have HC9 := Aside0.mk H
  clear H
  go_enter Try.func42, Try.ntmps42
  go_upto_region 5 with (first | ((with_reducible refine gqD (N := 5) rfl ?_); refine GS.bx (N := 5) (cs := #[.string a0_0, .int .i64 a0_1, .slice A0_2 l0_2.length c0_2, .int .i64 a0_3]) (t := 24) ?_; intro gb161 hg w10 hbox hb; have q_ := GS.q4 (GS.kH HB hb) (Aside0.mk hbox) (GS.kZ hg HB) (GS.kZ hg HB); clear HB; obtain ⟨HB, BK161, GW161, GE161⟩ := q_; clear hb hbox hg) | ((with_reducible refine gqD (N := 10) rfl ?_); refine GS.bx (N := 10) (cs := #[.int .i64 0, .int .i64 0]) (t := 28) ?_; intro gb162 hg w11 hbox hb; have q_ := GS.q7 (GS.kB BK161 hb) (GS.kH HB hb) (Aside0.mk hbox) (GS.kZ hg HB) (GS.kZ hg HB) (Aside0.mk ((by rw [hg]; exact Nat.ne_of_lt (blk_lt (GS.bqX BK161.out)) : gb161 ≠ gb162))) (Aside0.mk ((by rw [hg]; exact Nat.ne_of_gt (blk_lt (GS.bqX BK161.out)) : gb162 ≠ gb161))); clear BK161 HB; obtain ⟨BK161, HB, BK162, GW162, GE162, NB161_162, NB162_161⟩ := q_; clear hb hbox hg; have hnb12 := NB161_162.out; have hnc12 := NB162_161.out; obtain ⟨hcz13_0, hcz13_1, hcz13_2, hcz13_3, hfz13_0, hfz13_1, hfz13_2, hfz13_3⟩ := GS.c4 BK161.out) | ((with_reducible refine gqC (f := 51) rfl ?_); refine GS.gL (some 22) Try.func51 #[.agg #[.string a0_0, .int .i64 a0_1, .slice A0_2 l0_2.length c0_2, .int .i64 a0_3]] ?_; (with_reducible refine (lying_lies.calls k a0_0 a0_1 _ _ l0_2 a0_3 t163 _ ?side1 ?side2 A6.out).mono ?_); (case side1 => exact GS.rC (Kd.C_below HR0_2.out HB.out)); (case side2 => exact HC0_2.out); rintro e w14 ⟨rfl, hb⟩; refine ⟨_, rfl, ?_⟩; have q_ := GS.q3 (GS.kB BK161 hb) (GS.kB BK162 hb) (GS.kH HB hb); clear BK161 BK162 HB; obtain ⟨BK161, BK162, HB⟩ := q_; (try clear hb); (try clear hb2); (try clear hk); (try clear hi); obtain ⟨hcz15_0, hcz15_1, hcz15_2, hcz15_3, hfz15_0, hfz15_1, hfz15_2, hfz15_3⟩ := GS.c4 BK161.out) | ((with_reducible refine gqC (f := 73) rfl ?_); refine GS.gL (some 29) Try.func73 #[.agg #[.string a0_0, .int .i64 a0_1, .slice A0_2 l0_2.length c0_2, .int .i64 a0_3]] ?_; (with_reducible refine (cask_Depth.calls k a0_0 a0_1 _ _ l0_2 a0_3 t164 t165 _ ?side1 ?side2 A8.out).mono ?_); (case side1 => exact GS.rC (Kd.C_below HR0_2.out HB.out)); (case side2 => exact HC0_2.out); rintro e w16 ⟨rfl, hb⟩; refine ⟨_, rfl, ?_⟩; have q_ := GS.q3 (GS.kB BK161 hb) (GS.kB BK162 hb) (GS.kH HB hb); clear BK161 BK162 HB; obtain ⟨BK161, BK162, HB⟩ := q_; (try clear hb); (try clear hb2); (try clear hk); (try clear hi)))
  (try simp only [Act.put, List.setIfInBounds_toArray, List.set_cons_zero, List.set_cons_succ])
  go_cut [48] (fun v48 wc => ∃ (kq : Nat) (x48_8 : Bool), v48 = .bool x48_8 ∧ Aside0 (lying_cut.j0 kq a1 a2 a3 a4 t164 x48_8 a0_0 a0_1 l0_2 a0_3 = some (r1, r2, r3)) ∧ Aside0 (kq ≤ k) ∧ Aside0 (wc.heap[gb161]? = some (.cells #[.string a0_0, .int .i64 a0_1, (.slice A0_2 l0_2.length c0_2), .int .i64 a0_3] 24 (0, 0))) ∧ Aside0 (wc.heap[gb162]? = some (.cells #[.int .i64 0, .int .i64 0] 28 (0, 0))) ∧ Aside0 (Below w.heap.size w wc))
  case first =>
   have H := HC9.out
   clear HC9
   by_cases c17 : a1 < 0
   ·rw [if_pos c17] at H
    have c17b0 : decide (a1 < 0) = true := decide_eq_true c17
    clear c17
    (first | rw [c17b0] | (simp only [i64_w, i32_w]; rw [c17b0]) | skip)
    have H' := Aside0.mk H
    clear H
    go_wp2
    go_meet
    case rel => exact ⟨_, (true), (by first | rfl | (simp; done) | (simp [*]; done)), H', ⟨by first | omega | exact Nat.le_refl _⟩, ⟨GS.bqX BK161.out⟩, ⟨GS.bqX BK162.out⟩, ⟨GS.lB HB.out⟩⟩
   ·rw [if_neg c17] at H
    have c17b0 : decide (a1 < 0) = false := decide_eq_false c17
    clear c17
    (first | rw [c17b0] | (simp only [i64_w, i32_w]; rw [c17b0]) | skip)
    by_cases c18 : a1 > t164
    ·rw [if_pos c18] at H
     have c18b0 : decide (t164 < a1) = true := decide_eq_true c18
     clear c18
     have H' := Aside0.mk H
     clear H
     go_wp2
     go_meet
     case rel => exact ⟨_, (true), (by first | rfl | (simp; done) | (simp [*]; done)), H', ⟨by first | omega | exact Nat.le_refl _⟩, ⟨GS.bqX BK161.out⟩, ⟨GS.bqX BK162.out⟩, ⟨GS.lB HB.out⟩⟩
    ·rw [if_neg c18] at H
     have c18b0 : decide (t164 < a1) = false := decide_eq_false c18
     clear c18
     replace H := Option.bind_eq_some_iff.mp H
     obtain ⟨t166, A190, H⟩ := H
     try (set_option simprocs false in dsimp only at H)
     have A19 := Aside0.mk A190
     clear A190
     by_cases c20 : t166 = true
     ·subst c20
      rw [if_pos rfl] at H
      replace H := Option.bind_eq_some_iff.mp H
      obtain ⟨t167, A210, H⟩ := H
      try (set_option simprocs false in dsimp only at H)
      have A21 := Aside0.mk A210
      clear A210
      have H' := Aside0.mk H
      clear H
      go_wp2_with (first | (go_at_call 49; (with_reducible refine (lying_strips.calls a2 true _ A19.out).mono ?_); rintro e w' ⟨rfl, ⟨nd, rfl⟩⟩) | (go_at_call 49; (with_reducible refine (lying_strips.calls a3 t167 _ A21.out).mono ?_); rintro e w' ⟨rfl, ⟨nd, rfl⟩⟩))
      go_meet
      case rel => exact ⟨_, (!t167), (by first | rfl | (simp; done) | (simp [*]; done)), H', ⟨by first | omega | exact Nat.le_refl _⟩, ⟨GS.bqX BK161.out⟩, ⟨GS.bqX BK162.out⟩, ⟨GS.lB HB.out⟩⟩
     ·replace c20 := Bool.eq_false_iff.mpr c20
      subst c20
      rw [if_neg (show ¬ (false = true) by decide)] at H
      have H' := Aside0.mk H
      clear H
      go_wp2_with (first | (go_at_call 49; (with_reducible refine (lying_strips.calls a2 false _ A19.out).mono ?_); rintro e w' ⟨rfl, ⟨nd, rfl⟩⟩))
      go_meet
      case rel => exact ⟨_, (true), (by first | rfl | (simp; done) | (simp [*]; done)), H', ⟨by first | omega | exact Nat.le_refl _⟩, ⟨GS.bqX BK161.out⟩, ⟨GS.bqX BK162.out⟩, ⟨GS.lB HB.out⟩⟩
  case rest =>
   clear HC9
   try clear c7b0
   try clear c7b1
   try clear hcz13_0
   try clear hcz13_1
   try clear hcz13_2
   try clear hcz13_3
   try clear hcz15_0
   try clear hcz15_1
   try clear hcz15_2
   try clear hcz15_3
   try clear hfz13_0
   try clear hfz13_1
   try clear hfz13_2
   try clear hfz13_3
   try clear hfz15_0
   try clear hfz15_1
   try clear hfz15_2
   try clear hfz15_3
   obtain ⟨kq, x48_8, rfl, HA, HJ8, BK161, BK162, HB⟩ := hcut
   cases kq with
   | zero => exact absurd HA.out (by simp [lying_cut.j0])
   | succ kj8 =>
    have H := HA.out
    clear HA
    simp only [lying_cut.j0] at H
    by_cases c22 : x48_8 = true
    ·subst c22
     rw [if_pos rfl] at H
     simp only [Option.some.injEq, Prod.mk.injEq] at H
     obtain ⟨rfl, rfl, rfl⟩ := H
     have hnb23 := NB162_161.out
     have hnc23 := NB161_162.out
     obtain ⟨hcz24_0, hcz24_1, hfz24_0, hfz24_1⟩ := GS.c2 BK162.out
     go_wp2
     refine bodyPost_ret (results_ct rfl _ _ gb162 28 #[.int .i64 0, .int .i64 0] (0, 0) _ rfl (GS.bqZ BK162.out) Try.underlying28 rfl (by kernel_rfl)) rfl ?_
     exact ⟨by first | rfl | (simp [errW_none, errW_some] <;> rfl) | (simp [*, errW_none, errW_some] <;> rfl), GS.lB HB.out⟩
    ·replace c22 := Bool.eq_false_iff.mpr c22
     subst c22
     rw [if_neg (show ¬ (false = true) by decide)] at H
     replace H := Option.bind_eq_some_iff.mp H
     obtain ⟨⟨t168, t169⟩, A250, H⟩ := H
     try (set_option simprocs false in dsimp only at H)
     have A25 := Aside0.mk A250
     clear A250
     by_cases c26 : t169 = 0
     ·rw [if_pos c26] at H
      have c26b0 : (t169 == 0) = true := beq_iff_eq.mpr c26
      have c26b1 : (t169 != 0) = false := bne_eq_false_iff_eq.mpr c26
      clear c26
      have HC27 := Aside0.mk H
      clear H
      have hnb28 := NB161_162.out
      have hnc28 := NB162_161.out
      obtain ⟨hcz29_0, hcz29_1, hcz29_2, hcz29_3, hfz29_0, hfz29_1, hfz29_2, hfz29_3⟩ := GS.c4 BK161.out
      go_upto_if 62 with (first | ((with_reducible refine gqC (f := 17) rfl ?_); refine GS.gL (some 54) Try.func17 #[.slice A0_2 l0_2.length c0_2, .int .i64 a2] ?_; (with_reducible refine (lying_Slices.calls kj8 _ _ l0_2 a2 t168 t169 _ ?side1 ?side2 A25.out).mono ?_); (case side1 => exact GS.rC (Kd.C_below HR0_2.out HB.out)); (case side2 => exact HC0_2.out); rintro e w30 ⟨v170, rfl, ho0, hb⟩; refine ⟨_, rfl, ?_⟩; have q_ := GS.q4 (GS.kL ho0 HB) (GS.kB BK161 hb) (GS.kB BK162 hb) (GS.kH HB hb); clear BK161 BK162 HB; obtain ⟨HO171, BK161, BK162, HB⟩ := q_; (try clear hb); (try clear hb2); (try clear hk); (try clear hi); (try clear ho0)))
      (try simp only [Act.put, List.setIfInBounds_toArray, List.set_cons_zero, List.set_cons_succ])
      go_cut [17, 18] (fun v17 v18 wc => ∃ (kq : Nat) (x17_26 : Int) (x18_26 : Int), v17 = .int .i64 x17_26 ∧ v18 = .int .i64 x18_26 ∧ Aside0 (lying_cut.j1 kq a3 t168 x17_26 x18_26 a0_0 a0_1 l0_2 a0_3 = some (r1, r2, r3)) ∧ Aside0 (kq ≤ kj8) ∧ Aside0 (Kd.R (Kd.int .i64) 3 wc w.heap.size (fun _ => True) v170 t168) ∧ Aside0 (wc.heap[gb161]? = some (.cells #[.string a0_0, .int .i64 a0_1, (.slice A0_2 l0_2.length c0_2), .int .i64 a0_3] 24 (0, 0))) ∧ Aside0 (wc.heap[gb162]? = some (.cells #[.int .i64 0, .int .i64 0] 28 (0, 0))) ∧ Aside0 (Below w.heap.size w wc))
      case first =>
       have H := HC27.out
       clear HC27
       by_cases c31 : a4 = true
       ·subst c31
        rw [if_pos rfl] at H
        have H' := Aside0.mk H
        clear H
        go_wp2
        go_meet
        case rel => exact ⟨_, (a1), (wrap64 (t164 - a1)), (by first | rfl | (simp; done) | (simp [*]; done)), (by first | rfl | (simp; done) | (simp [*]; done)), H', ⟨by have := HJ8.out; first | omega | exact Nat.le_refl _⟩, ⟨by (with_reducible repeat (first | apply Kd.R_alloc | apply Kd.R_drewN | apply Kd.R_drew)); exact HO171.out⟩, ⟨GS.bqX BK161.out⟩, ⟨GS.bqX BK162.out⟩, ⟨GS.lB HB.out⟩⟩
       ·replace c31 := Bool.eq_false_iff.mpr c31
        subst c31
        rw [if_neg (show ¬ (false = true) by decide)] at H
        have H' := Aside0.mk H
        clear H
        go_wp2
        go_meet
        case rel => exact ⟨_, (0), (a1), (by first | rfl | (simp; done) | (simp [*]; done)), (by first | rfl | (simp; done) | (simp [*]; done)), H', ⟨by have := HJ8.out; first | omega | exact Nat.le_refl _⟩, ⟨by (with_reducible repeat (first | apply Kd.R_alloc | apply Kd.R_drewN | apply Kd.R_drew)); exact HO171.out⟩, ⟨GS.bqX BK161.out⟩, ⟨GS.bqX BK162.out⟩, ⟨GS.lB HB.out⟩⟩
      case rest =>
       clear HC27
       try clear c26b0
       try clear c26b1
       try clear hcz29_0
       try clear hcz29_1
       try clear hcz29_2
       try clear hcz29_3
       try clear hfz29_0
       try clear hfz29_1
       try clear hfz29_2
       try clear hfz29_3
       obtain ⟨kq, x17_26, x18_26, rfl, rfl, HA, HJ26, HO_15, BK161, BK162, HB⟩ := hcut
       cases kq with
       | zero => exact absurd HA.out (by simp [lying_cut.j1])
       | succ kj26 =>
        have H := HA.out
        clear HA
        simp only [lying_cut.j1] at H
        have H' := Aside0.mk H
        clear H
        go_wp2
        go_loopg [19, 69] kj26 (fun kq v19 v69 w' => ∃ (x19_3 : List Int) (x69_3 : Int), v69 = .int .i64 x69_3 ∧ Aside0 (lying_cut.l0 kq a3 t168 x17_26 x18_26 x19_3 (wrap64 (a3 + 1)) x69_3 a0_0 a0_1 l0_2 a0_3 = some (r1, r2, r3)) ∧ Aside0 (kq ≤ kj26) ∧ Aside0 (Kd.R (Kd.int .i64) 3 w' w.heap.size (fun k_ => some k_ ≠ (v19 : Value).ownBlock) v170 t168) ∧ Aside0 (Kd.R (Kd.int .i64) 3 w' w.heap.size (fun k_ => some k_ ≠ (v170 : Value).ownBlock) v19 x19_3) ∧ Aside0 (w'.heap[gb161]? = some (.cells #[.string a0_0, .int .i64 a0_1, (.slice A0_2 l0_2.length c0_2), .int .i64 a0_3] 24 (0, 0))) ∧ Aside0 (w'.heap[gb162]? = some (.cells #[.int .i64 0, .int .i64 0] 28 (0, 0))) ∧ Aside0 (Below w.heap.size w w'))
        case atStart => exact ⟨(([] : List Int)), (0), (by first | rfl | (simp; done) | (simp [*]; done)), H', ⟨Nat.le_refl _⟩, ⟨by (with_reducible repeat (first | apply Kd.R_alloc | apply Kd.R_drewN | apply Kd.R_drew)); exact Kd.R_mono HO_15.out (fun _ hk => (by simp [Value.ownBlock]))⟩, ⟨by first | exact Kd.R_nil _ _ _ _ _ | exact Kd.N_nil _ _ _ _ _ | exact Kd.V_nil _ _ _ _ _ | exact Kd.Q_nil _ _ _ _ _ | exact Kd.S_nil _ _ _ _ _⟩, ⟨GS.bqX BK161.out⟩, ⟨GS.bqX BK162.out⟩, ⟨GS.lB HB.out⟩⟩
        case round =>
         clear H'
         obtain ⟨x19_3, x69_3, rfl, HA, HK3, HO_15, HO_19, BK161, BK162, HB⟩ := hrel
         cases gk with
         | zero => exact absurd HA.out (by simp [lying_cut.l0])
         | succ k3 =>
          have H := HA.out
          clear HA
          simp only [lying_cut.l0] at H
          by_cases c32 : x69_3 < (wrap64 (a3 + 1))
          ·rw [if_pos c32] at H
           have c32b0 : decide (x69_3 < (wrap64 (a3 + 1))) = true := decide_eq_true c32
           clear c32
           by_cases c33 : a3 = 0
           ·rw [if_pos c33] at H
            exact absurd H (by simp)
           ·rw [if_neg c33] at H
            have c33b0 : (a3 == 0) = false := beq_eq_false_iff_ne.mpr c33
            have c33b1 : (a3 != 0) = true := bne_iff_ne.mpr c33
            by_cases c34 : x19_3.length < 17592186044416
            ·rw [if_pos c34] at H
             have LMc34 := Aside0.mk c34
             clear c34
             obtain ⟨y172, hy172⟩ : ∃ y_ : List Int, y_ = (x19_3 ++ [wrap64 (x17_26 + (wrap64 (Int.tdiv (wrap64 (x69_3 * x18_26)) a3)))]) := ⟨_, rfl⟩
             replace H : (lying_cut.l0 k3 a3 t168 x17_26 x18_26 y172 (wrap64 (a3 + 1)) (wrap64 (x69_3 + 1)) a0_0 a0_1 l0_2 a0_3) = some (r1, r2, r3) := by first | (rw [hy172]; with_reducible exact H) | (have H2_ := (Option.bind_some _ _).symm.trans H; rw [hy172]; with_reducible exact H2_) | (have H2_ := (Option.bind_some _ _).symm.trans H; with_reducible exact H2_) | with_reducible exact H | (rw [hy172]; exact H) | exact H
             have Ny172 := Aside0.mk hy172
             clear hy172
             have H' := Aside0.mk H
             clear H
             go_wp2_with (first | ((with_reducible refine gate_builtin (b := .append) (xs := #[.tmp 72, .tmp 80]) rfl ?_); at_builtin; refine Kd.R_append (Kd.int .i64) (w0 := w) w.heap.size rfl (.tmp 72) (.tmp 80) 34 3 (.int .i64 0) 8 rfl Try.underlying34 info3 rfl (by decide) (by omega) u19 x19_3 (wrap64 (x17_26 + (wrap64 (Int.tdiv (wrap64 (x69_3 * x18_26)) a3)))) [.int .i64 (wrap64 (x17_26 + (wrap64 (Int.tdiv (wrap64 (x69_3 * x18_26)) a3))))] (fun k_ => some k_ ≠ (v170 : Value).ownBlock) (fun _ => False) rfl rfl ?aP (fun _ hk => hk.elim) ?aF ?aO ?aB ?aS ?aL ?_; (case aP => exact rfl); (case aB => exact (GS.lB HB.out)); (case aF => exact (fun k_ hk => Kd.fresh' (Kd.R_lt (GS.rR HO_15.out)) k_ hk)); (case aO => exact (GS.rR HO_19.out)); (case aS => exact (lqZ (GS.lB HB.out))); (case aL => have := LMc34.out; omega); intro v173 w35 ho hb hg hat; rw [← Ny172.out] at ho; have q_ := GS.q5 (Aside0.mk (Kd.R_after (ok := (fun _ => True)) (GS.rR (Kd.R_mono HO_15.out (fun _ hk => GS.cj hk))) hg hat)) (Aside0.mk (blk_grown (GS.bqX BK161.out) hg (Kd.R_ne HO_19.out BK161.out (by decide)))) (Aside0.mk (blk_grown (GS.bqX BK162.out) hg (Kd.R_ne HO_19.out BK162.out (by decide)))) (Aside0.mk hb) (Aside0.mk ho); clear HO_15 BK161 BK162 HB HO_19; obtain ⟨HO_15, BK161, BK162, HB, HO174⟩ := q_; clear ho hb hg hat))
             go_roundg k3
             case measure => have := HJ8.out; have := HJ26.out; have := HK3.out; omega
             case rel => exact ⟨(y172), (wrap64 (x69_3 + 1)), (by first | rfl | (simp; done) | (simp [*]; done)), H', ⟨by have := HJ8.out; have := HJ26.out; have := HK3.out; omega⟩, ⟨by (with_reducible repeat (first | apply Kd.R_alloc | apply Kd.R_drewN | apply Kd.R_drew)); exact Kd.R_mono HO_15.out (fun _ hk => GS.cj hk)⟩, ⟨by (with_reducible repeat (first | apply Kd.R_alloc | apply Kd.R_drewN | apply Kd.R_drew)); exact HO174.out⟩, ⟨GS.bqX BK161.out⟩, ⟨GS.bqX BK162.out⟩, ⟨GS.lB HB.out⟩⟩
            ·rw [if_neg c34] at H
             exact absurd H (by simp)
          ·rw [if_neg c32] at H
           have c32b0 : decide (x69_3 < (wrap64 (a3 + 1))) = false := decide_eq_false c32
           clear c32
           replace H := Option.bind_eq_some_iff.mp H
           obtain ⟨⟨t175, t176⟩, A360, H⟩ := H
           replace H : (some (t175, t176, 0)) = some (r1, r2, r3) := H
           have A36 := Aside0.mk A360
           clear A360
           simp only [Option.some.injEq, Prod.mk.injEq] at H
           obtain ⟨rfl, rfl, rfl⟩ := H
           have hnb37 := NB161_162.out
           have hnc37 := NB162_161.out
           obtain ⟨hcz38_0, hcz38_1, hcz38_2, hcz38_3, hfz38_0, hfz38_1, hfz38_2, hfz38_3⟩ := GS.c4 BK161.out
           obtain ⟨Ao39, co39, eo39⟩ := Kd.R_slice HO_15.out
           subst eo39
           obtain ⟨Ao40, co40, eo40⟩ := Kd.R_slice HO_19.out
           subst eo40
           go_wp2_with (first | ((with_reducible refine gqC (f := 57) rfl ?_); refine GS.gL (some 86) Try.func57 #[.agg #[.string a0_0, .int .i64 a0_1, .slice A0_2 l0_2.length c0_2, .int .i64 a0_3], .slice Ao39 t168.length co39, .slice Ao40 x19_3.length co40] ?_; (with_reducible refine (betw57.calls a0_0 a0_1 _ _ l0_2 a0_3 _ _ t168 _ _ x19_3 t175 t176 _ ?side1 ?side2 ?side3 ?side4 ?side5 ?side6 A36.out).mono ?_); (case side1 => exact GS.rC (Kd.C_below HR0_2.out HB.out)); (case side2 => exact HC0_2.out); (case side3 => repeat (first | exact (Kd.R_reads' HO_15.out).2.2 | (with_reducible refine Kd.C_alloc ?_ _) | (with_reducible refine Kd.C_drewN ?_ _) | (with_reducible refine Kd.C_drew ?_))); (case side4 => exact (Kd.R_reads' HO_15.out).2.1); (case side5 => repeat (first | exact (Kd.R_reads' HO_19.out).2.2 | (with_reducible refine Kd.C_alloc ?_ _) | (with_reducible refine Kd.C_drewN ?_ _) | (with_reducible refine Kd.C_drew ?_))); (case side6 => exact (Kd.R_reads' HO_19.out).2.1); rintro e w41 ⟨rfl, hb⟩; refine ⟨_, rfl, ?_⟩; have q_ := GS.q5 (GS.kR HO_15 hb) (GS.kR HO_19 hb) (GS.kB BK161 hb) (GS.kB BK162 hb) (GS.kH HB hb); clear HO_15 HO_19 BK161 BK162 HB; obtain ⟨HO_15, HO_19, BK161, BK162, HB⟩ := q_; (try clear hb); (try clear hb2); (try clear hk); (try clear hi); obtain ⟨hcz42_0, hcz42_1, hfz42_0, hfz42_1⟩ := GS.c2 BK162.out))
           refine bodyPost_ret (results_ct rfl _ _ gb162 28 #[.int .i64 t175, .int .i64 t176] (0, 0) _ rfl (GS.bqZ BK162.out) Try.underlying28 rfl (by kernel_rfl)) rfl ?_
           exact ⟨by first | rfl | (simp [errW_none, errW_some] <;> rfl) | (simp [*, errW_none, errW_some] <;> rfl), GS.lB HB.out⟩
     ·rw [if_neg c26] at H
      have c26b0 : (t169 == 0) = false := beq_eq_false_iff_ne.mpr c26
      have c26b1 : (t169 != 0) = true := bne_iff_ne.mpr c26
      simp only [Option.some.injEq, Prod.mk.injEq] at H
      obtain ⟨rfl, rfl, rfl⟩ := H
      have hnb43 := NB161_162.out
      have hnc43 := NB162_161.out
      obtain ⟨hcz44_0, hcz44_1, hcz44_2, hcz44_3, hfz44_0, hfz44_1, hfz44_2, hfz44_3⟩ := GS.c4 BK161.out
      go_wp2_with (first | ((with_reducible refine gqC (f := 17) rfl ?_); refine GS.gL (some 54) Try.func17 #[.slice A0_2 l0_2.length c0_2, .int .i64 a2] ?_; (with_reducible refine (lying_Slices.calls kj8 _ _ l0_2 a2 t168 t169 _ ?side1 ?side2 A25.out).mono ?_); (case side1 => exact GS.rC (Kd.C_below HR0_2.out HB.out)); (case side2 => exact HC0_2.out); rintro e w45 ⟨v170, rfl, ho0, hb⟩; refine ⟨_, rfl, ?_⟩; have q_ := GS.q4 (GS.kL ho0 HB) (GS.kB BK161 hb) (GS.kB BK162 hb) (GS.kH HB hb); clear BK161 BK162 HB; obtain ⟨HO171, BK161, BK162, HB⟩ := q_; (try clear hb); (try clear hb2); (try clear hk); (try clear hi); (try clear ho0); obtain ⟨hcz46_0, hcz46_1, hfz46_0, hfz46_1⟩ := GS.c2 BK162.out))
      refine bodyPost_ret (results_ct rfl _ _ gb162 28 #[.int .i64 0, .int .i64 0] (0, 0) _ rfl (GS.bqZ BK162.out) Try.underlying28 rfl (by kernel_rfl)) rfl ?_
      exact ⟨by first | rfl | (simp [errW_none, errW_some] <;> rfl) | (simp [*, errW_none, errW_some] <;> rfl), GS.lB HB.out⟩
 ·rw [if_neg c7] at H
  have c7b0 : (t163 == 0) = false := beq_eq_false_iff_ne.mpr c7
  have c7b1 : (t163 != 0) = true := bne_iff_ne.mpr c7
  simp only [Option.some.injEq, Prod.mk.injEq] at H
  obtain ⟨rfl, rfl, rfl⟩ := H
  go_enter Try.func42, Try.ntmps42
  go_wp2_with (first | ((with_reducible refine gqD (N := 5) rfl ?_); refine GS.bx (N := 5) (cs := #[.string a0_0, .int .i64 a0_1, .slice A0_2 l0_2.length c0_2, .int .i64 a0_3]) (t := 24) ?_; intro gb161 hg w47 hbox hb; have q_ := GS.q4 (GS.kH HB hb) (Aside0.mk hbox) (GS.kZ hg HB) (GS.kZ hg HB); clear HB; obtain ⟨HB, BK161, GW161, GE161⟩ := q_; clear hb hbox hg) | ((with_reducible refine gqD (N := 10) rfl ?_); refine GS.bx (N := 10) (cs := #[.int .i64 0, .int .i64 0]) (t := 28) ?_; intro gb162 hg w48 hbox hb; have q_ := GS.q7 (GS.kB BK161 hb) (GS.kH HB hb) (Aside0.mk hbox) (GS.kZ hg HB) (GS.kZ hg HB) (Aside0.mk ((by rw [hg]; exact Nat.ne_of_lt (blk_lt (GS.bqX BK161.out)) : gb161 ≠ gb162))) (Aside0.mk ((by rw [hg]; exact Nat.ne_of_gt (blk_lt (GS.bqX BK161.out)) : gb162 ≠ gb161))); clear BK161 HB; obtain ⟨BK161, HB, BK162, GW162, GE162, NB161_162, NB162_161⟩ := q_; clear hb hbox hg; have hnb49 := NB161_162.out; have hnc49 := NB162_161.out; obtain ⟨hcz50_0, hcz50_1, hcz50_2, hcz50_3, hfz50_0, hfz50_1, hfz50_2, hfz50_3⟩ := GS.c4 BK161.out) | ((with_reducible refine gqC (f := 51) rfl ?_); refine GS.gL (some 22) Try.func51 #[.agg #[.string a0_0, .int .i64 a0_1, .slice A0_2 l0_2.length c0_2, .int .i64 a0_3]] ?_; (with_reducible refine (lying_lies.calls k a0_0 a0_1 _ _ l0_2 a0_3 t163 _ ?side1 ?side2 A6.out).mono ?_); (case side1 => exact GS.rC (Kd.C_below HR0_2.out HB.out)); (case side2 => exact HC0_2.out); rintro e w51 ⟨rfl, hb⟩; refine ⟨_, rfl, ?_⟩; have q_ := GS.q3 (GS.kB BK161 hb) (GS.kB BK162 hb) (GS.kH HB hb); clear BK161 BK162 HB; obtain ⟨BK161, BK162, HB⟩ := q_; (try clear hb); (try clear hb2); (try clear hk); (try clear hi); obtain ⟨hcz52_0, hcz52_1, hfz52_0, hfz52_1⟩ := GS.c2 BK162.out))
  refine bodyPost_ret (results_ct rfl _ _ gb162 28 #[.int .i64 0, .int .i64 0] (0, 0) _ rfl (GS.bqZ BK162.out) Try.underlying28 rfl (by kernel_rfl)) rfl ?_
  exact ⟨by first | rfl | (simp [errW_none, errW_some] <;> rfl) | (simp [*, errW_none, errW_some] <;> rfl), GS.lB HB.out⟩
def lying_Wet.f (k : Nat) (a0_0 : ByteArray) (a0_1 : Int) (l0_2 : List (S39)) (a0_3 : Int) (a1 : Int) (a2 : Int) (a3 : Int) : Option (Int × Int × Int) := (lying_cut.f k a0_0 a0_1 l0_2 a0_3 a1 a2 a3 false).bind fun bt179 => (some (bt179.1, bt179.2.1, bt179.2.2))
set_option maxHeartbeats 8000000 in
set_option maxRecDepth 100000 in
theorem lying_Wet.calls (k : Nat) (a0_0 : ByteArray) (a0_1 : Int) (A0_2 : Option Addr) (c0_2 : Nat) (l0_2 : List (S39)) (a0_3 : Int) (a1 : Int) (a2 : Int) (a3 : Int) (r1 : Int) (r2 : Int) (r3 : Int) (w : World) (hr0_2 : Kd.C k39 w A0_2 l0_2.length l0_2) (hc0_2 : l0_2.length ≤ c0_2) (h : lying_Wet.f k a0_0 a0_1 l0_2 a0_3 a1 a2 a3 = some (r1, r2, r3)) :
  Calls Try.prog 12 #[.agg #[.string a0_0, .int .i64 a0_1, .slice A0_2 l0_2.length c0_2, .int .i64 a0_3], .int .i64 a1, .int .i64 a2, .int .i64 a3] w fun e w' => e = .returned (.tuple #[.agg #[.int .i64 r1, .int .i64 r2], .int .i64 r3]) ∧ Below w.heap.size w w' := by
 have hu24 := Try.underlying24
 have hu28 := Try.underlying28
 have HR0_2 := Aside0.mk hr0_2
 have HC0_2 := Aside0.mk hc0_2
 clear hr0_2 hc0_2
 have HB := Aside0.mk (Below.refl w.heap.size w)
 have H : ((lying_cut.f k a0_0 a0_1 l0_2 a0_3 a1 a2 a3 false).bind fun bt179 => (some (bt179.1, bt179.2.1, bt179.2.2))) = some (r1, r2, r3) := h
 clear h
 replace H := Option.bind_eq_some_iff.mp H
 obtain ⟨⟨t179, t180, t181⟩, A50, H⟩ := H
 replace H : (some (t179, t180, t181)) = some (r1, r2, r3) := H
 have A5 := Aside0.mk A50
 clear A50
 simp only [Option.some.injEq, Prod.mk.injEq] at H
 obtain ⟨rfl, rfl, rfl⟩ := H
 go_enter Try.func12, Try.ntmps12
 go_wp2_with (first | ((with_reducible refine gqD (N := 4) rfl ?_); refine GS.bx (N := 4) (cs := #[.string a0_0, .int .i64 a0_1, .slice A0_2 l0_2.length c0_2, .int .i64 a0_3]) (t := 24) ?_; intro gb177 hg w6 hbox hb; have q_ := GS.q4 (GS.kH HB hb) (Aside0.mk hbox) (GS.kZ hg HB) (GS.kZ hg HB); clear HB; obtain ⟨HB, BK177, GW177, GE177⟩ := q_; clear hb hbox hg) | ((with_reducible refine gqD (N := 8) rfl ?_); refine GS.bx (N := 8) (cs := #[.int .i64 0, .int .i64 0]) (t := 28) ?_; intro gb178 hg w7 hbox hb; have q_ := GS.q7 (GS.kB BK177 hb) (GS.kH HB hb) (Aside0.mk hbox) (GS.kZ hg HB) (GS.kZ hg HB) (Aside0.mk ((by rw [hg]; exact Nat.ne_of_lt (blk_lt (GS.bqX BK177.out)) : gb177 ≠ gb178))) (Aside0.mk ((by rw [hg]; exact Nat.ne_of_gt (blk_lt (GS.bqX BK177.out)) : gb178 ≠ gb177))); clear BK177 HB; obtain ⟨BK177, HB, BK178, GW178, GE178, NB177_178, NB178_177⟩ := q_; clear hb hbox hg; have hnb8 := NB177_178.out; have hnc8 := NB178_177.out; obtain ⟨hcz9_0, hcz9_1, hcz9_2, hcz9_3, hfz9_0, hfz9_1, hfz9_2, hfz9_3⟩ := GS.c4 BK177.out) | ((with_reducible refine gqC (f := 42) rfl ?_); refine GS.gL (some 14) Try.func42 #[.agg #[.string a0_0, .int .i64 a0_1, .slice A0_2 l0_2.length c0_2, .int .i64 a0_3], .int .i64 a1, .int .i64 a2, .int .i64 a3, .bool false] ?_; (with_reducible refine (lying_cut.calls k a0_0 a0_1 _ _ l0_2 a0_3 a1 a2 a3 false t179 t180 t181 _ ?side1 ?side2 A5.out).mono ?_); (case side1 => exact GS.rC (Kd.C_below HR0_2.out HB.out)); (case side2 => exact HC0_2.out); rintro e w10 ⟨rfl, hb⟩; refine ⟨_, rfl, ?_⟩; have q_ := GS.q3 (GS.kB BK177 hb) (GS.kB BK178 hb) (GS.kH HB hb); clear BK177 BK178 HB; obtain ⟨BK177, BK178, HB⟩ := q_; (try clear hb); (try clear hb2); (try clear hk); (try clear hi); obtain ⟨hcz11_0, hcz11_1, hfz11_0, hfz11_1⟩ := GS.c2 BK178.out))
 refine bodyPost_ret (results_ct rfl _ _ gb178 28 #[.int .i64 t179, .int .i64 t180] (0, 0) _ rfl (GS.bqZ BK178.out) Try.underlying28 rfl (by kernel_rfl)) rfl ?_
 exact ⟨by first | rfl | (simp [errW_none, errW_some] <;> rfl) | (simp [*, errW_none, errW_some] <;> rfl), GS.lB HB.out⟩
def lying_Dry.f (k : Nat) (a0_0 : ByteArray) (a0_1 : Int) (l0_2 : List (S39)) (a0_3 : Int) (a1 : Int) (a2 : Int) (a3 : Int) : Option (Int × Int × Int) := (lying_cut.f k a0_0 a0_1 l0_2 a0_3 a1 a2 a3 true).bind fun bt184 => (some (bt184.1, bt184.2.1, bt184.2.2))
set_option maxHeartbeats 8000000 in
set_option maxRecDepth 100000 in
theorem lying_Dry.calls (k : Nat) (a0_0 : ByteArray) (a0_1 : Int) (A0_2 : Option Addr) (c0_2 : Nat) (l0_2 : List (S39)) (a0_3 : Int) (a1 : Int) (a2 : Int) (a3 : Int) (r1 : Int) (r2 : Int) (r3 : Int) (w : World) (hr0_2 : Kd.C k39 w A0_2 l0_2.length l0_2) (hc0_2 : l0_2.length ≤ c0_2) (h : lying_Dry.f k a0_0 a0_1 l0_2 a0_3 a1 a2 a3 = some (r1, r2, r3)) :
  Calls Try.prog 15 #[.agg #[.string a0_0, .int .i64 a0_1, .slice A0_2 l0_2.length c0_2, .int .i64 a0_3], .int .i64 a1, .int .i64 a2, .int .i64 a3] w fun e w' => e = .returned (.tuple #[.agg #[.int .i64 r1, .int .i64 r2], .int .i64 r3]) ∧ Below w.heap.size w w' := by
 have hu24 := Try.underlying24
 have hu28 := Try.underlying28
 have HR0_2 := Aside0.mk hr0_2
 have HC0_2 := Aside0.mk hc0_2
 clear hr0_2 hc0_2
 have HB := Aside0.mk (Below.refl w.heap.size w)
 have H : ((lying_cut.f k a0_0 a0_1 l0_2 a0_3 a1 a2 a3 true).bind fun bt184 => (some (bt184.1, bt184.2.1, bt184.2.2))) = some (r1, r2, r3) := h
 clear h
 replace H := Option.bind_eq_some_iff.mp H
 obtain ⟨⟨t184, t185, t186⟩, A50, H⟩ := H
 replace H : (some (t184, t185, t186)) = some (r1, r2, r3) := H
 have A5 := Aside0.mk A50
 clear A50
 simp only [Option.some.injEq, Prod.mk.injEq] at H
 obtain ⟨rfl, rfl, rfl⟩ := H
 go_enter Try.func15, Try.ntmps15
 go_wp2_with (first | ((with_reducible refine gqD (N := 4) rfl ?_); refine GS.bx (N := 4) (cs := #[.string a0_0, .int .i64 a0_1, .slice A0_2 l0_2.length c0_2, .int .i64 a0_3]) (t := 24) ?_; intro gb182 hg w6 hbox hb; have q_ := GS.q4 (GS.kH HB hb) (Aside0.mk hbox) (GS.kZ hg HB) (GS.kZ hg HB); clear HB; obtain ⟨HB, BK182, GW182, GE182⟩ := q_; clear hb hbox hg) | ((with_reducible refine gqD (N := 8) rfl ?_); refine GS.bx (N := 8) (cs := #[.int .i64 0, .int .i64 0]) (t := 28) ?_; intro gb183 hg w7 hbox hb; have q_ := GS.q7 (GS.kB BK182 hb) (GS.kH HB hb) (Aside0.mk hbox) (GS.kZ hg HB) (GS.kZ hg HB) (Aside0.mk ((by rw [hg]; exact Nat.ne_of_lt (blk_lt (GS.bqX BK182.out)) : gb182 ≠ gb183))) (Aside0.mk ((by rw [hg]; exact Nat.ne_of_gt (blk_lt (GS.bqX BK182.out)) : gb183 ≠ gb182))); clear BK182 HB; obtain ⟨BK182, HB, BK183, GW183, GE183, NB182_183, NB183_182⟩ := q_; clear hb hbox hg; have hnb8 := NB182_183.out; have hnc8 := NB183_182.out; obtain ⟨hcz9_0, hcz9_1, hcz9_2, hcz9_3, hfz9_0, hfz9_1, hfz9_2, hfz9_3⟩ := GS.c4 BK182.out) | ((with_reducible refine gqC (f := 42) rfl ?_); refine GS.gL (some 14) Try.func42 #[.agg #[.string a0_0, .int .i64 a0_1, .slice A0_2 l0_2.length c0_2, .int .i64 a0_3], .int .i64 a1, .int .i64 a2, .int .i64 a3, .bool true] ?_; (with_reducible refine (lying_cut.calls k a0_0 a0_1 _ _ l0_2 a0_3 a1 a2 a3 true t184 t185 t186 _ ?side1 ?side2 A5.out).mono ?_); (case side1 => exact GS.rC (Kd.C_below HR0_2.out HB.out)); (case side2 => exact HC0_2.out); rintro e w10 ⟨rfl, hb⟩; refine ⟨_, rfl, ?_⟩; have q_ := GS.q3 (GS.kB BK182 hb) (GS.kB BK183 hb) (GS.kH HB hb); clear BK182 BK183 HB; obtain ⟨BK182, BK183, HB⟩ := q_; (try clear hb); (try clear hb2); (try clear hk); (try clear hi); obtain ⟨hcz11_0, hcz11_1, hfz11_0, hfz11_1⟩ := GS.c2 BK183.out))
 refine bodyPost_ret (results_ct rfl _ _ gb183 28 #[.int .i64 t184, .int .i64 t185] (0, 0) _ rfl (GS.bqZ BK183.out) Try.underlying28 rfl (by kernel_rfl)) rfl ?_
 exact ⟨by first | rfl | (simp [errW_none, errW_some] <;> rfl) | (simp [*, errW_none, errW_some] <;> rfl), GS.lB HB.out⟩
def slices_Equal_int_int.l0 : Nat → List Int → List Int → Int → Int → Option (Bool)
 | 0, _, _, _, _ => none
 | k + 1, x0, x1, x12, x13 => if x13 < x12 then (if 0 ≤ x13 then (if x13 < (x0.length : Int) then (if x13 < (x1.length : Int) then (if (rd x0 x13) = (rd x1 x13) then (slices_Equal_int_int.l0 k x0 x1 x12 (wrap64 (x13 + 1))) else (some false)) else (none)) else (none)) else (none)) else (some true)
def slices_Equal_int_int.f (k : Nat) (l0 : List Int) (l1 : List Int) : Option (Bool) := if (l0.length : Int) = (l1.length : Int) then (slices_Equal_int_int.l0 k l0 l1 (l0.length : Int) 0) else (some false)
set_option maxHeartbeats 8000000 in
set_option maxRecDepth 100000 in
theorem slices_Equal_int_int.calls (k : Nat) (A0 : Option Addr) (c0 : Nat) (l0 : List Int) (A1 : Option Addr) (c1 : Nat) (l1 : List Int) (r : Bool) (w : World) (hr0 : Kd.C (Kd.int .i64) w A0 l0.length l0) (hc0 : l0.length ≤ c0) (hr1 : Kd.C (Kd.int .i64) w A1 l1.length l1) (hc1 : l1.length ≤ c1) (h : slices_Equal_int_int.f k l0 l1 = some r) :
  Calls Try.prog 20 #[.slice A0 l0.length c0, .slice A1 l1.length c1] w fun e w' => e = .returned (.bool r) ∧ Drawn0 w w' := by
 have HR0 := Aside0.mk hr0
 have HC0 := Aside0.mk hc0
 clear hr0 hc0
 have HR1 := Aside0.mk hr1
 have HC1 := Aside0.mk hc1
 clear hr1 hc1
 have H : (if (l0.length : Int) = (l1.length : Int) then (slices_Equal_int_int.l0 k l0 l1 (l0.length : Int) 0) else (some false)) = some r := h
 clear h
 by_cases c3 : (l0.length : Int) = (l1.length : Int)
 ·rw [if_pos c3] at H
  have c3b0 : ((l0.length : Int) == (l1.length : Int)) = true := beq_iff_eq.mpr c3
  have c3b1 : ((l0.length : Int) != (l1.length : Int)) = false := bne_eq_false_iff_eq.mpr c3
  have c3b2 : (l0.length == l1.length) = true := by first | simpa using c3 | (simp at c3 ⊢; omega)
  clear c3
  have H' := Aside0.mk H
  clear H
  go_enter Try.func20, Try.ntmps20
  go_wp2
  repeat (go_quiet (fail); try go_wp2)
  go_loopg [13] k (fun kq v13 w' => ∃ (x13_1 : Int), v13 = .int .i64 x13_1 ∧ Aside0 (slices_Equal_int_int.l0 kq l0 l1 (l0.length : Int) x13_1 = some r) ∧ Aside0 (kq ≤ k) ∧ Drawn0 w w')
  case atStart => exact ⟨(0), (by first | rfl | (simp; done) | (simp [*]; done)), H', ⟨Nat.le_refl _⟩, by repeat (first | exact Drawn0.refl _ | apply Drawn0.step)⟩
  case round =>
   clear H'
   try clear c3b0
   try clear c3b1
   try clear c3b2
   obtain ⟨x13_1, rfl, HA, HK1, ⟨m1, rfl⟩⟩ := hrel
   cases gk with
   | zero => exact absurd HA.out (by simp [slices_Equal_int_int.l0])
   | succ k1 =>
    have H := HA.out
    clear HA
    simp only [slices_Equal_int_int.l0] at H
    by_cases c4 : x13_1 < (l0.length : Int)
    ·rw [if_pos c4] at H
     have c4b0 : decide (x13_1 < (l0.length : Int)) = true := decide_eq_true c4
     clear c4
     by_cases c5 : 0 ≤ x13_1
     ·rw [if_pos c5] at H
      have c5b0 : decide (0 ≤ x13_1) = true := decide_eq_true c5
      clear c5
      by_cases c6 : x13_1 < (l0.length : Int)
      ·rw [if_pos c6] at H
       have c6b0 : decide (x13_1 < (l0.length : Int)) = true := decide_eq_true c6
       clear c6
       by_cases c7 : x13_1 < (l1.length : Int)
       ·rw [if_pos c7] at H
        have c7b0 : decide (x13_1 < (l1.length : Int)) = true := decide_eq_true c7
        clear c7
        by_cases c8 : (rd l0 x13_1) = (rd l1 x13_1)
        ·rw [if_pos c8] at H
         have c8b0 : ((rd l0 x13_1) == (rd l1 x13_1)) = true := beq_iff_eq.mpr c8
         have c8b1 : ((rd l0 x13_1) != (rd l1 x13_1)) = false := bne_eq_false_iff_eq.mpr c8
         clear c8
         have H' := Aside0.mk H
         clear H
         have p187 : 0 ≤ (x13_1 : Int) := of_decide_eq_true (by first | (with_reducible assumption) | assumption)
         have q187 : x13_1 < (l0.length : Int) := of_decide_eq_true (by first | (with_reducible assumption) | assumption)
         obtain ⟨ad187, e187, hx187_0⟩ := Kd.at_int HR0.out x13_1 p187 q187
         cases e187
         replace p187 := eq_true p187
         replace q187 := eq_true q187
         have p188 : 0 ≤ (x13_1 : Int) := of_decide_eq_true (by first | (with_reducible assumption) | assumption)
         have q188 : x13_1 < (l1.length : Int) := of_decide_eq_true (by first | (with_reducible assumption) | assumption)
         obtain ⟨ad188, e188, hx188_0⟩ := Kd.at_int HR1.out x13_1 p188 q188
         cases e188
         replace p188 := eq_true p188
         replace q188 := eq_true q188
         go_wp2
         repeat (go_quiet (fail); try go_wp2)
         go_roundg k1
         case measure => have := HK1.out; omega
         case rel => exact ⟨(wrap64 (x13_1 + 1)), (by first | rfl | (simp; done) | (simp [*]; done)), H', ⟨by have := HK1.out; omega⟩, by repeat (first | exact Drawn0.refl _ | apply Drawn0.step)⟩
        ·rw [if_neg c8] at H
         have c8b0 : ((rd l0 x13_1) == (rd l1 x13_1)) = false := beq_eq_false_iff_ne.mpr c8
         have c8b1 : ((rd l0 x13_1) != (rd l1 x13_1)) = true := bne_iff_ne.mpr c8
         obtain rfl := Option.some.inj H
         have p187 : 0 ≤ (x13_1 : Int) := of_decide_eq_true (by first | (with_reducible assumption) | assumption)
         have q187 : x13_1 < (l0.length : Int) := of_decide_eq_true (by first | (with_reducible assumption) | assumption)
         obtain ⟨ad187, e187, hx187_0⟩ := Kd.at_int HR0.out x13_1 p187 q187
         cases e187
         replace p187 := eq_true p187
         replace q187 := eq_true q187
         have p188 : 0 ≤ (x13_1 : Int) := of_decide_eq_true (by first | (with_reducible assumption) | assumption)
         have q188 : x13_1 < (l1.length : Int) := of_decide_eq_true (by first | (with_reducible assumption) | assumption)
         obtain ⟨ad188, e188, hx188_0⟩ := Kd.at_int HR1.out x13_1 p188 q188
         cases e188
         replace p188 := eq_true p188
         replace q188 := eq_true q188
         go_wp2
         repeat (go_quiet (fail); try go_wp2)
         go_ret
         exact ⟨by first | rfl | (simp; done) | (simp [*]; done), by repeat (first | exact Drawn0.refl _ | apply Drawn0.step)⟩
       ·rw [if_neg c7] at H
        exact absurd H (by simp)
      ·rw [if_neg c6] at H
       exact absurd H (by simp)
     ·rw [if_neg c5] at H
      exact absurd H (by simp)
    ·rw [if_neg c4] at H
     have c4b0 : decide (x13_1 < (l0.length : Int)) = false := decide_eq_false c4
     clear c4
     obtain rfl := Option.some.inj H
     go_wp2
     repeat (go_quiet (fail); try go_wp2)
     go_ret
     exact ⟨by first | rfl | (simp; done) | (simp [*]; done), by repeat (first | exact Drawn0.refl _ | apply Drawn0.step)⟩
 ·rw [if_neg c3] at H
  have c3b0 : ((l0.length : Int) == (l1.length : Int)) = false := beq_eq_false_iff_ne.mpr c3
  have c3b1 : ((l0.length : Int) != (l1.length : Int)) = true := bne_iff_ne.mpr c3
  have c3b2 : (l0.length == l1.length) = false := by first | simpa using c3 | (simp at c3 ⊢; omega)
  obtain rfl := Option.some.inj H
  go_enter Try.func20, Try.ntmps20
  go_wp2
  repeat (go_quiet (fail); try go_wp2)
  go_ret
  exact ⟨by first | rfl | (simp; done) | (simp [*]; done), by repeat (first | exact Drawn0.refl _ | apply Drawn0.step)⟩
def slices_Index_int_int.l0 : Nat → List Int → Int → Int → Int → Option (Int)
 | 0, _, _, _, _ => none
 | k + 1, x0, x1, x7, x8 => if x8 < x7 then (if 0 ≤ x8 then (if x8 < (x0.length : Int) then (if x1 = (rd x0 x8) then (some x8) else (slices_Index_int_int.l0 k x0 x1 x7 (wrap64 (x8 + 1)))) else (none)) else (none)) else (some (-1))
def slices_Index_int_int.f (k : Nat) (l0 : List Int) (a1 : Int) : Option (Int) := slices_Index_int_int.l0 k l0 a1 (l0.length : Int) 0
set_option maxHeartbeats 8000000 in
set_option maxRecDepth 100000 in
theorem slices_Index_int_int.calls (k : Nat) (A0 : Option Addr) (c0 : Nat) (l0 : List Int) (a1 : Int) (r : Int) (w : World) (hr0 : Kd.C (Kd.int .i64) w A0 l0.length l0) (hc0 : l0.length ≤ c0) (h : slices_Index_int_int.f k l0 a1 = some r) :
  Calls Try.prog 81 #[.slice A0 l0.length c0, .int .i64 a1] w fun e w' => e = .returned (.int .i64 r) ∧ Drawn0 w w' := by
 have HR0 := Aside0.mk hr0
 have HC0 := Aside0.mk hc0
 clear hr0 hc0
 have H : (slices_Index_int_int.l0 k l0 a1 (l0.length : Int) 0) = some r := h
 clear h
 have H' := Aside0.mk H
 clear H
 go_enter Try.func81, Try.ntmps81
 go_wp2
 go_loopg [8] k (fun kq v8 w' => ∃ (x8_1 : Int), v8 = .int .i64 x8_1 ∧ Aside0 (slices_Index_int_int.l0 kq l0 a1 (l0.length : Int) x8_1 = some r) ∧ Aside0 (kq ≤ k) ∧ Drawn0 w w')
 case atStart => exact ⟨(0), (by first | rfl | (simp; done) | (simp [*]; done)), H', ⟨Nat.le_refl _⟩, by repeat (first | exact Drawn0.refl _ | apply Drawn0.step)⟩
 case round =>
  clear H'
  obtain ⟨x8_1, rfl, HA, HK1, ⟨m1, rfl⟩⟩ := hrel
  cases gk with
  | zero => exact absurd HA.out (by simp [slices_Index_int_int.l0])
  | succ k1 =>
   have H := HA.out
   clear HA
   simp only [slices_Index_int_int.l0] at H
   by_cases c3 : x8_1 < (l0.length : Int)
   ·rw [if_pos c3] at H
    have c3b0 : decide (x8_1 < (l0.length : Int)) = true := decide_eq_true c3
    clear c3
    by_cases c4 : 0 ≤ x8_1
    ·rw [if_pos c4] at H
     have c4b0 : decide (0 ≤ x8_1) = true := decide_eq_true c4
     clear c4
     by_cases c5 : x8_1 < (l0.length : Int)
     ·rw [if_pos c5] at H
      have c5b0 : decide (x8_1 < (l0.length : Int)) = true := decide_eq_true c5
      clear c5
      by_cases c6 : a1 = (rd l0 x8_1)
      ·rw [if_pos c6] at H
       have c6b0 : (a1 == (rd l0 x8_1)) = true := beq_iff_eq.mpr c6
       have c6b1 : (a1 != (rd l0 x8_1)) = false := bne_eq_false_iff_eq.mpr c6
       clear c6
       obtain rfl := Option.some.inj H
       have p189 : 0 ≤ (x8_1 : Int) := of_decide_eq_true (by first | (with_reducible assumption) | assumption)
       have q189 : x8_1 < (l0.length : Int) := of_decide_eq_true (by first | (with_reducible assumption) | assumption)
       obtain ⟨ad189, e189, hx189_0⟩ := Kd.at_int HR0.out x8_1 p189 q189
       cases e189
       replace p189 := eq_true p189
       replace q189 := eq_true q189
       go_wp2
       go_ret
       exact ⟨by first | rfl | (simp; done) | (simp [*]; done), by repeat (first | exact Drawn0.refl _ | apply Drawn0.step)⟩
      ·rw [if_neg c6] at H
       have c6b0 : (a1 == (rd l0 x8_1)) = false := beq_eq_false_iff_ne.mpr c6
       have c6b1 : (a1 != (rd l0 x8_1)) = true := bne_iff_ne.mpr c6
       have H' := Aside0.mk H
       clear H
       have p189 : 0 ≤ (x8_1 : Int) := of_decide_eq_true (by first | (with_reducible assumption) | assumption)
       have q189 : x8_1 < (l0.length : Int) := of_decide_eq_true (by first | (with_reducible assumption) | assumption)
       obtain ⟨ad189, e189, hx189_0⟩ := Kd.at_int HR0.out x8_1 p189 q189
       cases e189
       replace p189 := eq_true p189
       replace q189 := eq_true q189
       go_wp2
       go_roundg k1
       case measure => have := HK1.out; omega
       case rel => exact ⟨(wrap64 (x8_1 + 1)), (by first | rfl | (simp; done) | (simp [*]; done)), H', ⟨by have := HK1.out; omega⟩, by repeat (first | exact Drawn0.refl _ | apply Drawn0.step)⟩
     ·rw [if_neg c5] at H
      exact absurd H (by simp)
    ·rw [if_neg c4] at H
     exact absurd H (by simp)
   ·rw [if_neg c3] at H
    have c3b0 : decide (x8_1 < (l0.length : Int)) = false := decide_eq_false c3
    clear c3
    obtain rfl := Option.some.inj H
    go_wp2
    go_ret
    exact ⟨by first | rfl | (simp; done) | (simp [*]; done), by repeat (first | exact Drawn0.refl _ | apply Drawn0.step)⟩
end Go.Proofs.Ytefjmcljkmppoaa.K
