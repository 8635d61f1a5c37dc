import Derived.Test.YtefjmcljkmppoaaK0
import Derived.Test.YtefjmcljkmppoaaGShort
import Derived.Test.YtefjmcljkmppoaaK3
import Derived.Test.YtefjmcljkmppoaaK6
import Derived.Test.YtefjmcljkmppoaaK7
import Derived.Test.YtefjmcljkmppoaaGBetw
import Derived.Test.YtefjmcljkmppoaaGSeg
namespace Go.Proofs.Ytefjmcljkmppoaa.K
open Go.RowKit Go.Proofs.YtefjmcljkmppoaaW.PrintWords Go.Proofs.YtefjmcljkmppoaaW.PrintLast Go.Proofs.YtefjmcljkmppoaaW.PrintMore
attribute [local go_sem] max2_int min2_int max_two min_two max_three min_three max_four min_four   -- for this text's walks alone
set_option linter.unusedVariables false
set_option linter.unusedSimpArgs false
def slices_Contains_int_int.f (k : Nat) (l0 : List Int) (a1 : Int) : Option (Bool) := (slices_Index_int_int.f k l0 a1).bind fun t190 => (some (decide (t190 ≥ 0)))
set_option maxHeartbeats 8000000 in
set_option maxRecDepth 100000 in
theorem slices_Contains_int_int.calls (k : Nat) (A0 : Option Addr) (c0 : Nat) (l0 : List Int) (a1 : Int) (r : Bool) (w : World) (hr0 : Kd.C (Kd.int .i64) w A0 l0.length l0) (hc0 : l0.length ≤ c0) (h : slices_Contains_int_int.f k l0 a1 = some r) :
  Calls Try.prog 53 #[.slice A0 l0.length c0, .int .i64 a1] w fun e w' => e = .returned (.bool r) ∧ Drawn0 w w' := by
 have HR0 := Aside0.mk hr0
 have HC0 := Aside0.mk hc0
 clear hr0 hc0
 have H : ((slices_Index_int_int.f k l0 a1).bind fun t190 => (some (decide (t190 ≥ 0)))) = some r := h
 clear h
 replace H := Option.bind_eq_some_iff.mp H
 obtain ⟨t190, A30, H⟩ := H
 replace H : (some (decide (t190 ≥ 0))) = some r := H
 have A3 := Aside0.mk A30
 clear A30
 obtain rfl := Option.some.inj H
 go_enter Try.func53, Try.ntmps53
 go_wp2_with (first | ((with_reducible refine gqC (f := 81) rfl ?_); refine GS.gL (some 7) Try.func81 #[.slice A0 l0.length c0, .int .i64 a1] ?_; (with_reducible refine (slices_Index_int_int.calls k _ _ l0 a1 t190 _ ?side1 ?side2 A3.out).mono ?_); (case side1 => exact GS.rC HR0.out); (case side2 => exact HC0.out); rintro e w' ⟨rfl, ⟨nd, rfl⟩⟩; refine ⟨_, rfl, ?_⟩))
 go_ret
 exact ⟨by first | rfl | (simp; done) | (simp [*]; done), by repeat (first | exact Drawn0.refl _ | apply Drawn0.step)⟩
mutual
def lying_Check.l0 : Nat → List Int → Int → ByteArray → Int → List (S39) → Int → Option (Int)
 | 0, _, _, _, _, _, _ => none
 | k + 1, x1, x6, x192000, x192001, x192002, x192003 => if x6 < (x1.length : Int) then (if 0 ≤ (wrap64 (x6 - 1)) then (if (wrap64 (x6 - 1)) < (x1.length : Int) then (if 0 ≤ x6 then (if (rd x1 (wrap64 (x6 - 1))) ≥ (rd x1 x6) then (some 5) else (lying_Check.l0 k x1 (wrap64 (x6 + 1)) x192000 x192001 x192002 x192003)) else (none)) else (none)) else (none)) else ((profile_Length.f x192002).bind fun bt195 => (if 0 < (x1.length : Int) then (if (rd x1 0) = 0 then (if 0 ≤ (wrap64 ((x1.length : Int) - 1)) then (if (wrap64 ((x1.length : Int) - 1)) < (x1.length : Int) then (lying_Check.j1 k x1 ((rd x1 (wrap64 ((x1.length : Int) - 1))) != bt195.1) x192000 x192001 x192002 x192003) else (none)) else (none)) else (lying_Check.j1 k x1 true x192000 x192001 x192002 x192003)) else (none)))
def lying_Check.j1 : Nat → List Int → Bool → ByteArray → Int → List (S39) → Int → Option (Int)
 | 0, _, _, _, _, _, _ => none
 | k + 1, x1, x57, x192000, x192001, x192002, x192003 => if x57 = true then (some 5) else (lying_Check.l1 k x1 x192002 (x192002.length : Int) 0)
def lying_Check.l1 : Nat → List Int → List (S39) → Int → Int → Option (Int)
 | 0, _, _, _, _ => none
 | k + 1, x1, x59, x60, x61 => if x61 < x60 then (if 0 ≤ x61 then (if x61 < (x59.length : Int) then ((slices_Contains_int_int.f k x1 ((rd_T39 x59 x61).f0)).bind fun t201 => (if t201 = true then (lying_Check.l1 k x1 x59 x60 (wrap64 (x61 + 1))) else (some 7))) else (none)) else (none)) else (some 0)
end
def lying_Check.f (k : Nat) (a0_0 : ByteArray) (a0_1 : Int) (l0_2 : List (S39)) (a0_3 : Int) (l1 : List Int) : Option (Int) := (lying_lies.f k a0_0 a0_1 l0_2 a0_3).bind fun t192 => (if t192 = 0 then (if (l1.length : Int) < 2 then (some 9) else (if (l1.length : Int) > 65 then (some 8) else (lying_Check.l0 k l1 1 a0_0 a0_1 l0_2 a0_3))) else (some t192))
set_option maxHeartbeats 8000000 in
set_option maxRecDepth 100000 in
theorem lying_Check.calls (k : Nat) (a0_0 : ByteArray) (a0_1 : Int) (A0_2 : Option Addr) (c0_2 : Nat) (l0_2 : List (S39)) (a0_3 : Int) (A1 : Option Addr) (c1 : Nat) (l1 : List Int) (r : Int) (w : World) (hr0_2 : Kd.C k39 w A0_2 l0_2.length l0_2) (hc0_2 : l0_2.length ≤ c0_2) (hr1 : Kd.C (Kd.int .i64) w A1 l1.length l1) (hc1 : l1.length ≤ c1) (h : lying_Check.f k a0_0 a0_1 l0_2 a0_3 l1 = some r) :
  Calls Try.prog 21 #[.agg #[.string a0_0, .int .i64 a0_1, .slice A0_2 l0_2.length c0_2, .int .i64 a0_3], .slice A1 l1.length c1] w fun e w' => e = .returned (.int .i64 r) ∧ Below w.heap.size w w' := by
 have hu24 := Try.underlying24
 have hu39 := Try.underlying39
 have HR0_2 := Aside0.mk hr0_2
 have HC0_2 := Aside0.mk hc0_2
 clear hr0_2 hc0_2
 have HR1 := Aside0.mk hr1
 have HC1 := Aside0.mk hc1
 clear hr1 hc1
 have HB := Aside0.mk (Below.refl w.heap.size w)
 have H : ((lying_lies.f k a0_0 a0_1 l0_2 a0_3).bind fun t192 => (if t192 = 0 then (if (l1.length : Int) < 2 then (some 9) else (if (l1.length : Int) > 65 then (some 8) else (lying_Check.l0 k l1 1 a0_0 a0_1 l0_2 a0_3))) else (some t192))) = some r := h
 clear h
 replace H := Option.bind_eq_some_iff.mp H
 obtain ⟨t192, A30, H⟩ := H
 try (set_option simprocs false in dsimp only at H)
 have A3 := Aside0.mk A30
 clear A30
 by_cases c4 : t192 = 0
 ·rw [if_pos c4] at H
  have c4b0 : (t192 == 0) = true := beq_iff_eq.mpr c4
  have c4b1 : (t192 != 0) = false := bne_eq_false_iff_eq.mpr c4
  clear c4
  by_cases c5 : (l1.length : Int) < 2
  ·rw [if_pos c5] at H
   have c5b0 : decide ((l1.length : Int) < 2) = true := decide_eq_true c5
   have c5b1 : decide (l1.length < 2) = true := decide_eq_true (by omega)
   clear c5
   obtain rfl := Option.some.inj H
   go_enter Try.func21, Try.ntmps21
   go_wp2_with (first | ((with_reducible refine gqD (N := 2) rfl ?_); (try (refine gate_guard (by rfl) ?_; dsimp only)); refine GS.bx (N := 2) (cs := #[.string a0_0, .int .i64 a0_1, .slice A0_2 l0_2.length c0_2, .int .i64 a0_3]) (t := 24) ?_; intro gb191 hg w6 hbox hb; have q_ := GS.q4 (GS.kH HB hb) (Aside0.mk hbox) (GS.kZ hg HB) (GS.kZ hg HB); clear HB; obtain ⟨HB, BK191, GW191, GE191⟩ := q_; clear hb hbox hg; obtain ⟨hcz7_0, hcz7_1, hcz7_2, hcz7_3, hfz7_0, hfz7_1, hfz7_2, hfz7_3⟩ := GS.c4 BK191.out) | (go_at_call 51; (with_reducible refine (lying_lies.calls k a0_0 a0_1 _ _ l0_2 a0_3 t192 _ ?side1 ?side2 A3.out).mono ?_); (case side1 => exact GS.rC (Kd.C_below HR0_2.out HB.out)); (case side2 => exact HC0_2.out); rintro e w8 ⟨rfl, hb⟩; have q_ := GS.q2 (GS.kB BK191 hb) (GS.kH HB hb); clear BK191 HB; obtain ⟨BK191, HB⟩ := q_; (try clear hb); (try clear hb2); (try clear hk); (try clear hi)))
   repeat (go_quiet (first | ((with_reducible refine gqD (N := 2) rfl ?_); (try (refine gate_guard (by rfl) ?_; dsimp only)); refine GS.bx (N := 2) (cs := #[.string a0_0, .int .i64 a0_1, .slice A0_2 l0_2.length c0_2, .int .i64 a0_3]) (t := 24) ?_; intro gb191 hg w6 hbox hb; have q_ := GS.q4 (GS.kH HB hb) (Aside0.mk hbox) (GS.kZ hg HB) (GS.kZ hg HB); clear HB; obtain ⟨HB, BK191, GW191, GE191⟩ := q_; clear hb hbox hg; obtain ⟨hcz7_0, hcz7_1, hcz7_2, hcz7_3, hfz7_0, hfz7_1, hfz7_2, hfz7_3⟩ := GS.c4 BK191.out) | (go_at_call 51; (with_reducible refine (lying_lies.calls k a0_0 a0_1 _ _ l0_2 a0_3 t192 _ ?side1 ?side2 A3.out).mono ?_); (case side1 => exact GS.rC (Kd.C_below HR0_2.out HB.out)); (case side2 => exact HC0_2.out); rintro e w8 ⟨rfl, hb⟩; have q_ := GS.q2 (GS.kB BK191 hb) (GS.kH HB hb); clear BK191 HB; obtain ⟨BK191, HB⟩ := q_; (try clear hb); (try clear hb2); (try clear hk); (try clear hi))); try go_wp2_with (first | ((with_reducible refine gqD (N := 2) rfl ?_); (try (refine gate_guard (by rfl) ?_; dsimp only)); refine GS.bx (N := 2) (cs := #[.string a0_0, .int .i64 a0_1, .slice A0_2 l0_2.length c0_2, .int .i64 a0_3]) (t := 24) ?_; intro gb191 hg w6 hbox hb; have q_ := GS.q4 (GS.kH HB hb) (Aside0.mk hbox) (GS.kZ hg HB) (GS.kZ hg HB); clear HB; obtain ⟨HB, BK191, GW191, GE191⟩ := q_; clear hb hbox hg; obtain ⟨hcz7_0, hcz7_1, hcz7_2, hcz7_3, hfz7_0, hfz7_1, hfz7_2, hfz7_3⟩ := GS.c4 BK191.out) | (go_at_call 51; (with_reducible refine (lying_lies.calls k a0_0 a0_1 _ _ l0_2 a0_3 t192 _ ?side1 ?side2 A3.out).mono ?_); (case side1 => exact GS.rC (Kd.C_below HR0_2.out HB.out)); (case side2 => exact HC0_2.out); rintro e w8 ⟨rfl, hb⟩; have q_ := GS.q2 (GS.kB BK191 hb) (GS.kH HB hb); clear BK191 HB; obtain ⟨BK191, HB⟩ := q_; (try clear hb); (try clear hb2); (try clear hk); (try clear hi))))
   go_ret
   exact ⟨by first | rfl | (simp [errW_none, errW_some] <;> rfl) | (simp [*, errW_none, errW_some] <;> rfl), GS.lB HB.out⟩
  ·rw [if_neg c5] at H
   have c5b0 : decide ((l1.length : Int) < 2) = false := decide_eq_false c5
   have c5b1 : decide (l1.length < 2) = false := decide_eq_false (by omega)
   clear c5
   by_cases c9 : (l1.length : Int) > 65
   ·rw [if_pos c9] at H
    have c9b0 : decide (65 < (l1.length : Int)) = true := decide_eq_true c9
    have c9b1 : decide (65 < l1.length) = true := decide_eq_true (by omega)
    clear c9
    obtain rfl := Option.some.inj H
    go_enter Try.func21, Try.ntmps21
    go_wp2_with (first | ((with_reducible refine gqD (N := 2) rfl ?_); (try (refine gate_guard (by rfl) ?_; dsimp only)); refine GS.bx (N := 2) (cs := #[.string a0_0, .int .i64 a0_1, .slice A0_2 l0_2.length c0_2, .int .i64 a0_3]) (t := 24) ?_; intro gb191 hg w10 hbox hb; have q_ := GS.q4 (GS.kH HB hb) (Aside0.mk hbox) (GS.kZ hg HB) (GS.kZ hg HB); clear HB; obtain ⟨HB, BK191, GW191, GE191⟩ := q_; clear hb hbox hg; obtain ⟨hcz11_0, hcz11_1, hcz11_2, hcz11_3, hfz11_0, hfz11_1, hfz11_2, hfz11_3⟩ := GS.c4 BK191.out) | (go_at_call 51; (with_reducible refine (lying_lies.calls k a0_0 a0_1 _ _ l0_2 a0_3 t192 _ ?side1 ?side2 A3.out).mono ?_); (case side1 => exact GS.rC (Kd.C_below HR0_2.out HB.out)); (case side2 => exact HC0_2.out); rintro e w12 ⟨rfl, hb⟩; have q_ := GS.q2 (GS.kB BK191 hb) (GS.kH HB hb); clear BK191 HB; obtain ⟨BK191, HB⟩ := q_; (try clear hb); (try clear hb2); (try clear hk); (try clear hi)))
    repeat (go_quiet (first | ((with_reducible refine gqD (N := 2) rfl ?_); (try (refine gate_guard (by rfl) ?_; dsimp only)); refine GS.bx (N := 2) (cs := #[.string a0_0, .int .i64 a0_1, .slice A0_2 l0_2.length c0_2, .int .i64 a0_3]) (t := 24) ?_; intro gb191 hg w10 hbox hb; have q_ := GS.q4 (GS.kH HB hb) (Aside0.mk hbox) (GS.kZ hg HB) (GS.kZ hg HB); clear HB; obtain ⟨HB, BK191, GW191, GE191⟩ := q_; clear hb hbox hg; obtain ⟨hcz11_0, hcz11_1, hcz11_2, hcz11_3, hfz11_0, hfz11_1, hfz11_2, hfz11_3⟩ := GS.c4 BK191.out) | (go_at_call 51; (with_reducible refine (lying_lies.calls k a0_0 a0_1 _ _ l0_2 a0_3 t192 _ ?side1 ?side2 A3.out).mono ?_); (case side1 => exact GS.rC (Kd.C_below HR0_2.out HB.out)); (case side2 => exact HC0_2.out); rintro e w12 ⟨rfl, hb⟩; have q_ := GS.q2 (GS.kB BK191 hb) (GS.kH HB hb); clear BK191 HB; obtain ⟨BK191, HB⟩ := q_; (try clear hb); (try clear hb2); (try clear hk); (try clear hi))); try go_wp2_with (first | ((with_reducible refine gqD (N := 2) rfl ?_); (try (refine gate_guard (by rfl) ?_; dsimp only)); refine GS.bx (N := 2) (cs := #[.string a0_0, .int .i64 a0_1, .slice A0_2 l0_2.length c0_2, .int .i64 a0_3]) (t := 24) ?_; intro gb191 hg w10 hbox hb; have q_ := GS.q4 (GS.kH HB hb) (Aside0.mk hbox) (GS.kZ hg HB) (GS.kZ hg HB); clear HB; obtain ⟨HB, BK191, GW191, GE191⟩ := q_; clear hb hbox hg; obtain ⟨hcz11_0, hcz11_1, hcz11_2, hcz11_3, hfz11_0, hfz11_1, hfz11_2, hfz11_3⟩ := GS.c4 BK191.out) | (go_at_call 51; (with_reducible refine (lying_lies.calls k a0_0 a0_1 _ _ l0_2 a0_3 t192 _ ?side1 ?side2 A3.out).mono ?_); (case side1 => exact GS.rC (Kd.C_below HR0_2.out HB.out)); (case side2 => exact HC0_2.out); rintro e w12 ⟨rfl, hb⟩; have q_ := GS.q2 (GS.kB BK191 hb) (GS.kH HB hb); clear BK191 HB; obtain ⟨BK191, HB⟩ := q_; (try clear hb); (try clear hb2); (try clear hk); (try clear hi))))
    go_ret
    exact ⟨by first | rfl | (simp [errW_none, errW_some] <;> rfl) | (simp [*, errW_none, errW_some] <;> rfl), GS.lB HB.out⟩
   ·rw [if_neg c9] at H
    have c9b0 : decide (65 < (l1.length : Int)) = false := decide_eq_false c9
    have c9b1 : decide (65 < l1.length) = false := decide_eq_false (by omega)
    clear c9
    have H' := Aside0.mk H
    clear H
    go_enter Try.func21, Try.ntmps21
    go_wp2_with (first | ((with_reducible refine gqD (N := 2) rfl ?_); (try (refine gate_guard (by rfl) ?_; dsimp only)); refine GS.bx (N := 2) (cs := #[.string a0_0, .int .i64 a0_1, .slice A0_2 l0_2.length c0_2, .int .i64 a0_3]) (t := 24) ?_; intro gb191 hg w13 hbox hb; have q_ := GS.q4 (GS.kH HB hb) (Aside0.mk hbox) (GS.kZ hg HB) (GS.kZ hg HB); clear HB; obtain ⟨HB, BK191, GW191, GE191⟩ := q_; clear hb hbox hg; obtain ⟨hcz14_0, hcz14_1, hcz14_2, hcz14_3, hfz14_0, hfz14_1, hfz14_2, hfz14_3⟩ := GS.c4 BK191.out) | (go_at_call 51; (with_reducible refine (lying_lies.calls k a0_0 a0_1 _ _ l0_2 a0_3 t192 _ ?side1 ?side2 A3.out).mono ?_); (case side1 => exact GS.rC (Kd.C_below HR0_2.out HB.out)); (case side2 => exact HC0_2.out); rintro e w15 ⟨rfl, hb⟩; have q_ := GS.q2 (GS.kB BK191 hb) (GS.kH HB hb); clear BK191 HB; obtain ⟨BK191, HB⟩ := q_; (try clear hb); (try clear hb2); (try clear hk); (try clear hi)))
    repeat (go_quiet (first | ((with_reducible refine gqD (N := 2) rfl ?_); (try (refine gate_guard (by rfl) ?_; dsimp only)); refine GS.bx (N := 2) (cs := #[.string a0_0, .int .i64 a0_1, .slice A0_2 l0_2.length c0_2, .int .i64 a0_3]) (t := 24) ?_; intro gb191 hg w13 hbox hb; have q_ := GS.q4 (GS.kH HB hb) (Aside0.mk hbox) (GS.kZ hg HB) (GS.kZ hg HB); clear HB; obtain ⟨HB, BK191, GW191, GE191⟩ := q_; clear hb hbox hg; obtain ⟨hcz14_0, hcz14_1, hcz14_2, hcz14_3, hfz14_0, hfz14_1, hfz14_2, hfz14_3⟩ := GS.c4 BK191.out) | (go_at_call 51; (with_reducible refine (lying_lies.calls k a0_0 a0_1 _ _ l0_2 a0_3 t192 _ ?side1 ?side2 A3.out).mono ?_); (case side1 => exact GS.rC (Kd.C_below HR0_2.out HB.out)); (case side2 => exact HC0_2.out); rintro e w15 ⟨rfl, hb⟩; have q_ := GS.q2 (GS.kB BK191 hb) (GS.kH HB hb); clear BK191 HB; obtain ⟨BK191, HB⟩ := q_; (try clear hb); (try clear hb2); (try clear hk); (try clear hi))); try go_wp2_with (first | ((with_reducible refine gqD (N := 2) rfl ?_); (try (refine gate_guard (by rfl) ?_; dsimp only)); refine GS.bx (N := 2) (cs := #[.string a0_0, .int .i64 a0_1, .slice A0_2 l0_2.length c0_2, .int .i64 a0_3]) (t := 24) ?_; intro gb191 hg w13 hbox hb; have q_ := GS.q4 (GS.kH HB hb) (Aside0.mk hbox) (GS.kZ hg HB) (GS.kZ hg HB); clear HB; obtain ⟨HB, BK191, GW191, GE191⟩ := q_; clear hb hbox hg; obtain ⟨hcz14_0, hcz14_1, hcz14_2, hcz14_3, hfz14_0, hfz14_1, hfz14_2, hfz14_3⟩ := GS.c4 BK191.out) | (go_at_call 51; (with_reducible refine (lying_lies.calls k a0_0 a0_1 _ _ l0_2 a0_3 t192 _ ?side1 ?side2 A3.out).mono ?_); (case side1 => exact GS.rC (Kd.C_below HR0_2.out HB.out)); (case side2 => exact HC0_2.out); rintro e w15 ⟨rfl, hb⟩; have q_ := GS.q2 (GS.kB BK191 hb) (GS.kH HB hb); clear BK191 HB; obtain ⟨BK191, HB⟩ := q_; (try clear hb); (try clear hb2); (try clear hk); (try clear hi))))
    go_loopg [6] k (fun kq v6 w' => ∃ (x6_1 : Int), v6 = .int .i64 x6_1 ∧ Aside0 (lying_Check.l0 kq l1 x6_1 a0_0 a0_1 l0_2 a0_3 = some r) ∧ Aside0 (kq ≤ k) ∧ Aside0 (w'.heap[gb191]? = some (.cells #[.string a0_0, .int .i64 a0_1, (.slice A0_2 l0_2.length c0_2), .int .i64 a0_3] 24 (0, 0))) ∧ Aside0 (Below w.heap.size w w'))
    case atStart => exact ⟨(1), (by first | rfl | (simp; done) | (simp [*]; done)), H', ⟨Nat.le_refl _⟩, ⟨GS.bqX BK191.out⟩, ⟨GS.lB HB.out⟩⟩
    case round =>
     clear H'
     try clear c4b0
     try clear c4b1
     try clear c5b0
     try clear c5b1
     try clear c9b0
     try clear c9b1
     try clear hcz14_0
     try clear hcz14_1
     try clear hcz14_2
     try clear hcz14_3
     try clear hfz14_0
     try clear hfz14_1
     try clear hfz14_2
     try clear hfz14_3
     obtain ⟨x6_1, rfl, HA, HK1, BK191, HB⟩ := hrel
     cases gk with
     | zero => exact absurd HA.out (by simp [lying_Check.l0])
     | succ k1 =>
      have H := HA.out
      clear HA
      simp only [lying_Check.l0] at H
      by_cases c16 : x6_1 < (l1.length : Int)
      ·rw [if_pos c16] at H
       have c16b0 : decide (x6_1 < (l1.length : Int)) = true := decide_eq_true c16
       clear c16
       obtain ⟨ji17, hji17⟩ : ∃ j_ : Int, (wrap64 (x6_1 - 1)) = j_ := ⟨_, rfl⟩
       replace H : (if 0 ≤ (ji17) then (if (ji17) < (l1.length : Int) then (if 0 ≤ x6_1 then (if (rd l1 (ji17)) ≥ (rd l1 x6_1) then (some 5) else (lying_Check.l0 k1 l1 (wrap64 (x6_1 + 1)) a0_0 a0_1 l0_2 a0_3)) else (none)) else (none)) else (none)) = some r := by first | (rw [hji17] at H; exact H) | (simp only [hji17] at H ⊢; exact H)
       have hji17w : (IntKind.i64.wrap (x6_1 - 1)) = ji17 := (i64_w _).trans hji17
       by_cases c18 : 0 ≤ (ji17)
       ·rw [if_pos c18] at H
        have c18b0 : decide (0 ≤ (ji17)) = true := decide_eq_true c18
        clear c18
        by_cases c19 : (ji17) < (l1.length : Int)
        ·rw [if_pos c19] at H
         have c19b0 : decide ((ji17) < (l1.length : Int)) = true := decide_eq_true c19
         clear c19
         by_cases c20 : 0 ≤ x6_1
         ·rw [if_pos c20] at H
          have c20b0 : decide (0 ≤ x6_1) = true := decide_eq_true c20
          clear c20
          by_cases c21 : (rd l1 (ji17)) ≥ (rd l1 x6_1)
          ·rw [if_pos c21] at H
           have c21b0 : decide ((rd l1 x6_1) ≤ (rd l1 (ji17))) = true := decide_eq_true c21
           clear c21
           obtain rfl := Option.some.inj H
           have p193 : 0 ≤ ((ji17) : Int) := of_decide_eq_true (by first | (with_reducible assumption) | assumption)
           have q193 : (ji17) < (l1.length : Int) := of_decide_eq_true (by first | (with_reducible assumption) | assumption)
           obtain ⟨ad193, e193, hx193_0⟩ := Kd.at_int HR1.out (ji17) p193 q193
           cases e193
           replace hx193_0 := (HB.out.cell (World.block_lt_of_cell? w _ hx193_0)).trans hx193_0
           replace p193 := eq_true p193
           replace q193 := eq_true q193
           have p194 : 0 ≤ (x6_1 : Int) := of_decide_eq_true (by first | (with_reducible assumption) | assumption)
           have q194 : x6_1 < (l1.length : Int) := of_decide_eq_true (by first | (with_reducible assumption) | assumption)
           obtain ⟨ad194, e194, hx194_0⟩ := Kd.at_int HR1.out x6_1 p194 q194
           obtain rfl : ad193 = ad194 := (by injection e194)
           replace hx194_0 := (HB.out.cell (World.block_lt_of_cell? w _ hx194_0)).trans hx194_0
           replace p194 := eq_true p194
           replace q194 := eq_true q194
           go_wp2
           repeat (go_quiet (fail); try go_wp2)
           go_ret
           exact ⟨by first | rfl | (simp [errW_none, errW_some] <;> rfl) | (simp only [← hji17]; first | rfl | (simp [errW_none, errW_some] <;> rfl)) | (simp [*, errW_none, errW_some] <;> rfl), GS.lB HB.out⟩
          ·rw [if_neg c21] at H
           have c21b0 : decide ((rd l1 x6_1) ≤ (rd l1 (ji17))) = false := decide_eq_false c21
           clear c21
           have H' := Aside0.mk H
           clear H
           have p193 : 0 ≤ ((ji17) : Int) := of_decide_eq_true (by first | (with_reducible assumption) | assumption)
           have q193 : (ji17) < (l1.length : Int) := of_decide_eq_true (by first | (with_reducible assumption) | assumption)
           obtain ⟨ad193, e193, hx193_0⟩ := Kd.at_int HR1.out (ji17) p193 q193
           cases e193
           replace hx193_0 := (HB.out.cell (World.block_lt_of_cell? w _ hx193_0)).trans hx193_0
           replace p193 := eq_true p193
           replace q193 := eq_true q193
           have p194 : 0 ≤ (x6_1 : Int) := of_decide_eq_true (by first | (with_reducible assumption) | assumption)
           have q194 : x6_1 < (l1.length : Int) := of_decide_eq_true (by first | (with_reducible assumption) | assumption)
           obtain ⟨ad194, e194, hx194_0⟩ := Kd.at_int HR1.out x6_1 p194 q194
           obtain rfl : ad193 = ad194 := (by injection e194)
           replace hx194_0 := (HB.out.cell (World.block_lt_of_cell? w _ hx194_0)).trans hx194_0
           replace p194 := eq_true p194
           replace q194 := eq_true q194
           go_wp2
           repeat (go_quiet (fail); try go_wp2)
           go_roundg k1
           case measure => have := HK1.out; omega
           case rel => exact ⟨(wrap64 (x6_1 + 1)), (by first | rfl | (simp; done) | (simp [*]; done)), H', ⟨by have := HK1.out; omega⟩, ⟨GS.bqX BK191.out⟩, ⟨GS.lB HB.out⟩⟩
         ·rw [if_neg c20] at H
          exact absurd H (by simp)
        ·rw [if_neg c19] at H
         exact absurd H (by simp)
       ·rw [if_neg c18] at H
        exact absurd H (by simp)
      ·rw [if_neg c16] at H
       have c16b0 : decide (x6_1 < (l1.length : Int)) = false := decide_eq_false c16
       clear c16
       replace H := Option.bind_eq_some_iff.mp H
       obtain ⟨⟨t195, t196⟩, A220, H⟩ := H
       try (set_option simprocs false in dsimp only at H)
       have A22 := Aside0.mk A220
       clear A220
       have HC23 := Aside0.mk H
       clear H
       obtain ⟨hcz24_0, hcz24_1, hcz24_2, hcz24_3, hfz24_0, hfz24_1, hfz24_2, hfz24_3⟩ := GS.c4 BK191.out
       go_upto_region 14 with (first | (go_at_call 52; (with_reducible refine (profile_Length.calls _ _ l0_2 t195 t196 _ ?side1 ?side2 A22.out).mono ?_); (case side1 => exact GS.rC (Kd.C_below HR0_2.out HB.out)); (case side2 => exact HC0_2.out); rintro e w25 ⟨rfl, hb⟩; have q_ := GS.q2 (GS.kB BK191 hb) (GS.kH HB hb); clear BK191 HB; obtain ⟨BK191, HB⟩ := q_; (try clear hb); (try clear hb2); (try clear hk); (try clear hi)))
       repeat (go_quiet (first | (go_at_call 52; (with_reducible refine (profile_Length.calls _ _ l0_2 t195 t196 _ ?side1 ?side2 A22.out).mono ?_); (case side1 => exact GS.rC (Kd.C_below HR0_2.out HB.out)); (case side2 => exact HC0_2.out); rintro e w25 ⟨rfl, hb⟩; have q_ := GS.q2 (GS.kB BK191 hb) (GS.kH HB hb); clear BK191 HB; obtain ⟨BK191, HB⟩ := q_; (try clear hb); (try clear hb2); (try clear hk); (try clear hi))); go_upto_region 14 with (first | (go_at_call 52; (with_reducible refine (profile_Length.calls _ _ l0_2 t195 t196 _ ?side1 ?side2 A22.out).mono ?_); (case side1 => exact GS.rC (Kd.C_below HR0_2.out HB.out)); (case side2 => exact HC0_2.out); rintro e w25 ⟨rfl, hb⟩; have q_ := GS.q2 (GS.kB BK191 hb) (GS.kH HB hb); clear BK191 HB; obtain ⟨BK191, HB⟩ := q_; (try clear hb); (try clear hb2); (try clear hk); (try clear hi))))
       (try simp only [Act.put, List.setIfInBounds_toArray, List.set_cons_zero, List.set_cons_succ])
       go_cut [57] (fun v57 wc => ∃ (kq : Nat) (x57_22 : Bool), v57 = .bool x57_22 ∧ Aside0 (lying_Check.j1 kq l1 x57_22 a0_0 a0_1 l0_2 a0_3 = some r) ∧ Aside0 (kq ≤ k1) ∧ Aside0 (wc.heap[gb191]? = some (.cells #[.string a0_0, .int .i64 a0_1, (.slice A0_2 l0_2.length c0_2), .int .i64 a0_3] 24 (0, 0))) ∧ Aside0 (Below w.heap.size w wc))
       case first =>
        have H := HC23.out
        clear HC23
        by_cases c26 : 0 < (l1.length : Int)
        ·rw [if_pos c26] at H
         have c26b0 : decide (0 < (l1.length : Int)) = true := decide_eq_true c26
         have c26b1 : decide (0 < l1.length) = true := decide_eq_true (by omega)
         clear c26
         (first | rw [c26b0] | (simp only [i64_w, i32_w]; rw [c26b0]) | skip)
         by_cases c27 : (rd l1 0) = 0
         ·rw [if_pos c27] at H
          have c27b0 : ((rd l1 0) == 0) = true := beq_iff_eq.mpr c27
          have c27b1 : ((rd l1 0) != 0) = false := bne_eq_false_iff_eq.mpr c27
          clear c27
          obtain ⟨ji28, hji28⟩ : ∃ j_ : Int, (wrap64 ((l1.length : Int) - 1)) = j_ := ⟨_, rfl⟩
          replace H : (if 0 ≤ (ji28) then (if (ji28) < (l1.length : Int) then (lying_Check.j1 k1 l1 ((rd l1 (ji28)) != t195) a0_0 a0_1 l0_2 a0_3) else (none)) else (none)) = some r := by first | (rw [hji28] at H; exact H) | (simp only [hji28] at H ⊢; exact H)
          have hji28w : (IntKind.i64.wrap ((l1.length : Int) - 1)) = ji28 := (i64_w _).trans hji28
          by_cases c29 : 0 ≤ (ji28)
          ·rw [if_pos c29] at H
           have c29b0 : decide (0 ≤ (ji28)) = true := decide_eq_true c29
           clear c29
           by_cases c30 : (ji28) < (l1.length : Int)
           ·rw [if_pos c30] at H
            have c30b0 : decide ((ji28) < (l1.length : Int)) = true := decide_eq_true c30
            clear c30
            have H' := Aside0.mk H
            clear H
            have p197 : 0 ≤ (0 : Int) := (by omega)
            have q197 : 0 < (l1.length : Int) := of_decide_eq_true (by first | (with_reducible assumption) | assumption)
            obtain ⟨ad197, e197, hx197_0⟩ := Kd.at_int HR1.out 0 p197 q197
            cases e197
            have qi197 : (0 < l1.length) = True := eq_true (by omega)
            (try rw [show ((0 : Int)).toNat = 0 from rfl] at hx197_0)
            (try rw [Addr.add_zero'] at hx197_0)
            replace hx197_0 := (HB.out.cell (World.block_lt_of_cell? w _ hx197_0)).trans hx197_0
            replace p197 := eq_true p197
            replace q197 := eq_true q197
            have p198 : 0 ≤ ((ji28) : Int) := of_decide_eq_true (by first | (with_reducible assumption) | assumption)
            have q198 : (ji28) < (l1.length : Int) := of_decide_eq_true (by first | (with_reducible assumption) | assumption)
            obtain ⟨ad198, e198, hx198_0⟩ := Kd.at_int HR1.out (ji28) p198 q198
            obtain rfl : ad197 = ad198 := (by injection e198)
            replace hx198_0 := (HB.out.cell (World.block_lt_of_cell? w _ hx198_0)).trans hx198_0
            replace p198 := eq_true p198
            replace q198 := eq_true q198
            go_wp2
            repeat (go_quiet (fail); try go_wp2)
            go_meet
            case rel => exact ⟨_, (((rd l1 (ji28)) != t195)), (by first | rfl | (simp; done) | (simp only [← hji28] <;> (first | rfl | simp)) | (simp [*]; done)), H', ⟨by have := HK1.out; first | omega | exact Nat.le_refl _⟩, ⟨GS.bqX BK191.out⟩, ⟨GS.lB HB.out⟩⟩
           ·rw [if_neg c30] at H
            exact absurd H (by simp)
          ·rw [if_neg c29] at H
           exact absurd H (by simp)
         ·rw [if_neg c27] at H
          have c27b0 : ((rd l1 0) == 0) = false := beq_eq_false_iff_ne.mpr c27
          have c27b1 : ((rd l1 0) != 0) = true := bne_iff_ne.mpr c27
          have H' := Aside0.mk H
          clear H
          have p197 : 0 ≤ (0 : Int) := (by omega)
          have q197 : 0 < (l1.length : Int) := of_decide_eq_true (by first | (with_reducible assumption) | assumption)
          obtain ⟨ad197, e197, hx197_0⟩ := Kd.at_int HR1.out 0 p197 q197
          cases e197
          have qi197 : (0 < l1.length) = True := eq_true (by omega)
          (try rw [show ((0 : Int)).toNat = 0 from rfl] at hx197_0)
          (try rw [Addr.add_zero'] at hx197_0)
          replace hx197_0 := (HB.out.cell (World.block_lt_of_cell? w _ hx197_0)).trans hx197_0
          replace p197 := eq_true p197
          replace q197 := eq_true q197
          go_wp2
          repeat (go_quiet (fail); try go_wp2)
          go_meet
          case rel => exact ⟨_, (true), (by first | rfl | (simp; done) | (simp [*]; done)), H', ⟨by have := HK1.out; first | omega | exact Nat.le_refl _⟩, ⟨GS.bqX BK191.out⟩, ⟨GS.lB HB.out⟩⟩
        ·rw [if_neg c26] at H
         exact absurd H (by simp)
       case rest =>
        clear HC23
        try clear c16b0
        try clear hcz24_0
        try clear hcz24_1
        try clear hcz24_2
        try clear hcz24_3
        try clear hfz24_0
        try clear hfz24_1
        try clear hfz24_2
        try clear hfz24_3
        obtain ⟨kq, x57_22, rfl, HA, HJ22, BK191, HB⟩ := hcut
        cases kq with
        | zero => exact absurd HA.out (by simp [lying_Check.j1])
        | succ kj22 =>
         have H := HA.out
         clear HA
         simp only [lying_Check.j1] at H
         by_cases c31 : x57_22 = true
         ·subst c31
          rw [if_pos rfl] at H
          obtain rfl := Option.some.inj H
          go_wp2
          repeat (go_quiet (fail); try go_wp2)
          go_ret
          exact ⟨by first | rfl | (simp [errW_none, errW_some] <;> rfl) | (simp [*, errW_none, errW_some] <;> rfl), GS.lB HB.out⟩
         ·replace c31 := Bool.eq_false_iff.mpr c31
          subst c31
          rw [if_neg (show ¬ (false = true) by decide)] at H
          have H' := Aside0.mk H
          clear H
          obtain ⟨hcz32_0, hcz32_1, hcz32_2, hcz32_3, hfz32_0, hfz32_1, hfz32_2, hfz32_3⟩ := GS.c4 BK191.out
          go_wp2
          repeat (go_quiet (fail); try go_wp2)
          go_loopg [61] kj22 (fun kq v61 w' => ∃ (x61_3 : Int), v61 = .int .i64 x61_3 ∧ Aside0 (lying_Check.l1 kq l1 l0_2 (l0_2.length : Int) x61_3 = some r) ∧ Aside0 (kq ≤ kj22) ∧ Aside0 (w'.heap[gb191]? = some (.cells #[.string a0_0, .int .i64 a0_1, (.slice A0_2 l0_2.length c0_2), .int .i64 a0_3] 24 (0, 0))) ∧ Aside0 (Below w.heap.size w w'))
          case atStart => exact ⟨(0), (by first | rfl | (simp; done) | (simp [*]; done)), H', ⟨Nat.le_refl _⟩, ⟨GS.bqX BK191.out⟩, ⟨GS.lB HB.out⟩⟩
          case round =>
           clear H'
           try clear hcz32_0
           try clear hcz32_1
           try clear hcz32_2
           try clear hcz32_3
           try clear hfz32_0
           try clear hfz32_1
           try clear hfz32_2
           try clear hfz32_3
           obtain ⟨x61_3, rfl, HA, HK3, BK191, HB⟩ := hrel
           cases gk with
           | zero => exact absurd HA.out (by simp [lying_Check.l1])
           | succ k3 =>
            have H := HA.out
            clear HA
            simp only [lying_Check.l1] at H
            by_cases c33 : x61_3 < (l0_2.length : Int)
            ·rw [if_pos c33] at H
             have c33b0 : decide (x61_3 < (l0_2.length : Int)) = true := decide_eq_true c33
             clear c33
             by_cases c34 : 0 ≤ x61_3
             ·rw [if_pos c34] at H
              have c34b0 : decide (0 ≤ x61_3) = true := decide_eq_true c34
              clear c34
              by_cases c35 : x61_3 < (l0_2.length : Int)
              ·rw [if_pos c35] at H
               have c35b0 : decide (x61_3 < (l0_2.length : Int)) = true := decide_eq_true c35
               clear c35
               replace H := Option.bind_eq_some_iff.mp H
               obtain ⟨t201, A360, H⟩ := H
               try (set_option simprocs false in dsimp only at H)
               have A36 := Aside0.mk A360
               clear A360
               by_cases c37 : t201 = true
               ·subst c37
                rw [if_pos rfl] at H
                have H' := Aside0.mk H
                clear H
                have p199 : 0 ≤ (x61_3 : Int) := of_decide_eq_true (by first | (with_reducible assumption) | assumption)
                have q199 : x61_3 < (l0_2.length : Int) := of_decide_eq_true (by first | (with_reducible assumption) | assumption)
                obtain ⟨ad199, e199, hx199_0, hx199_1⟩ := at_T39 HR0_2.out x61_3 p199 q199
                cases e199
                replace hx199_0 := (HB.out.cell (World.block_lt_of_cell? w _ hx199_0)).trans hx199_0
                replace hx199_1 := (HB.out.cell (World.block_lt_of_cell? w _ hx199_1)).trans hx199_1
                replace p199 := eq_true p199
                replace q199 := eq_true q199
                go_wp2_with (first | ((with_reducible refine gqD (N := 10) rfl ?_); (try (refine gate_guard (by rfl) ?_; dsimp only)); refine GS.bx (N := 10) (cs := #[.int .i64 0, .int .i64 0]) (t := 39) ?_; intro gb200 hg w38 hbox hb; have q_ := GS.q7 (GS.kB BK191 hb) (GS.kH HB hb) (Aside0.mk hbox) (GS.kZ hg HB) (GS.kZ hg HB) (Aside0.mk ((by rw [hg]; exact Nat.ne_of_lt (blk_lt (GS.bqX BK191.out)) : gb191 ≠ gb200))) (Aside0.mk ((by rw [hg]; exact Nat.ne_of_gt (blk_lt (GS.bqX BK191.out)) : gb200 ≠ gb191))); clear BK191 HB; obtain ⟨BK191, HB, BK200, GW200, GE200, NB191_200, NB200_191⟩ := q_; clear hb hbox hg; have hnb39 := NB200_191.out; have hnc39 := NB191_200.out; obtain ⟨hcz40_0, hcz40_1, hfz40_0, hfz40_1⟩ := GS.c2 BK200.out) | (go_at_call 53; (with_reducible refine (slices_Contains_int_int.calls k3 _ _ l1 ((rd_T39 l0_2 x61_3).f0) true _ ?side1 ?side2 A36.out).mono ?_); (case side1 => exact Kd.C_below HR1.out (GS.lB HB.out)); (case side2 => exact HC1.out); rintro e w' ⟨rfl, ⟨nd, rfl⟩⟩; (try first | exact ⟨rfl, _, World.drewN_drewN _ _ _⟩ | exact ⟨rfl, _, Eq.trans (World.drewN_drewN _ _ _) (congrArg (World.drewN _) (Nat.add_assoc _ _ _))⟩)))
                repeat (go_quiet (first | ((with_reducible refine gqD (N := 10) rfl ?_); (try (refine gate_guard (by rfl) ?_; dsimp only)); refine GS.bx (N := 10) (cs := #[.int .i64 0, .int .i64 0]) (t := 39) ?_; intro gb200 hg w38 hbox hb; have q_ := GS.q7 (GS.kB BK191 hb) (GS.kH HB hb) (Aside0.mk hbox) (GS.kZ hg HB) (GS.kZ hg HB) (Aside0.mk ((by rw [hg]; exact Nat.ne_of_lt (blk_lt (GS.bqX BK191.out)) : gb191 ≠ gb200))) (Aside0.mk ((by rw [hg]; exact Nat.ne_of_gt (blk_lt (GS.bqX BK191.out)) : gb200 ≠ gb191))); clear BK191 HB; obtain ⟨BK191, HB, BK200, GW200, GE200, NB191_200, NB200_191⟩ := q_; clear hb hbox hg; have hnb39 := NB200_191.out; have hnc39 := NB191_200.out; obtain ⟨hcz40_0, hcz40_1, hfz40_0, hfz40_1⟩ := GS.c2 BK200.out) | (go_at_call 53; (with_reducible refine (slices_Contains_int_int.calls k3 _ _ l1 ((rd_T39 l0_2 x61_3).f0) true _ ?side1 ?side2 A36.out).mono ?_); (case side1 => exact Kd.C_below HR1.out (GS.lB HB.out)); (case side2 => exact HC1.out); rintro e w' ⟨rfl, ⟨nd, rfl⟩⟩; (try first | exact ⟨rfl, _, World.drewN_drewN _ _ _⟩ | exact ⟨rfl, _, Eq.trans (World.drewN_drewN _ _ _) (congrArg (World.drewN _) (Nat.add_assoc _ _ _))⟩))); try go_wp2_with (first | ((with_reducible refine gqD (N := 10) rfl ?_); (try (refine gate_guard (by rfl) ?_; dsimp only)); refine GS.bx (N := 10) (cs := #[.int .i64 0, .int .i64 0]) (t := 39) ?_; intro gb200 hg w38 hbox hb; have q_ := GS.q7 (GS.kB BK191 hb) (GS.kH HB hb) (Aside0.mk hbox) (GS.kZ hg HB) (GS.kZ hg HB) (Aside0.mk ((by rw [hg]; exact Nat.ne_of_lt (blk_lt (GS.bqX BK191.out)) : gb191 ≠ gb200))) (Aside0.mk ((by rw [hg]; exact Nat.ne_of_gt (blk_lt (GS.bqX BK191.out)) : gb200 ≠ gb191))); clear BK191 HB; obtain ⟨BK191, HB, BK200, GW200, GE200, NB191_200, NB200_191⟩ := q_; clear hb hbox hg; have hnb39 := NB200_191.out; have hnc39 := NB191_200.out; obtain ⟨hcz40_0, hcz40_1, hfz40_0, hfz40_1⟩ := GS.c2 BK200.out) | (go_at_call 53; (with_reducible refine (slices_Contains_int_int.calls k3 _ _ l1 ((rd_T39 l0_2 x61_3).f0) true _ ?side1 ?side2 A36.out).mono ?_); (case side1 => exact Kd.C_below HR1.out (GS.lB HB.out)); (case side2 => exact HC1.out); rintro e w' ⟨rfl, ⟨nd, rfl⟩⟩; (try first | exact ⟨rfl, _, World.drewN_drewN _ _ _⟩ | exact ⟨rfl, _, Eq.trans (World.drewN_drewN _ _ _) (congrArg (World.drewN _) (Nat.add_assoc _ _ _))⟩))))
                go_roundg k3
                case measure => have := HK1.out; have := HJ22.out; have := HK3.out; omega
                case rel => exact ⟨(wrap64 (x61_3 + 1)), (by first | rfl | (simp; done) | (simp [*]; done)), H', ⟨by have := HK1.out; have := HJ22.out; have := HK3.out; omega⟩, ⟨GS.bqX BK191.out⟩, ⟨GS.lB HB.out⟩⟩
               ·replace c37 := Bool.eq_false_iff.mpr c37
                subst c37
                rw [if_neg (show ¬ (false = true) by decide)] at H
                obtain rfl := Option.some.inj H
                have p199 : 0 ≤ (x61_3 : Int) := of_decide_eq_true (by first | (with_reducible assumption) | assumption)
                have q199 : x61_3 < (l0_2.length : Int) := of_decide_eq_true (by first | (with_reducible assumption) | assumption)
                obtain ⟨ad199, e199, hx199_0, hx199_1⟩ := at_T39 HR0_2.out x61_3 p199 q199
                cases e199
                replace hx199_0 := (HB.out.cell (World.block_lt_of_cell? w _ hx199_0)).trans hx199_0
                replace hx199_1 := (HB.out.cell (World.block_lt_of_cell? w _ hx199_1)).trans hx199_1
                replace p199 := eq_true p199
                replace q199 := eq_true q199
                go_wp2_with (first | ((with_reducible refine gqD (N := 10) rfl ?_); (try (refine gate_guard (by rfl) ?_; dsimp only)); refine GS.bx (N := 10) (cs := #[.int .i64 0, .int .i64 0]) (t := 39) ?_; intro gb200 hg w41 hbox hb; have q_ := GS.q7 (GS.kB BK191 hb) (GS.kH HB hb) (Aside0.mk hbox) (GS.kZ hg HB) (GS.kZ hg HB) (Aside0.mk ((by rw [hg]; exact Nat.ne_of_lt (blk_lt (GS.bqX BK191.out)) : gb191 ≠ gb200))) (Aside0.mk ((by rw [hg]; exact Nat.ne_of_gt (blk_lt (GS.bqX BK191.out)) : gb200 ≠ gb191))); clear BK191 HB; obtain ⟨BK191, HB, BK200, GW200, GE200, NB191_200, NB200_191⟩ := q_; clear hb hbox hg; have hnb42 := NB200_191.out; have hnc42 := NB191_200.out; obtain ⟨hcz43_0, hcz43_1, hfz43_0, hfz43_1⟩ := GS.c2 BK200.out) | (go_at_call 53; (with_reducible refine (slices_Contains_int_int.calls k3 _ _ l1 ((rd_T39 l0_2 x61_3).f0) false _ ?side1 ?side2 A36.out).mono ?_); (case side1 => exact Kd.C_below HR1.out (GS.lB HB.out)); (case side2 => exact HC1.out); rintro e w' ⟨rfl, ⟨nd, rfl⟩⟩; (try first | exact ⟨rfl, _, World.drewN_drewN _ _ _⟩ | exact ⟨rfl, _, Eq.trans (World.drewN_drewN _ _ _) (congrArg (World.drewN _) (Nat.add_assoc _ _ _))⟩)))
                repeat (go_quiet (first | ((with_reducible refine gqD (N := 10) rfl ?_); (try (refine gate_guard (by rfl) ?_; dsimp only)); refine GS.bx (N := 10) (cs := #[.int .i64 0, .int .i64 0]) (t := 39) ?_; intro gb200 hg w41 hbox hb; have q_ := GS.q7 (GS.kB BK191 hb) (GS.kH HB hb) (Aside0.mk hbox) (GS.kZ hg HB) (GS.kZ hg HB) (Aside0.mk ((by rw [hg]; exact Nat.ne_of_lt (blk_lt (GS.bqX BK191.out)) : gb191 ≠ gb200))) (Aside0.mk ((by rw [hg]; exact Nat.ne_of_gt (blk_lt (GS.bqX BK191.out)) : gb200 ≠ gb191))); clear BK191 HB; obtain ⟨BK191, HB, BK200, GW200, GE200, NB191_200, NB200_191⟩ := q_; clear hb hbox hg; have hnb42 := NB200_191.out; have hnc42 := NB191_200.out; obtain ⟨hcz43_0, hcz43_1, hfz43_0, hfz43_1⟩ := GS.c2 BK200.out) | (go_at_call 53; (with_reducible refine (slices_Contains_int_int.calls k3 _ _ l1 ((rd_T39 l0_2 x61_3).f0) false _ ?side1 ?side2 A36.out).mono ?_); (case side1 => exact Kd.C_below HR1.out (GS.lB HB.out)); (case side2 => exact HC1.out); rintro e w' ⟨rfl, ⟨nd, rfl⟩⟩; (try first | exact ⟨rfl, _, World.drewN_drewN _ _ _⟩ | exact ⟨rfl, _, Eq.trans (World.drewN_drewN _ _ _) (congrArg (World.drewN _) (Nat.add_assoc _ _ _))⟩))); try go_wp2_with (first | ((with_reducible refine gqD (N := 10) rfl ?_); (try (refine gate_guard (by rfl) ?_; dsimp only)); refine GS.bx (N := 10) (cs := #[.int .i64 0, .int .i64 0]) (t := 39) ?_; intro gb200 hg w41 hbox hb; have q_ := GS.q7 (GS.kB BK191 hb) (GS.kH HB hb) (Aside0.mk hbox) (GS.kZ hg HB) (GS.kZ hg HB) (Aside0.mk ((by rw [hg]; exact Nat.ne_of_lt (blk_lt (GS.bqX BK191.out)) : gb191 ≠ gb200))) (Aside0.mk ((by rw [hg]; exact Nat.ne_of_gt (blk_lt (GS.bqX BK191.out)) : gb200 ≠ gb191))); clear BK191 HB; obtain ⟨BK191, HB, BK200, GW200, GE200, NB191_200, NB200_191⟩ := q_; clear hb hbox hg; have hnb42 := NB200_191.out; have hnc42 := NB191_200.out; obtain ⟨hcz43_0, hcz43_1, hfz43_0, hfz43_1⟩ := GS.c2 BK200.out) | (go_at_call 53; (with_reducible refine (slices_Contains_int_int.calls k3 _ _ l1 ((rd_T39 l0_2 x61_3).f0) false _ ?side1 ?side2 A36.out).mono ?_); (case side1 => exact Kd.C_below HR1.out (GS.lB HB.out)); (case side2 => exact HC1.out); rintro e w' ⟨rfl, ⟨nd, rfl⟩⟩; (try first | exact ⟨rfl, _, World.drewN_drewN _ _ _⟩ | exact ⟨rfl, _, Eq.trans (World.drewN_drewN _ _ _) (congrArg (World.drewN _) (Nat.add_assoc _ _ _))⟩))))
                go_ret
                exact ⟨by first | rfl | (simp [errW_none, errW_some] <;> rfl) | (simp [*, errW_none, errW_some] <;> rfl), GS.lB HB.out⟩
              ·rw [if_neg c35] at H
               exact absurd H (by simp)
             ·rw [if_neg c34] at H
              exact absurd H (by simp)
            ·rw [if_neg c33] at H
             have c33b0 : decide (x61_3 < (l0_2.length : Int)) = false := decide_eq_false c33
             clear c33
             obtain rfl := Option.some.inj H
             go_wp2
             repeat (go_quiet (fail); try go_wp2)
             go_ret
             exact ⟨by first | rfl | (simp [errW_none, errW_some] <;> rfl) | (simp [*, errW_none, errW_some] <;> rfl), GS.lB HB.out⟩
 ·rw [if_neg c4] at H
  have c4b0 : (t192 == 0) = false := beq_eq_false_iff_ne.mpr c4
  have c4b1 : (t192 != 0) = true := bne_iff_ne.mpr c4
  obtain rfl := Option.some.inj H
  go_enter Try.func21, Try.ntmps21
  go_wp2_with (first | ((with_reducible refine gqD (N := 2) rfl ?_); (try (refine gate_guard (by rfl) ?_; dsimp only)); refine GS.bx (N := 2) (cs := #[.string a0_0, .int .i64 a0_1, .slice A0_2 l0_2.length c0_2, .int .i64 a0_3]) (t := 24) ?_; intro gb191 hg w44 hbox hb; have q_ := GS.q4 (GS.kH HB hb) (Aside0.mk hbox) (GS.kZ hg HB) (GS.kZ hg HB); clear HB; obtain ⟨HB, BK191, GW191, GE191⟩ := q_; clear hb hbox hg; obtain ⟨hcz45_0, hcz45_1, hcz45_2, hcz45_3, hfz45_0, hfz45_1, hfz45_2, hfz45_3⟩ := GS.c4 BK191.out) | (go_at_call 51; (with_reducible refine (lying_lies.calls k a0_0 a0_1 _ _ l0_2 a0_3 t192 _ ?side1 ?side2 A3.out).mono ?_); (case side1 => exact GS.rC (Kd.C_below HR0_2.out HB.out)); (case side2 => exact HC0_2.out); rintro e w46 ⟨rfl, hb⟩; have q_ := GS.q2 (GS.kB BK191 hb) (GS.kH HB hb); clear BK191 HB; obtain ⟨BK191, HB⟩ := q_; (try clear hb); (try clear hb2); (try clear hk); (try clear hi)))
  repeat (go_quiet (first | ((with_reducible refine gqD (N := 2) rfl ?_); (try (refine gate_guard (by rfl) ?_; dsimp only)); refine GS.bx (N := 2) (cs := #[.string a0_0, .int .i64 a0_1, .slice A0_2 l0_2.length c0_2, .int .i64 a0_3]) (t := 24) ?_; intro gb191 hg w44 hbox hb; have q_ := GS.q4 (GS.kH HB hb) (Aside0.mk hbox) (GS.kZ hg HB) (GS.kZ hg HB); clear HB; obtain ⟨HB, BK191, GW191, GE191⟩ := q_; clear hb hbox hg; obtain ⟨hcz45_0, hcz45_1, hcz45_2, hcz45_3, hfz45_0, hfz45_1, hfz45_2, hfz45_3⟩ := GS.c4 BK191.out) | (go_at_call 51; (with_reducible refine (lying_lies.calls k a0_0 a0_1 _ _ l0_2 a0_3 t192 _ ?side1 ?side2 A3.out).mono ?_); (case side1 => exact GS.rC (Kd.C_below HR0_2.out HB.out)); (case side2 => exact HC0_2.out); rintro e w46 ⟨rfl, hb⟩; have q_ := GS.q2 (GS.kB BK191 hb) (GS.kH HB hb); clear BK191 HB; obtain ⟨BK191, HB⟩ := q_; (try clear hb); (try clear hb2); (try clear hk); (try clear hi))); try go_wp2_with (first | ((with_reducible refine gqD (N := 2) rfl ?_); (try (refine gate_guard (by rfl) ?_; dsimp only)); refine GS.bx (N := 2) (cs := #[.string a0_0, .int .i64 a0_1, .slice A0_2 l0_2.length c0_2, .int .i64 a0_3]) (t := 24) ?_; intro gb191 hg w44 hbox hb; have q_ := GS.q4 (GS.kH HB hb) (Aside0.mk hbox) (GS.kZ hg HB) (GS.kZ hg HB); clear HB; obtain ⟨HB, BK191, GW191, GE191⟩ := q_; clear hb hbox hg; obtain ⟨hcz45_0, hcz45_1, hcz45_2, hcz45_3, hfz45_0, hfz45_1, hfz45_2, hfz45_3⟩ := GS.c4 BK191.out) | (go_at_call 51; (with_reducible refine (lying_lies.calls k a0_0 a0_1 _ _ l0_2 a0_3 t192 _ ?side1 ?side2 A3.out).mono ?_); (case side1 => exact GS.rC (Kd.C_below HR0_2.out HB.out)); (case side2 => exact HC0_2.out); rintro e w46 ⟨rfl, hb⟩; have q_ := GS.q2 (GS.kB BK191 hb) (GS.kH HB hb); clear BK191 HB; obtain ⟨BK191, HB⟩ := q_; (try clear hb); (try clear hb2); (try clear hk); (try clear hi))))
  go_ret
  exact ⟨by first | rfl | (simp [errW_none, errW_some] <;> rfl) | (simp [*, errW_none, errW_some] <;> rfl), GS.lB HB.out⟩
def lying_Between.f (k : Nat) (a0_0 : ByteArray) (a0_1 : Int) (l0_2 : List (S39)) (a0_3 : Int) (l1 : List Int) (l2 : List Int) : Option (Int × Int × Int) := (lying_Check.f k a0_0 a0_1 l0_2 a0_3 l1).bind fun t204 => (if t204 = 0 then ((seg56.f l2).bind fun t205 => (if t205 = 0 then ((betw57.f a0_0 a0_1 l0_2 a0_3 l1 l2).bind fun bt206 => (some (bt206.1, bt206.2, 0))) else (some (0, 0, t205)))) else (some (0, 0, t204)))
set_option maxHeartbeats 8000000 in
set_option maxRecDepth 100000 in
theorem lying_Between.calls (k : Nat) (a0_0 : ByteArray) (a0_1 : Int) (A0_2 : Option Addr) (c0_2 : Nat) (l0_2 : List (S39)) (a0_3 : Int) (A1 : Option Addr) (c1 : Nat) (l1 : List Int) (A2 : Option Addr) (c2 : Nat) (l2 : List Int) (r1 : Int) (r2 : Int) (r3 : Int) (w : World) (hr0_2 : Kd.C k39 w A0_2 l0_2.length l0_2) (hc0_2 : l0_2.length ≤ c0_2) (hr1 : Kd.C (Kd.int .i64) w A1 l1.length l1) (hc1 : l1.length ≤ c1) (hr2 : Kd.C (Kd.int .i64) w A2 l2.length l2) (hc2 : l2.length ≤ c2) (h : lying_Between.f k a0_0 a0_1 l0_2 a0_3 l1 l2 = some (r1, r2, r3)) :
  Calls Try.prog 24 #[.agg #[.string a0_0, .int .i64 a0_1, .slice A0_2 l0_2.length c0_2, .int .i64 a0_3], .slice A1 l1.length c1, .slice A2 l2.length c2] w fun e w' => e = .returned (.tuple #[.agg #[.int .i64 r1, .int .i64 r2], .int .i64 r3]) ∧ Below w.heap.size w w' := by
 have hu24 := Try.underlying24
 have hu28 := Try.underlying28
 have HR0_2 := Aside0.mk hr0_2
 have HC0_2 := Aside0.mk hc0_2
 clear hr0_2 hc0_2
 have HR1 := Aside0.mk hr1
 have HC1 := Aside0.mk hc1
 clear hr1 hc1
 have HR2 := Aside0.mk hr2
 have HC2 := Aside0.mk hc2
 clear hr2 hc2
 have HB := Aside0.mk (Below.refl w.heap.size w)
 have H : ((lying_Check.f k a0_0 a0_1 l0_2 a0_3 l1).bind fun t204 => (if t204 = 0 then ((seg56.f l2).bind fun t205 => (if t205 = 0 then ((betw57.f a0_0 a0_1 l0_2 a0_3 l1 l2).bind fun bt206 => (some (bt206.1, bt206.2, 0))) else (some (0, 0, t205)))) else (some (0, 0, t204)))) = some (r1, r2, r3) := h
 clear h
 replace H := Option.bind_eq_some_iff.mp H
 obtain ⟨t204, A40, H⟩ := H
 try (set_option simprocs false in dsimp only at H)
 have A4 := Aside0.mk A40
 clear A40
 by_cases c5 : t204 = 0
 ·rw [if_pos c5] at H
  have c5b0 : (t204 == 0) = true := beq_iff_eq.mpr c5
  have c5b1 : (t204 != 0) = false := bne_eq_false_iff_eq.mpr c5
  clear c5
  replace H := Option.bind_eq_some_iff.mp H
  obtain ⟨t205, A60, H⟩ := H
  try (set_option simprocs false in dsimp only at H)
  have A6 := Aside0.mk A60
  clear A60
  by_cases c7 : t205 = 0
  ·rw [if_pos c7] at H
   have c7b0 : (t205 == 0) = true := beq_iff_eq.mpr c7
   have c7b1 : (t205 != 0) = false := bne_eq_false_iff_eq.mpr c7
   clear c7
   replace H := Option.bind_eq_some_iff.mp H
   obtain ⟨⟨t206, t207⟩, A80, H⟩ := H
   replace H : (some (t206, t207, 0)) = some (r1, r2, r3) := H
   have A8 := Aside0.mk A80
   clear A80
   simp only [Option.some.injEq, Prod.mk.injEq] at H
   obtain ⟨rfl, rfl, rfl⟩ := H
   go_enter Try.func24, Try.ntmps24
   go_wp2_with (first | ((with_reducible refine gqD (N := 3) rfl ?_); refine GS.bx (N := 3) (cs := #[.string a0_0, .int .i64 a0_1, .slice A0_2 l0_2.length c0_2, .int .i64 a0_3]) (t := 24) ?_; intro gb202 hg w9 hbox hb; have q_ := GS.q4 (GS.kH HB hb) (Aside0.mk hbox) (GS.kZ hg HB) (GS.kZ hg HB); clear HB; obtain ⟨HB, BK202, GW202, GE202⟩ := q_; clear hb hbox hg) | ((with_reducible refine gqD (N := 6) rfl ?_); refine GS.bx (N := 6) (cs := #[.int .i64 0, .int .i64 0]) (t := 28) ?_; intro gb203 hg w10 hbox hb; have q_ := GS.q7 (GS.kB BK202 hb) (GS.kH HB hb) (Aside0.mk hbox) (GS.kZ hg HB) (GS.kZ hg HB) (Aside0.mk ((by rw [hg]; exact Nat.ne_of_lt (blk_lt (GS.bqX BK202.out)) : gb202 ≠ gb203))) (Aside0.mk ((by rw [hg]; exact Nat.ne_of_gt (blk_lt (GS.bqX BK202.out)) : gb203 ≠ gb202))); clear BK202 HB; obtain ⟨BK202, HB, BK203, GW203, GE203, NB202_203, NB203_202⟩ := q_; clear hb hbox hg; have hnb11 := NB202_203.out; have hnc11 := NB203_202.out; obtain ⟨hcz12_0, hcz12_1, hcz12_2, hcz12_3, hfz12_0, hfz12_1, hfz12_2, hfz12_3⟩ := GS.c4 BK202.out) | ((with_reducible refine gqC (f := 21) rfl ?_); refine GS.gL (some 12) Try.func21 #[.agg #[.string a0_0, .int .i64 a0_1, .slice A0_2 l0_2.length c0_2, .int .i64 a0_3], .slice A1 l1.length c1] ?_; (with_reducible refine (lying_Check.calls k a0_0 a0_1 _ _ l0_2 a0_3 _ _ l1 t204 _ ?side1 ?side2 ?side3 ?side4 A4.out).mono ?_); (case side1 => exact GS.rC (Kd.C_below HR0_2.out HB.out)); (case side2 => exact HC0_2.out); (case side3 => exact GS.rC (Kd.C_below HR1.out HB.out)); (case side4 => exact HC1.out); rintro e w13 ⟨rfl, hb⟩; refine ⟨_, rfl, ?_⟩; have q_ := GS.q3 (GS.kB BK202 hb) (GS.kB BK203 hb) (GS.kH HB hb); clear BK202 BK203 HB; obtain ⟨BK202, BK203, HB⟩ := q_; (try clear hb); (try clear hb2); (try clear hk); (try clear hi)) | ((with_reducible refine gqC (f := 56) rfl ?_); refine GS.gL (some 18) Try.func56 #[.slice A2 l2.length c2] ?_; (with_reducible refine (seg56.calls _ _ l2 t205 _ ?side1 ?side2 A6.out).mono ?_); (case side1 => exact GS.rC (Kd.C_below HR2.out HB.out)); (case side2 => exact HC2.out); rintro e w14 ⟨rfl, hb⟩; refine ⟨_, rfl, ?_⟩; have q_ := GS.q3 (GS.kB BK202 hb) (GS.kB BK203 hb) (GS.kH HB hb); clear BK202 BK203 HB; obtain ⟨BK202, BK203, HB⟩ := q_; (try clear hb); (try clear hb2); (try clear hk); (try clear hi); obtain ⟨hcz15_0, hcz15_1, hcz15_2, hcz15_3, hfz15_0, hfz15_1, hfz15_2, hfz15_3⟩ := GS.c4 BK202.out) | ((with_reducible refine gqC (f := 57) rfl ?_); refine GS.gL (some 26) Try.func57 #[.agg #[.string a0_0, .int .i64 a0_1, .slice A0_2 l0_2.length c0_2, .int .i64 a0_3], .slice A1 l1.length c1, .slice A2 l2.length c2] ?_; (with_reducible refine (betw57.calls a0_0 a0_1 _ _ l0_2 a0_3 _ _ l1 _ _ l2 t206 t207 _ ?side1 ?side2 ?side3 ?side4 ?side5 ?side6 A8.out).mono ?_); (case side1 => exact GS.rC (Kd.C_below HR0_2.out HB.out)); (case side2 => exact HC0_2.out); (case side3 => exact GS.rC (Kd.C_below HR1.out HB.out)); (case side4 => exact HC1.out); (case side5 => exact GS.rC (Kd.C_below HR2.out HB.out)); (case side6 => exact HC2.out); rintro e w16 ⟨rfl, hb⟩; refine ⟨_, rfl, ?_⟩; have q_ := GS.q3 (GS.kB BK202 hb) (GS.kB BK203 hb) (GS.kH HB hb); clear BK202 BK203 HB; obtain ⟨BK202, BK203, HB⟩ := q_; (try clear hb); (try clear hb2); (try clear hk); (try clear hi); obtain ⟨hcz17_0, hcz17_1, hfz17_0, hfz17_1⟩ := GS.c2 BK203.out))
   refine bodyPost_ret (results_ct rfl _ _ gb203 28 #[.int .i64 t206, .int .i64 t207] (0, 0) _ rfl (GS.bqZ BK203.out) Try.underlying28 rfl (by kernel_rfl)) rfl ?_
   exact ⟨by first | rfl | (simp [errW_none, errW_some] <;> rfl) | (simp [*, errW_none, errW_some] <;> rfl), GS.lB HB.out⟩
  ·rw [if_neg c7] at H
   have c7b0 : (t205 == 0) = false := beq_eq_false_iff_ne.mpr c7
   have c7b1 : (t205 != 0) = true := bne_iff_ne.mpr c7
   simp only [Option.some.injEq, Prod.mk.injEq] at H
   obtain ⟨rfl, rfl, rfl⟩ := H
   go_enter Try.func24, Try.ntmps24
   go_wp2_with (first | ((with_reducible refine gqD (N := 3) rfl ?_); refine GS.bx (N := 3) (cs := #[.string a0_0, .int .i64 a0_1, .slice A0_2 l0_2.length c0_2, .int .i64 a0_3]) (t := 24) ?_; intro gb202 hg w18 hbox hb; have q_ := GS.q4 (GS.kH HB hb) (Aside0.mk hbox) (GS.kZ hg HB) (GS.kZ hg HB); clear HB; obtain ⟨HB, BK202, GW202, GE202⟩ := q_; clear hb hbox hg) | ((with_reducible refine gqD (N := 6) rfl ?_); refine GS.bx (N := 6) (cs := #[.int .i64 0, .int .i64 0]) (t := 28) ?_; intro gb203 hg w19 hbox hb; have q_ := GS.q7 (GS.kB BK202 hb) (GS.kH HB hb) (Aside0.mk hbox) (GS.kZ hg HB) (GS.kZ hg HB) (Aside0.mk ((by rw [hg]; exact Nat.ne_of_lt (blk_lt (GS.bqX BK202.out)) : gb202 ≠ gb203))) (Aside0.mk ((by rw [hg]; exact Nat.ne_of_gt (blk_lt (GS.bqX BK202.out)) : gb203 ≠ gb202))); clear BK202 HB; obtain ⟨BK202, HB, BK203, GW203, GE203, NB202_203, NB203_202⟩ := q_; clear hb hbox hg; have hnb20 := NB202_203.out; have hnc20 := NB203_202.out; obtain ⟨hcz21_0, hcz21_1, hcz21_2, hcz21_3, hfz21_0, hfz21_1, hfz21_2, hfz21_3⟩ := GS.c4 BK202.out) | ((with_reducible refine gqC (f := 21) rfl ?_); refine GS.gL (some 12) Try.func21 #[.agg #[.string a0_0, .int .i64 a0_1, .slice A0_2 l0_2.length c0_2, .int .i64 a0_3], .slice A1 l1.length c1] ?_; (with_reducible refine (lying_Check.calls k a0_0 a0_1 _ _ l0_2 a0_3 _ _ l1 t204 _ ?side1 ?side2 ?side3 ?side4 A4.out).mono ?_); (case side1 => exact GS.rC (Kd.C_below HR0_2.out HB.out)); (case side2 => exact HC0_2.out); (case side3 => exact GS.rC (Kd.C_below HR1.out HB.out)); (case side4 => exact HC1.out); rintro e w22 ⟨rfl, hb⟩; refine ⟨_, rfl, ?_⟩; have q_ := GS.q3 (GS.kB BK202 hb) (GS.kB BK203 hb) (GS.kH HB hb); clear BK202 BK203 HB; obtain ⟨BK202, BK203, HB⟩ := q_; (try clear hb); (try clear hb2); (try clear hk); (try clear hi)) | ((with_reducible refine gqC (f := 56) rfl ?_); refine GS.gL (some 18) Try.func56 #[.slice A2 l2.length c2] ?_; (with_reducible refine (seg56.calls _ _ l2 t205 _ ?side1 ?side2 A6.out).mono ?_); (case side1 => exact GS.rC (Kd.C_below HR2.out HB.out)); (case side2 => exact HC2.out); rintro e w23 ⟨rfl, hb⟩; refine ⟨_, rfl, ?_⟩; have q_ := GS.q3 (GS.kB BK202 hb) (GS.kB BK203 hb) (GS.kH HB hb); clear BK202 BK203 HB; obtain ⟨BK202, BK203, HB⟩ := q_; (try clear hb); (try clear hb2); (try clear hk); (try clear hi); obtain ⟨hcz24_0, hcz24_1, hfz24_0, hfz24_1⟩ := GS.c2 BK203.out))
   refine bodyPost_ret (results_ct rfl _ _ gb203 28 #[.int .i64 0, .int .i64 0] (0, 0) _ rfl (GS.bqZ BK203.out) Try.underlying28 rfl (by kernel_rfl)) rfl ?_
   exact ⟨by first | rfl | (simp [errW_none, errW_some] <;> rfl) | (simp [*, errW_none, errW_some] <;> rfl), GS.lB HB.out⟩
 ·rw [if_neg c5] at H
  have c5b0 : (t204 == 0) = false := beq_eq_false_iff_ne.mpr c5
  have c5b1 : (t204 != 0) = true := bne_iff_ne.mpr c5
  simp only [Option.some.injEq, Prod.mk.injEq] at H
  obtain ⟨rfl, rfl, rfl⟩ := H
  go_enter Try.func24, Try.ntmps24
  go_wp2_with (first | ((with_reducible refine gqD (N := 3) rfl ?_); refine GS.bx (N := 3) (cs := #[.string a0_0, .int .i64 a0_1, .slice A0_2 l0_2.length c0_2, .int .i64 a0_3]) (t := 24) ?_; intro gb202 hg w25 hbox hb; have q_ := GS.q4 (GS.kH HB hb) (Aside0.mk hbox) (GS.kZ hg HB) (GS.kZ hg HB); clear HB; obtain ⟨HB, BK202, GW202, GE202⟩ := q_; clear hb hbox hg) | ((with_reducible refine gqD (N := 6) rfl ?_); refine GS.bx (N := 6) (cs := #[.int .i64 0, .int .i64 0]) (t := 28) ?_; intro gb203 hg w26 hbox hb; have q_ := GS.q7 (GS.kB BK202 hb) (GS.kH HB hb) (Aside0.mk hbox) (GS.kZ hg HB) (GS.kZ hg HB) (Aside0.mk ((by rw [hg]; exact Nat.ne_of_lt (blk_lt (GS.bqX BK202.out)) : gb202 ≠ gb203))) (Aside0.mk ((by rw [hg]; exact Nat.ne_of_gt (blk_lt (GS.bqX BK202.out)) : gb203 ≠ gb202))); clear BK202 HB; obtain ⟨BK202, HB, BK203, GW203, GE203, NB202_203, NB203_202⟩ := q_; clear hb hbox hg; have hnb27 := NB202_203.out; have hnc27 := NB203_202.out; obtain ⟨hcz28_0, hcz28_1, hcz28_2, hcz28_3, hfz28_0, hfz28_1, hfz28_2, hfz28_3⟩ := GS.c4 BK202.out) | ((with_reducible refine gqC (f := 21) rfl ?_); refine GS.gL (some 12) Try.func21 #[.agg #[.string a0_0, .int .i64 a0_1, .slice A0_2 l0_2.length c0_2, .int .i64 a0_3], .slice A1 l1.length c1] ?_; (with_reducible refine (lying_Check.calls k a0_0 a0_1 _ _ l0_2 a0_3 _ _ l1 t204 _ ?side1 ?side2 ?side3 ?side4 A4.out).mono ?_); (case side1 => exact GS.rC (Kd.C_below HR0_2.out HB.out)); (case side2 => exact HC0_2.out); (case side3 => exact GS.rC (Kd.C_below HR1.out HB.out)); (case side4 => exact HC1.out); rintro e w29 ⟨rfl, hb⟩; refine ⟨_, rfl, ?_⟩; have q_ := GS.q3 (GS.kB BK202 hb) (GS.kB BK203 hb) (GS.kH HB hb); clear BK202 BK203 HB; obtain ⟨BK202, BK203, HB⟩ := q_; (try clear hb); (try clear hb2); (try clear hk); (try clear hi); obtain ⟨hcz30_0, hcz30_1, hfz30_0, hfz30_1⟩ := GS.c2 BK203.out))
  refine bodyPost_ret (results_ct rfl _ _ gb203 28 #[.int .i64 0, .int .i64 0] (0, 0) _ rfl (GS.bqZ BK203.out) Try.underlying28 rfl (by kernel_rfl)) rfl ?_
  exact ⟨by first | rfl | (simp [errW_none, errW_some] <;> rfl) | (simp [*, errW_none, errW_some] <;> rfl), GS.lB HB.out⟩
end Go.Proofs.Ytefjmcljkmppoaa.K
