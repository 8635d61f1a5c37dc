-- PRINTED by print.py (a twelfth state) out of the translation. Not trusted: Lean checks it.
import Derived.Test.YtefjmcljkmppoaaK0
import Derived.Test.YtefjmcljkmppoaaGShort
import Derived.Test.YtefjmcljkmppoaaK13
import Derived.Test.YtefjmcljkmppoaaK19a
namespace Go.Proofs.Ytefjmcljkmppoaa.K
open Go.RowKit Go.Proofs.YtefjmcljkmppoaaW.PrintWords Go.Proofs.YtefjmcljkmppoaaW.PrintLast Go.Proofs.YtefjmcljkmppoaaW.PrintMore
attribute [local go_sem] max2_int min2_int max_two min_two max_three min_three max_four min_four   -- for this text's walks alone
set_option linter.unusedVariables false
set_option linter.unusedSimpArgs false

/-! ### spileref11_Check: function 23 -/
mutual
def spileref11_Check.l0 : Nat → List Int → Int → ByteArray → Int → List (S39) → Int → Option (Int)
 | 0, _, _, _, _, _, _ => none
 | k + 1, x1, x6, x504000, x504001, x504002, x504003 => if x6 < (x1.length : Int) then (if 0 ≤ (wrap64 (x6 - 1)) then (if (wrap64 (x6 - 1)) < (x1.length : Int) then (if 0 ≤ x6 then (if (rd x1 (wrap64 (x6 - 1))) ≥ (rd x1 x6) then (some 5) else (spileref11_Check.l0 k x1 (wrap64 (x6 + 1)) x504000 x504001 x504002 x504003)) else (none)) else (none)) else (none)) else (if 0 < (x1.length : Int) then (if (rd x1 0) = 0 then (if 0 ≤ (wrap64 ((x1.length : Int) - 1)) then (if (wrap64 ((x1.length : Int) - 1)) < (x1.length : Int) then (if 0 ≤ (wrap64 ((x504002.length : Int) - 1)) then (if (wrap64 ((x504002.length : Int) - 1)) < (x504002.length : Int) then (spileref11_Check.j1 k x1 x504002 ((rd x1 (wrap64 ((x1.length : Int) - 1))) != ((rd_T39 x504002 (wrap64 ((x504002.length : Int) - 1))).f0))) else (none)) else (none)) else (none)) else (none)) else (spileref11_Check.j1 k x1 x504002 true)) else (none))
def spileref11_Check.j1 : Nat → List Int → List (S39) → Bool → Option (Int)
 | 0, _, _, _ => none
 | k + 1, x1, x7, x57 => if x57 = true then (some 5) else (spileref11_Check.l1 k x1 x7 0)
def spileref11_Check.l1 : Nat → List Int → List (S39) → Int → Option (Int)
 | 0, _, _, _ => none
 | k + 1, x1, x7, x8 => if x8 < (x7.length : Int) then (if 0 ≤ x8 then ((spileref11_has.f k x1 ((rd_T39 x7 x8).f0)).bind fun t511 => (if t511 = true then (spileref11_Check.l1 k x1 x7 (wrap64 (x8 + 1))) else (some 7))) else (none)) else (some 0)
end
def spileref11_Check.f (k : Nat) (a0_0 : ByteArray) (a0_1 : Int) (l0_2 : List (S39)) (a0_3 : Int) (l1 : List Int) : Option (Int) := (spileref11_is.f k a0_0 a0_1 l0_2 a0_3).bind fun t504 => (if t504 = 0 then (if (l1.length : Int) < 2 then (some 9) else (if (l1.length : Int) > 65 then (some 8) else (spileref11_Check.l0 k l1 1 a0_0 a0_1 l0_2 a0_3))) else (some t504))
theorem spileref11_Check.mono_l : ∀ k, (∀ y0 y1 y2 y3 y4 y5, LeO (spileref11_Check.l0 k y0 y1 y2 y3 y4 y5) (spileref11_Check.l0 (k + 1) y0 y1 y2 y3 y4 y5)) ∧ (∀ y0 y1 y2, LeO (spileref11_Check.j1 k y0 y1 y2) (spileref11_Check.j1 (k + 1) y0 y1 y2)) ∧ (∀ y0 y1 y2, LeO (spileref11_Check.l1 k y0 y1 y2) (spileref11_Check.l1 (k + 1) y0 y1 y2))
 | 0 => ⟨fun _ _ _ _ _ _ r h => by simp [spileref11_Check.l0] at h, fun _ _ _ r h => by simp [spileref11_Check.j1] at h, fun _ _ _ r h => by simp [spileref11_Check.l1] at h⟩
 | k + 1 => by
  obtain ⟨ih0, ih1, ih2⟩ := spileref11_Check.mono_l k
  refine ⟨?_, ?_, ?_⟩
  ·intro y0 y1 y2 y3 y4 y5
   unfold spileref11_Check.l0
   repeat' first
   | (with_reducible exact ih0 _ _ _ _ _ _)
   | (with_reducible exact ih1 _ _ _)
   | (with_reducible exact ih2 _ _ _)
   | (with_reducible exact spileref11_has.mono _ _ _)
   | (with_reducible exact spileref11_is.mono _ _ _ _ _)
   | (with_reducible exact LeO.refl _)
   | (with_reducible exact LeO.none _)
   | (with_reducible refine LeO.ite ?_ ?_)
   | (with_reducible refine LeO.bind ?_ (fun _ => ?_))
   | exact ih0 _ _ _ _ _ _
   | exact ih1 _ _ _
   | exact ih2 _ _ _
   | exact spileref11_has.mono _ _ _
   | exact spileref11_is.mono _ _ _ _ _
   | exact LeO.none _
   | refine LeO.ite ?_ ?_
   | refine LeO.bind ?_ (fun _ => ?_)
  ·intro y0 y1 y2
   unfold spileref11_Check.j1
   repeat' first
   | (with_reducible exact ih0 _ _ _ _ _ _)
   | (with_reducible exact ih1 _ _ _)
   | (with_reducible exact ih2 _ _ _)
   | (with_reducible exact spileref11_has.mono _ _ _)
   | (with_reducible exact spileref11_is.mono _ _ _ _ _)
   | (with_reducible exact LeO.refl _)
   | (with_reducible exact LeO.none _)
   | (with_reducible refine LeO.ite ?_ ?_)
   | (with_reducible refine LeO.bind ?_ (fun _ => ?_))
   | exact ih0 _ _ _ _ _ _
   | exact ih1 _ _ _
   | exact ih2 _ _ _
   | exact spileref11_has.mono _ _ _
   | exact spileref11_is.mono _ _ _ _ _
   | exact LeO.none _
   | refine LeO.ite ?_ ?_
   | refine LeO.bind ?_ (fun _ => ?_)
  ·intro y0 y1 y2
   unfold spileref11_Check.l1
   repeat' first
   | (with_reducible exact ih0 _ _ _ _ _ _)
   | (with_reducible exact ih1 _ _ _)
   | (with_reducible exact ih2 _ _ _)
   | (with_reducible exact spileref11_has.mono _ _ _)
   | (with_reducible exact spileref11_is.mono _ _ _ _ _)
   | (with_reducible exact LeO.refl _)
   | (with_reducible exact LeO.none _)
   | (with_reducible refine LeO.ite ?_ ?_)
   | (with_reducible refine LeO.bind ?_ (fun _ => ?_))
   | exact ih0 _ _ _ _ _ _
   | exact ih1 _ _ _
   | exact ih2 _ _ _
   | exact spileref11_has.mono _ _ _
   | exact spileref11_is.mono _ _ _ _ _
   | exact LeO.none _
   | refine LeO.ite ?_ ?_
   | refine LeO.bind ?_ (fun _ => ?_)
theorem spileref11_Check.mono : ∀ a0 a1 a2 a3 a4 k, LeO (spileref11_Check.f k a0 a1 a2 a3 a4) (spileref11_Check.f (k + 1) a0 a1 a2 a3 a4) := by
 intro a0 a1 a2 a3 a4 k
 obtain ⟨ih0, ih1, ih2⟩ := spileref11_Check.mono_l k
 unfold spileref11_Check.f
 repeat' first
   | (with_reducible exact ih0 _ _ _ _ _ _)
   | (with_reducible exact ih1 _ _ _)
   | (with_reducible exact ih2 _ _ _)
   | (with_reducible exact spileref11_has.mono _ _ _)
   | (with_reducible exact spileref11_is.mono _ _ _ _ _)
   | (with_reducible exact LeO.refl _)
   | (with_reducible exact LeO.none _)
   | (with_reducible refine LeO.ite ?_ ?_)
   | (with_reducible refine LeO.bind ?_ (fun _ => ?_))
   | exact ih0 _ _ _ _ _ _
   | exact ih1 _ _ _
   | exact ih2 _ _ _
   | exact spileref11_has.mono _ _ _
   | exact spileref11_is.mono _ _ _ _ _
   | exact LeO.none _
   | refine LeO.ite ?_ ?_
   | refine LeO.bind ?_ (fun _ => ?_)
set_option maxHeartbeats 8000000 in
set_option maxRecDepth 100000 in
theorem spileref11_Check.calls (k : Nat) (a0_0 : ByteArray) (a0_1 : Int) (A0_2 : Option Addr) (c0_2 : Nat) (l0_2 : List (S39)) (a0_3 : Int) (A1 : Option Addr) (c1 : Nat) (l1 : List Int) (r : Int) (w : World) (hr0_2 : Kd.C k39 w A0_2 l0_2.length l0_2) (hc0_2 : l0_2.length ≤ c0_2) (hr1 : Kd.C (Kd.int .i64) w A1 l1.length l1) (hc1 : l1.length ≤ c1) (h : spileref11_Check.f k a0_0 a0_1 l0_2 a0_3 l1 = some r) :
  Calls Try.prog 23 #[.agg #[.string a0_0, .int .i64 a0_1, .slice A0_2 l0_2.length c0_2, .int .i64 a0_3], .slice A1 l1.length c1] w fun e w' => e = .returned (.int .i64 r) ∧ Below w.heap.size w w' := by
 have hu24 := Try.underlying24
 have HR0_2 := Aside0.mk hr0_2
 have HC0_2 := Aside0.mk hc0_2
 clear hr0_2 hc0_2
 have HR1 := Aside0.mk hr1
 have HC1 := Aside0.mk hc1
 clear hr1 hc1
 have HB := Aside0.mk (Below.refl w.heap.size w)
 have H : ((spileref11_is.f k a0_0 a0_1 l0_2 a0_3).bind fun t504 => (if t504 = 0 then (if (l1.length : Int) < 2 then (some 9) else (if (l1.length : Int) > 65 then (some 8) else (spileref11_Check.l0 k l1 1 a0_0 a0_1 l0_2 a0_3))) else (some t504))) = some r := h
 clear h
 replace H := Option.bind_eq_some_iff.mp H
 obtain ⟨t504, A30, H⟩ := H
 replace H : (if t504 = 0 then (if (l1.length : Int) < 2 then (some 9) else (if (l1.length : Int) > 65 then (some 8) else (spileref11_Check.l0 k l1 1 a0_0 a0_1 l0_2 a0_3))) else (some t504)) = some r := H
 have A3 := Aside0.mk A30
 clear A30
 by_cases c4 : t504 = 0
 ·rw [if_pos c4] at H
  have c4b0 : (t504 == 0) = true := beq_iff_eq.mpr c4
  try simp only [beq_self_eq_true, Bool.not_true, Bool.false_or, Bool.true_and] at c4b0
  have c4b1 : (t504 != 0) = false := bne_eq_false_iff_eq.mpr c4
  clear c4
  by_cases c5 : (l1.length : Int) < 2
  ·rw [if_pos c5] at H
   have c5b0 : decide ((l1.length : Int) < 2) = true := decide_eq_true c5
   have c5b1 : decide (l1.length < 2) = true := decide_eq_true (by omega)
   clear c5
   obtain rfl := Option.some.inj H
   go_enter Try.func23, Try.ntmps23
   go_wp2_with (first | ((with_reducible refine gqD (N := 2) rfl ?_); (try (refine gate_guard (by rfl) ?_; dsimp only)); refine GS.bx (N := 2) (cs := #[.string a0_0, .int .i64 a0_1, .slice A0_2 l0_2.length c0_2, .int .i64 a0_3]) (t := 24) ?_; intro gb503 hg w6 hbox hb; have q_ := GS.q4 (GS.kH HB hb) (Aside0.mk hbox) (GS.kZ hg HB) (GS.kZ hg HB); clear HB; obtain ⟨HB, BK503, GW503, GE503⟩ := q_; clear hb hbox hg; obtain ⟨hcz7_0, hcz7_1, hcz7_2, hcz7_3, hfz7_0, hfz7_1, hfz7_2, hfz7_3⟩ := GS.c4 BK503.out) | (go_at_call 54; (with_reducible refine (spileref11_is.calls k a0_0 a0_1 _ _ l0_2 a0_3 t504 _ ?side1 ?side2 A3.out).mono ?_); (case side1 => exact GS.rC (Kd.C_below HR0_2.out HB.out)); (case side2 => exact HC0_2.out); rintro e w8 ⟨rfl, hb⟩; have q_ := GS.q2 (GS.kB BK503 hb) (GS.kH HB hb); clear BK503 HB; obtain ⟨BK503, HB⟩ := q_; (try clear hb); (try clear hb2); (try clear hk); (try clear hi)))
   repeat (go_quiet (first | ((with_reducible refine gqD (N := 2) rfl ?_); (try (refine gate_guard (by rfl) ?_; dsimp only)); refine GS.bx (N := 2) (cs := #[.string a0_0, .int .i64 a0_1, .slice A0_2 l0_2.length c0_2, .int .i64 a0_3]) (t := 24) ?_; intro gb503 hg w6 hbox hb; have q_ := GS.q4 (GS.kH HB hb) (Aside0.mk hbox) (GS.kZ hg HB) (GS.kZ hg HB); clear HB; obtain ⟨HB, BK503, GW503, GE503⟩ := q_; clear hb hbox hg; obtain ⟨hcz7_0, hcz7_1, hcz7_2, hcz7_3, hfz7_0, hfz7_1, hfz7_2, hfz7_3⟩ := GS.c4 BK503.out) | (go_at_call 54; (with_reducible refine (spileref11_is.calls k a0_0 a0_1 _ _ l0_2 a0_3 t504 _ ?side1 ?side2 A3.out).mono ?_); (case side1 => exact GS.rC (Kd.C_below HR0_2.out HB.out)); (case side2 => exact HC0_2.out); rintro e w8 ⟨rfl, hb⟩; have q_ := GS.q2 (GS.kB BK503 hb) (GS.kH HB hb); clear BK503 HB; obtain ⟨BK503, HB⟩ := q_; (try clear hb); (try clear hb2); (try clear hk); (try clear hi))); try go_wp2_with (first | ((with_reducible refine gqD (N := 2) rfl ?_); (try (refine gate_guard (by rfl) ?_; dsimp only)); refine GS.bx (N := 2) (cs := #[.string a0_0, .int .i64 a0_1, .slice A0_2 l0_2.length c0_2, .int .i64 a0_3]) (t := 24) ?_; intro gb503 hg w6 hbox hb; have q_ := GS.q4 (GS.kH HB hb) (Aside0.mk hbox) (GS.kZ hg HB) (GS.kZ hg HB); clear HB; obtain ⟨HB, BK503, GW503, GE503⟩ := q_; clear hb hbox hg; obtain ⟨hcz7_0, hcz7_1, hcz7_2, hcz7_3, hfz7_0, hfz7_1, hfz7_2, hfz7_3⟩ := GS.c4 BK503.out) | (go_at_call 54; (with_reducible refine (spileref11_is.calls k a0_0 a0_1 _ _ l0_2 a0_3 t504 _ ?side1 ?side2 A3.out).mono ?_); (case side1 => exact GS.rC (Kd.C_below HR0_2.out HB.out)); (case side2 => exact HC0_2.out); rintro e w8 ⟨rfl, hb⟩; have q_ := GS.q2 (GS.kB BK503 hb) (GS.kH HB hb); clear BK503 HB; obtain ⟨BK503, HB⟩ := q_; (try clear hb); (try clear hb2); (try clear hk); (try clear hi))))
   go_ret
   exact ⟨by first | rfl | (simp [errW_none, errW_some] <;> rfl) | (simp [*, errW_none, errW_some] <;> rfl), GS.lB HB.out⟩
  ·rw [if_neg c5] at H
   have c5b0 : decide ((l1.length : Int) < 2) = false := decide_eq_false c5
   have c5b1 : decide (l1.length < 2) = false := decide_eq_false (by omega)
   clear c5
   by_cases c9 : (l1.length : Int) > 65
   ·rw [if_pos c9] at H
    have c9b0 : decide (65 < (l1.length : Int)) = true := decide_eq_true c9
    have c9b1 : decide (65 < l1.length) = true := decide_eq_true (by omega)
    clear c9
    obtain rfl := Option.some.inj H
    go_enter Try.func23, Try.ntmps23
    go_wp2_with (first | ((with_reducible refine gqD (N := 2) rfl ?_); (try (refine gate_guard (by rfl) ?_; dsimp only)); refine GS.bx (N := 2) (cs := #[.string a0_0, .int .i64 a0_1, .slice A0_2 l0_2.length c0_2, .int .i64 a0_3]) (t := 24) ?_; intro gb503 hg w10 hbox hb; have q_ := GS.q4 (GS.kH HB hb) (Aside0.mk hbox) (GS.kZ hg HB) (GS.kZ hg HB); clear HB; obtain ⟨HB, BK503, GW503, GE503⟩ := q_; clear hb hbox hg; obtain ⟨hcz11_0, hcz11_1, hcz11_2, hcz11_3, hfz11_0, hfz11_1, hfz11_2, hfz11_3⟩ := GS.c4 BK503.out) | (go_at_call 54; (with_reducible refine (spileref11_is.calls k a0_0 a0_1 _ _ l0_2 a0_3 t504 _ ?side1 ?side2 A3.out).mono ?_); (case side1 => exact GS.rC (Kd.C_below HR0_2.out HB.out)); (case side2 => exact HC0_2.out); rintro e w12 ⟨rfl, hb⟩; have q_ := GS.q2 (GS.kB BK503 hb) (GS.kH HB hb); clear BK503 HB; obtain ⟨BK503, HB⟩ := q_; (try clear hb); (try clear hb2); (try clear hk); (try clear hi)))
    repeat (go_quiet (first | ((with_reducible refine gqD (N := 2) rfl ?_); (try (refine gate_guard (by rfl) ?_; dsimp only)); refine GS.bx (N := 2) (cs := #[.string a0_0, .int .i64 a0_1, .slice A0_2 l0_2.length c0_2, .int .i64 a0_3]) (t := 24) ?_; intro gb503 hg w10 hbox hb; have q_ := GS.q4 (GS.kH HB hb) (Aside0.mk hbox) (GS.kZ hg HB) (GS.kZ hg HB); clear HB; obtain ⟨HB, BK503, GW503, GE503⟩ := q_; clear hb hbox hg; obtain ⟨hcz11_0, hcz11_1, hcz11_2, hcz11_3, hfz11_0, hfz11_1, hfz11_2, hfz11_3⟩ := GS.c4 BK503.out) | (go_at_call 54; (with_reducible refine (spileref11_is.calls k a0_0 a0_1 _ _ l0_2 a0_3 t504 _ ?side1 ?side2 A3.out).mono ?_); (case side1 => exact GS.rC (Kd.C_below HR0_2.out HB.out)); (case side2 => exact HC0_2.out); rintro e w12 ⟨rfl, hb⟩; have q_ := GS.q2 (GS.kB BK503 hb) (GS.kH HB hb); clear BK503 HB; obtain ⟨BK503, HB⟩ := q_; (try clear hb); (try clear hb2); (try clear hk); (try clear hi))); try go_wp2_with (first | ((with_reducible refine gqD (N := 2) rfl ?_); (try (refine gate_guard (by rfl) ?_; dsimp only)); refine GS.bx (N := 2) (cs := #[.string a0_0, .int .i64 a0_1, .slice A0_2 l0_2.length c0_2, .int .i64 a0_3]) (t := 24) ?_; intro gb503 hg w10 hbox hb; have q_ := GS.q4 (GS.kH HB hb) (Aside0.mk hbox) (GS.kZ hg HB) (GS.kZ hg HB); clear HB; obtain ⟨HB, BK503, GW503, GE503⟩ := q_; clear hb hbox hg; obtain ⟨hcz11_0, hcz11_1, hcz11_2, hcz11_3, hfz11_0, hfz11_1, hfz11_2, hfz11_3⟩ := GS.c4 BK503.out) | (go_at_call 54; (with_reducible refine (spileref11_is.calls k a0_0 a0_1 _ _ l0_2 a0_3 t504 _ ?side1 ?side2 A3.out).mono ?_); (case side1 => exact GS.rC (Kd.C_below HR0_2.out HB.out)); (case side2 => exact HC0_2.out); rintro e w12 ⟨rfl, hb⟩; have q_ := GS.q2 (GS.kB BK503 hb) (GS.kH HB hb); clear BK503 HB; obtain ⟨BK503, HB⟩ := q_; (try clear hb); (try clear hb2); (try clear hk); (try clear hi))))
    go_ret
    exact ⟨by first | rfl | (simp [errW_none, errW_some] <;> rfl) | (simp [*, errW_none, errW_some] <;> rfl), GS.lB HB.out⟩
   ·rw [if_neg c9] at H
    have c9b0 : decide (65 < (l1.length : Int)) = false := decide_eq_false c9
    have c9b1 : decide (65 < l1.length) = false := decide_eq_false (by omega)
    clear c9
    have H' := Aside0.mk H
    clear H
    go_enter Try.func23, Try.ntmps23
    go_wp2_with (first | ((with_reducible refine gqD (N := 2) rfl ?_); (try (refine gate_guard (by rfl) ?_; dsimp only)); refine GS.bx (N := 2) (cs := #[.string a0_0, .int .i64 a0_1, .slice A0_2 l0_2.length c0_2, .int .i64 a0_3]) (t := 24) ?_; intro gb503 hg w13 hbox hb; have q_ := GS.q4 (GS.kH HB hb) (Aside0.mk hbox) (GS.kZ hg HB) (GS.kZ hg HB); clear HB; obtain ⟨HB, BK503, GW503, GE503⟩ := q_; clear hb hbox hg; obtain ⟨hcz14_0, hcz14_1, hcz14_2, hcz14_3, hfz14_0, hfz14_1, hfz14_2, hfz14_3⟩ := GS.c4 BK503.out) | (go_at_call 54; (with_reducible refine (spileref11_is.calls k a0_0 a0_1 _ _ l0_2 a0_3 t504 _ ?side1 ?side2 A3.out).mono ?_); (case side1 => exact GS.rC (Kd.C_below HR0_2.out HB.out)); (case side2 => exact HC0_2.out); rintro e w15 ⟨rfl, hb⟩; have q_ := GS.q2 (GS.kB BK503 hb) (GS.kH HB hb); clear BK503 HB; obtain ⟨BK503, HB⟩ := q_; (try clear hb); (try clear hb2); (try clear hk); (try clear hi)))
    repeat (go_quiet (first | ((with_reducible refine gqD (N := 2) rfl ?_); (try (refine gate_guard (by rfl) ?_; dsimp only)); refine GS.bx (N := 2) (cs := #[.string a0_0, .int .i64 a0_1, .slice A0_2 l0_2.length c0_2, .int .i64 a0_3]) (t := 24) ?_; intro gb503 hg w13 hbox hb; have q_ := GS.q4 (GS.kH HB hb) (Aside0.mk hbox) (GS.kZ hg HB) (GS.kZ hg HB); clear HB; obtain ⟨HB, BK503, GW503, GE503⟩ := q_; clear hb hbox hg; obtain ⟨hcz14_0, hcz14_1, hcz14_2, hcz14_3, hfz14_0, hfz14_1, hfz14_2, hfz14_3⟩ := GS.c4 BK503.out) | (go_at_call 54; (with_reducible refine (spileref11_is.calls k a0_0 a0_1 _ _ l0_2 a0_3 t504 _ ?side1 ?side2 A3.out).mono ?_); (case side1 => exact GS.rC (Kd.C_below HR0_2.out HB.out)); (case side2 => exact HC0_2.out); rintro e w15 ⟨rfl, hb⟩; have q_ := GS.q2 (GS.kB BK503 hb) (GS.kH HB hb); clear BK503 HB; obtain ⟨BK503, HB⟩ := q_; (try clear hb); (try clear hb2); (try clear hk); (try clear hi))); try go_wp2_with (first | ((with_reducible refine gqD (N := 2) rfl ?_); (try (refine gate_guard (by rfl) ?_; dsimp only)); refine GS.bx (N := 2) (cs := #[.string a0_0, .int .i64 a0_1, .slice A0_2 l0_2.length c0_2, .int .i64 a0_3]) (t := 24) ?_; intro gb503 hg w13 hbox hb; have q_ := GS.q4 (GS.kH HB hb) (Aside0.mk hbox) (GS.kZ hg HB) (GS.kZ hg HB); clear HB; obtain ⟨HB, BK503, GW503, GE503⟩ := q_; clear hb hbox hg; obtain ⟨hcz14_0, hcz14_1, hcz14_2, hcz14_3, hfz14_0, hfz14_1, hfz14_2, hfz14_3⟩ := GS.c4 BK503.out) | (go_at_call 54; (with_reducible refine (spileref11_is.calls k a0_0 a0_1 _ _ l0_2 a0_3 t504 _ ?side1 ?side2 A3.out).mono ?_); (case side1 => exact GS.rC (Kd.C_below HR0_2.out HB.out)); (case side2 => exact HC0_2.out); rintro e w15 ⟨rfl, hb⟩; have q_ := GS.q2 (GS.kB BK503 hb) (GS.kH HB hb); clear BK503 HB; obtain ⟨BK503, HB⟩ := q_; (try clear hb); (try clear hb2); (try clear hk); (try clear hi))))
    go_loopg [6] k (fun kq v6 w' => ∃ (x6_1 : Int), v6 = .int .i64 x6_1 ∧ Aside0 (spileref11_Check.l0 kq l1 x6_1 a0_0 a0_1 l0_2 a0_3 = some r) ∧ Aside0 (kq ≤ k) ∧ Aside0 (w'.heap[gb503]? = some (.cells #[.string a0_0, .int .i64 a0_1, (.slice A0_2 l0_2.length c0_2), .int .i64 a0_3] 24 (0, 0))) ∧ Aside0 (Below w.heap.size w w'))
    case atStart => exact ⟨(1), (by first | rfl | (simp; done) | (simp [*]; done)), H', ⟨Nat.le_refl _⟩, ⟨GS.bqX BK503.out⟩, ⟨GS.lB HB.out⟩⟩
    case round =>
     clear H'
     try clear c1
     try clear c2
     try clear p2
     try clear c4
     try clear c4b0
     try clear c4b1
     try clear c5
     try clear c5b0
     try clear c5b1
     try clear c9
     try clear c9b0
     try clear c9b1
     try clear hcz11_0
     try clear hcz11_1
     try clear hcz11_2
     try clear hcz11_3
     try clear hcz14_0
     try clear hcz14_1
     try clear hcz14_2
     try clear hcz14_3
     try clear hcz7_0
     try clear hcz7_1
     try clear hcz7_2
     try clear hcz7_3
     try clear hfz11_0
     try clear hfz11_1
     try clear hfz11_2
     try clear hfz11_3
     try clear hfz14_0
     try clear hfz14_1
     try clear hfz14_2
     try clear hfz14_3
     try clear hfz7_0
     try clear hfz7_1
     try clear hfz7_2
     try clear hfz7_3
     obtain ⟨x6_1, rfl, HA, HK1, BK503, HB⟩ := hrel
     cases gk with
     | zero => exact absurd HA.out (by simp [spileref11_Check.l0])
     | succ k1 =>
      have H := HA.out
      clear HA
      simp only [spileref11_Check.l0] at H
      by_cases c16 : x6_1 < (l1.length : Int)
      ·rw [if_pos c16] at H
       have c16b0 : decide (x6_1 < (l1.length : Int)) = true := decide_eq_true c16
       clear c16
       obtain ⟨ji17, hji17⟩ : ∃ j_ : Int, (wrap64 (x6_1 - 1)) = j_ := ⟨_, rfl⟩
       replace H : (if 0 ≤ (ji17) then (if (ji17) < (l1.length : Int) then (if 0 ≤ x6_1 then (if (rd l1 (ji17)) ≥ (rd l1 x6_1) then (some 5) else (spileref11_Check.l0 k1 l1 (wrap64 (x6_1 + 1)) a0_0 a0_1 l0_2 a0_3)) else (none)) else (none)) else (none)) = some r := by first | (rw [hji17] at H; exact H) | (simp only [hji17] at H ⊢; exact H)
       have hji17w : (IntKind.i64.wrap (x6_1 - 1)) = ji17 := (i64_w _).trans hji17
       by_cases c18 : 0 ≤ (ji17)
       ·rw [if_pos c18] at H
        have c18b0 : decide (0 ≤ (ji17)) = true := decide_eq_true c18
        clear c18
        by_cases c19 : (ji17) < (l1.length : Int)
        ·rw [if_pos c19] at H
         have c19b0 : decide ((ji17) < (l1.length : Int)) = true := decide_eq_true c19
         clear c19
         by_cases c20 : 0 ≤ x6_1
         ·rw [if_pos c20] at H
          have c20b0 : decide (0 ≤ x6_1) = true := decide_eq_true c20
          clear c20
          by_cases c21 : (rd l1 (ji17)) ≥ (rd l1 x6_1)
          ·rw [if_pos c21] at H
           have c21b0 : decide ((rd l1 x6_1) ≤ (rd l1 (ji17))) = true := decide_eq_true c21
           clear c21
           obtain rfl := Option.some.inj H
           have p505 : 0 ≤ ((ji17) : Int) := of_decide_eq_true (by first | (with_reducible assumption) | assumption)
           have q505 : (ji17) < (l1.length : Int) := of_decide_eq_true (by first | (with_reducible assumption) | assumption)
           obtain ⟨ad505, e505, hx505_0⟩ := Kd.at_int HR1.out (ji17) p505 q505
           cases e505
           replace hx505_0 := (HB.out.cell (World.block_lt_of_cell? w _ hx505_0)).trans hx505_0
           replace p505 := eq_true p505
           replace q505 := eq_true q505
           have p506 : 0 ≤ (x6_1 : Int) := of_decide_eq_true (by first | (with_reducible assumption) | assumption)
           have q506 : x6_1 < (l1.length : Int) := of_decide_eq_true (by first | (with_reducible assumption) | assumption)
           obtain ⟨ad506, e506, hx506_0⟩ := Kd.at_int HR1.out x6_1 p506 q506
           obtain rfl : ad505 = ad506 := (by injection e506)
           replace hx506_0 := (HB.out.cell (World.block_lt_of_cell? w _ hx506_0)).trans hx506_0
           replace p506 := eq_true p506
           replace q506 := eq_true q506
           go_wp2
           repeat (go_quiet (fail); try go_wp2)
           go_ret
           exact ⟨by first | rfl | (simp [errW_none, errW_some] <;> rfl) | (simp only [← hji17]; first | rfl | (simp [errW_none, errW_some] <;> rfl)) | (simp [*, errW_none, errW_some] <;> rfl), GS.lB HB.out⟩
          ·rw [if_neg c21] at H
           have c21b0 : decide ((rd l1 x6_1) ≤ (rd l1 (ji17))) = false := decide_eq_false c21
           clear c21
           have H' := Aside0.mk H
           clear H
           have p505 : 0 ≤ ((ji17) : Int) := of_decide_eq_true (by first | (with_reducible assumption) | assumption)
           have q505 : (ji17) < (l1.length : Int) := of_decide_eq_true (by first | (with_reducible assumption) | assumption)
           obtain ⟨ad505, e505, hx505_0⟩ := Kd.at_int HR1.out (ji17) p505 q505
           cases e505
           replace hx505_0 := (HB.out.cell (World.block_lt_of_cell? w _ hx505_0)).trans hx505_0
           replace p505 := eq_true p505
           replace q505 := eq_true q505
           have p506 : 0 ≤ (x6_1 : Int) := of_decide_eq_true (by first | (with_reducible assumption) | assumption)
           have q506 : x6_1 < (l1.length : Int) := of_decide_eq_true (by first | (with_reducible assumption) | assumption)
           obtain ⟨ad506, e506, hx506_0⟩ := Kd.at_int HR1.out x6_1 p506 q506
           obtain rfl : ad505 = ad506 := (by injection e506)
           replace hx506_0 := (HB.out.cell (World.block_lt_of_cell? w _ hx506_0)).trans hx506_0
           replace p506 := eq_true p506
           replace q506 := eq_true q506
           go_wp2
           repeat (go_quiet (fail); try go_wp2)
           go_roundg k1
           case measure => have := HK1.out; omega
           case rel => exact ⟨(wrap64 (x6_1 + 1)), (by first | rfl | (simp; done) | (simp [*]; done)), H', ⟨by have := HK1.out; omega⟩, ⟨GS.bqX BK503.out⟩, ⟨GS.lB HB.out⟩⟩
         ·rw [if_neg c20] at H
          exact absurd H (by simp)
        ·rw [if_neg c19] at H
         exact absurd H (by simp)
       ·rw [if_neg c18] at H
        exact absurd H (by simp)
      ·rw [if_neg c16] at H
       have c16b0 : decide (x6_1 < (l1.length : Int)) = false := decide_eq_false c16
       clear c16
       have HC22 := Aside0.mk H
       clear H
       obtain ⟨hcz23_0, hcz23_1, hcz23_2, hcz23_3, hfz23_0, hfz23_1, hfz23_2, hfz23_3⟩ := GS.c4 BK503.out
       go_upto_region 14 with (fail)
       repeat (go_quiet (fail); go_upto_region 14 with (fail))
       go_cut [57] (fun v57 wc => ∃ (kq : Nat) (x57_21 : Bool), v57 = .bool x57_21 ∧ Aside0 (spileref11_Check.j1 kq l1 l0_2 x57_21 = some r) ∧ Aside0 (kq ≤ k1) ∧ Aside0 (wc.heap[gb503]? = some (.cells #[.string a0_0, .int .i64 a0_1, (.slice A0_2 l0_2.length c0_2), .int .i64 a0_3] 24 (0, 0))) ∧ Aside0 (Below w.heap.size w wc))
       case first =>
        have H := HC22.out
        clear HC22
        by_cases c24 : 0 < (l1.length : Int)
        ·rw [if_pos c24] at H
         have c24b0 : decide (0 < (l1.length : Int)) = true := decide_eq_true c24
         have c24b1 : decide (0 < l1.length) = true := decide_eq_true (by omega)
         clear c24
         (first | rw [c24b0] | (simp only [i64_w, i32_w]; rw [c24b0]) | skip)
         by_cases c25 : (rd l1 0) = 0
         ·rw [if_pos c25] at H
          have c25b0 : ((rd l1 0) == 0) = true := beq_iff_eq.mpr c25
          try simp only [beq_self_eq_true, Bool.not_true, Bool.false_or, Bool.true_and] at c25b0
          have c25b1 : ((rd l1 0) != 0) = false := bne_eq_false_iff_eq.mpr c25
          clear c25
          obtain ⟨ji26, hji26⟩ : ∃ j_ : Int, (wrap64 ((l1.length : Int) - 1)) = j_ := ⟨_, rfl⟩
          replace H : (if 0 ≤ (ji26) then (if (ji26) < (l1.length : Int) then (if 0 ≤ (wrap64 ((l0_2.length : Int) - 1)) then (if (wrap64 ((l0_2.length : Int) - 1)) < (l0_2.length : Int) then (spileref11_Check.j1 k1 l1 l0_2 ((rd l1 (ji26)) != ((rd_T39 l0_2 (wrap64 ((l0_2.length : Int) - 1))).f0))) else (none)) else (none)) else (none)) else (none)) = some r := by first | (rw [hji26] at H; exact H) | (simp only [hji26] at H ⊢; exact H)
          have hji26w : (IntKind.i64.wrap ((l1.length : Int) - 1)) = ji26 := (i64_w _).trans hji26
          by_cases c27 : 0 ≤ (ji26)
          ·rw [if_pos c27] at H
           have c27b0 : decide (0 ≤ (ji26)) = true := decide_eq_true c27
           clear c27
           by_cases c28 : (ji26) < (l1.length : Int)
           ·rw [if_pos c28] at H
            have c28b0 : decide ((ji26) < (l1.length : Int)) = true := decide_eq_true c28
            clear c28
            obtain ⟨ji29, hji29⟩ : ∃ j_ : Int, (wrap64 ((l0_2.length : Int) - 1)) = j_ := ⟨_, rfl⟩
            replace H : (if 0 ≤ (ji29) then (if (ji29) < (l0_2.length : Int) then (spileref11_Check.j1 k1 l1 l0_2 ((rd l1 (ji26)) != ((rd_T39 l0_2 (ji29)).f0))) else (none)) else (none)) = some r := by first | (rw [hji29] at H; exact H) | (simp only [hji29] at H ⊢; exact H)
            have hji29w : (IntKind.i64.wrap ((l0_2.length : Int) - 1)) = ji29 := (i64_w _).trans hji29
            by_cases c30 : 0 ≤ (ji29)
            ·rw [if_pos c30] at H
             have c30b0 : decide (0 ≤ (ji29)) = true := decide_eq_true c30
             clear c30
             by_cases c31 : (ji29) < (l0_2.length : Int)
             ·rw [if_pos c31] at H
              have c31b0 : decide ((ji29) < (l0_2.length : Int)) = true := decide_eq_true c31
              clear c31
              have H' := Aside0.mk H
              clear H
              have p507 : 0 ≤ (0 : Int) := (by omega)
              have q507 : 0 < (l1.length : Int) := of_decide_eq_true (by first | (with_reducible assumption) | assumption)
              obtain ⟨ad507, e507, hx507_0⟩ := Kd.at_int HR1.out 0 p507 q507
              cases e507
              have qi507 : (0 < l1.length) = True := eq_true (by omega)
              (try rw [show ((0 : Int)).toNat = 0 from rfl] at hx507_0)
              (try rw [Addr.add_zero'] at hx507_0)
              replace hx507_0 := (HB.out.cell (World.block_lt_of_cell? w _ hx507_0)).trans hx507_0
              replace p507 := eq_true p507
              replace q507 := eq_true q507
              have p508 : 0 ≤ ((ji26) : Int) := of_decide_eq_true (by first | (with_reducible assumption) | assumption)
              have q508 : (ji26) < (l1.length : Int) := of_decide_eq_true (by first | (with_reducible assumption) | assumption)
              obtain ⟨ad508, e508, hx508_0⟩ := Kd.at_int HR1.out (ji26) p508 q508
              obtain rfl : ad507 = ad508 := (by injection e508)
              replace hx508_0 := (HB.out.cell (World.block_lt_of_cell? w _ hx508_0)).trans hx508_0
              replace p508 := eq_true p508
              replace q508 := eq_true q508
              have p509 : 0 ≤ ((ji29) : Int) := of_decide_eq_true (by first | (with_reducible assumption) | assumption)
              have q509 : (ji29) < (l0_2.length : Int) := of_decide_eq_true (by first | (with_reducible assumption) | assumption)
              obtain ⟨ad509, e509, hx509_0, hx509_1⟩ := at_T39 HR0_2.out (ji29) p509 q509
              cases e509
              replace hx509_0 := (HB.out.cell (World.block_lt_of_cell? w _ hx509_0)).trans hx509_0
              replace hx509_1 := (HB.out.cell (World.block_lt_of_cell? w _ hx509_1)).trans hx509_1
              replace p509 := eq_true p509
              replace q509 := eq_true q509
              go_wp2
              repeat (go_quiet (fail); try go_wp2)
              go_meet
              case rel => exact ⟨_, (((rd l1 (ji26)) != ((rd_T39 l0_2 (ji29)).f0))), (by first | rfl | (simp; done) | (simp only [← hji26, ← hji29] <;> (first | rfl | simp)) | (simp [*]; done)), H', ⟨by have := HK1.out; first | omega | exact Nat.le_refl _⟩, ⟨GS.bqX BK503.out⟩, ⟨GS.lB HB.out⟩⟩
             ·rw [if_neg c31] at H
              exact absurd H (by simp)
            ·rw [if_neg c30] at H
             exact absurd H (by simp)
           ·rw [if_neg c28] at H
            exact absurd H (by simp)
          ·rw [if_neg c27] at H
           exact absurd H (by simp)
         ·rw [if_neg c25] at H
          have c25b0 : ((rd l1 0) == 0) = false := beq_eq_false_iff_ne.mpr c25
          try simp only [beq_self_eq_true, Bool.not_true, Bool.false_or, Bool.true_and] at c25b0
          have c25b1 : ((rd l1 0) != 0) = true := bne_iff_ne.mpr c25
          have H' := Aside0.mk H
          clear H
          have p507 : 0 ≤ (0 : Int) := (by omega)
          have q507 : 0 < (l1.length : Int) := of_decide_eq_true (by first | (with_reducible assumption) | assumption)
          obtain ⟨ad507, e507, hx507_0⟩ := Kd.at_int HR1.out 0 p507 q507
          cases e507
          have qi507 : (0 < l1.length) = True := eq_true (by omega)
          (try rw [show ((0 : Int)).toNat = 0 from rfl] at hx507_0)
          (try rw [Addr.add_zero'] at hx507_0)
          replace hx507_0 := (HB.out.cell (World.block_lt_of_cell? w _ hx507_0)).trans hx507_0
          replace p507 := eq_true p507
          replace q507 := eq_true q507
          go_wp2
          repeat (go_quiet (fail); try go_wp2)
          go_meet
          case rel => exact ⟨_, (true), (by first | rfl | (simp; done) | (simp [*]; done)), H', ⟨by have := HK1.out; first | omega | exact Nat.le_refl _⟩, ⟨GS.bqX BK503.out⟩, ⟨GS.lB HB.out⟩⟩
        ·rw [if_neg c24] at H
         exact absurd H (by simp)
       case rest =>
        clear HC22
        try clear c1
        try clear c2
        try clear p2
        try clear c3
        try clear c4
        try clear c4b0
        try clear c4b1
        try clear c5
        try clear c5b0
        try clear c5b1
        try clear p5
        try clear q5
        try clear hx5
        try clear qi5
        try clear p6
        try clear c9
        try clear c9b0
        try clear c9b1
        try clear c16
        try clear c16b0
        try clear c18
        try clear c18b0
        try clear c19
        try clear c19b0
        try clear c20
        try clear c20b0
        try clear c21
        try clear c21b0
        try clear c23
        try clear c24
        try clear c24b0
        try clear c24b1
        try clear c25
        try clear c25b0
        try clear c25b1
        try clear c27
        try clear c27b0
        try clear c28
        try clear c28b0
        try clear c30
        try clear c30b0
        try clear c31
        try clear c31b0
        try clear hcz11_0
        try clear hcz11_1
        try clear hcz11_2
        try clear hcz11_3
        try clear hcz14_0
        try clear hcz14_1
        try clear hcz14_2
        try clear hcz14_3
        try clear hcz23_0
        try clear hcz23_1
        try clear hcz23_2
        try clear hcz23_3
        try clear hcz7_0
        try clear hcz7_1
        try clear hcz7_2
        try clear hcz7_3
        try clear hfz11_0
        try clear hfz11_1
        try clear hfz11_2
        try clear hfz11_3
        try clear hfz14_0
        try clear hfz14_1
        try clear hfz14_2
        try clear hfz14_3
        try clear hfz23_0
        try clear hfz23_1
        try clear hfz23_2
        try clear hfz23_3
        try clear hfz7_0
        try clear hfz7_1
        try clear hfz7_2
        try clear hfz7_3
        try clear hx505_0
        try clear hx506_0
        try clear hx507_0
        try clear hx508_0
        try clear hx509_0
        try clear hx509_1
        try clear p2
        try clear p505
        try clear p506
        try clear p507
        try clear p508
        try clear p509
        try clear q505
        try clear q506
        try clear q507
        try clear q508
        try clear q509
        obtain ⟨kq, x57_21, rfl, HA, HJ21, BK503, HB⟩ := hcut
        cases kq with
        | zero => exact absurd HA.out (by simp [spileref11_Check.j1])
        | succ kj21 =>
         have H := HA.out
         clear HA
         simp only [spileref11_Check.j1] at H
         by_cases c32 : x57_21 = true
         ·subst c32
          have H1 : (some 5) = some r := by rw [if_pos rfl] at H; exact H
          clear H
          have H := H1
          clear H1
          obtain rfl := Option.some.inj H
          go_wp2
          repeat (go_quiet (fail); try go_wp2)
          go_ret
          exact ⟨by first | rfl | (simp [errW_none, errW_some] <;> rfl) | (simp [*, errW_none, errW_some] <;> rfl), GS.lB HB.out⟩
         ·replace c32 := Bool.eq_false_iff.mpr c32
          subst c32
          have H1 : (spileref11_Check.l1 kj21 l1 l0_2 0) = some r := by rw [if_neg (show ¬ (false = true) by decide)] at H; exact H
          clear H
          have H := H1
          clear H1
          have H' := Aside0.mk H
          clear H
          go_wp2
          repeat (go_quiet (fail); try go_wp2)
          go_loopg [8] kj21 (fun kq v8 w' => ∃ (x8_3 : Int), v8 = .int .i64 x8_3 ∧ Aside0 (spileref11_Check.l1 kq l1 l0_2 x8_3 = some r) ∧ Aside0 (kq ≤ kj21) ∧ Aside0 (w'.heap[gb503]? = some (.cells #[.string a0_0, .int .i64 a0_1, (.slice A0_2 l0_2.length c0_2), .int .i64 a0_3] 24 (0, 0))) ∧ Aside0 (Below w.heap.size w w'))
          case atStart => exact ⟨(0), (by first | rfl | (simp; done) | (simp [*]; done)), H', ⟨Nat.le_refl _⟩, ⟨GS.bqX BK503.out⟩, ⟨GS.lB HB.out⟩⟩
          case round =>
           clear H'
           try clear c1
           try clear c2
           try clear p2
           try clear c3
           try clear c4
           try clear c4b0
           try clear c4b1
           try clear c5
           try clear c5b0
           try clear c5b1
           try clear p5
           try clear q5
           try clear hx5
           try clear qi5
           try clear p6
           try clear c9
           try clear c9b0
           try clear c9b1
           try clear c16
           try clear c16b0
           try clear c18
           try clear c18b0
           try clear c19
           try clear c19b0
           try clear c20
           try clear c20b0
           try clear c21
           try clear c21b0
           try clear c23
           try clear c24
           try clear c24b0
           try clear c24b1
           try clear c25
           try clear c25b0
           try clear c25b1
           try clear c27
           try clear c27b0
           try clear c28
           try clear c28b0
           try clear c30
           try clear c30b0
           try clear c31
           try clear c31b0
           try clear c32
           try clear hcz11_0
           try clear hcz11_1
           try clear hcz11_2
           try clear hcz11_3
           try clear hcz14_0
           try clear hcz14_1
           try clear hcz14_2
           try clear hcz14_3
           try clear hcz23_0
           try clear hcz23_1
           try clear hcz23_2
           try clear hcz23_3
           try clear hcz7_0
           try clear hcz7_1
           try clear hcz7_2
           try clear hcz7_3
           try clear hfz11_0
           try clear hfz11_1
           try clear hfz11_2
           try clear hfz11_3
           try clear hfz14_0
           try clear hfz14_1
           try clear hfz14_2
           try clear hfz14_3
           try clear hfz23_0
           try clear hfz23_1
           try clear hfz23_2
           try clear hfz23_3
           try clear hfz7_0
           try clear hfz7_1
           try clear hfz7_2
           try clear hfz7_3
           try clear hx505_0
           try clear hx506_0
           try clear hx507_0
           try clear hx508_0
           try clear hx509_0
           try clear hx509_1
           try clear p2
           try clear p5
           try clear p505
           try clear p506
           try clear p507
           try clear p508
           try clear p509
           try clear p6
           try clear q5
           try clear q505
           try clear q506
           try clear q507
           try clear q508
           try clear q509
           obtain ⟨x8_3, rfl, HA, HK3, BK503, HB⟩ := hrel
           cases gk with
           | zero => exact absurd HA.out (by simp [spileref11_Check.l1])
           | succ k3 =>
            have H := HA.out
            clear HA
            simp only [spileref11_Check.l1] at H
            by_cases c33 : x8_3 < (l0_2.length : Int)
            ·rw [if_pos c33] at H
             have c33b0 : decide (x8_3 < (l0_2.length : Int)) = true := decide_eq_true c33
             clear c33
             by_cases c34 : 0 ≤ x8_3
             ·rw [if_pos c34] at H
              have c34b0 : decide (0 ≤ x8_3) = true := decide_eq_true c34
              clear c34
              replace H := Option.bind_eq_some_iff.mp H
              obtain ⟨t511, A350, H⟩ := H
              replace H : (if t511 = true then (spileref11_Check.l1 k3 l1 l0_2 (wrap64 (x8_3 + 1))) else (some 7)) = some r := H
              have A35 := Aside0.mk A350
              clear A350
              by_cases c36 : t511 = true
              ·subst c36
               have H1 : (spileref11_Check.l1 k3 l1 l0_2 (wrap64 (x8_3 + 1))) = some r := by rw [if_pos rfl] at H; exact H
               clear H
               have H := H1
               clear H1
               have H' := Aside0.mk H
               clear H
               have p510 : 0 ≤ (x8_3 : Int) := of_decide_eq_true (by first | (with_reducible assumption) | assumption)
               have q510 : x8_3 < (l0_2.length : Int) := of_decide_eq_true (by first | (with_reducible assumption) | assumption)
               obtain ⟨ad510, e510, hx510_0, hx510_1⟩ := at_T39 HR0_2.out x8_3 p510 q510
               cases e510
               replace hx510_0 := (HB.out.cell (World.block_lt_of_cell? w _ hx510_0)).trans hx510_0
               replace hx510_1 := (HB.out.cell (World.block_lt_of_cell? w _ hx510_1)).trans hx510_1
               replace p510 := eq_true p510
               replace q510 := eq_true q510
               go_wp2_with (first | (go_at_call 55; (with_reducible refine (spileref11_has.calls k3 _ _ l1 ((rd_T39 l0_2 x8_3).f0) true _ ?side1 ?side2 A35.out).mono ?_); (case side1 => exact GS.rC (Kd.C_below HR1.out HB.out)); (case side2 => exact HC1.out); rintro e w' ⟨rfl, ⟨nd, rfl⟩⟩; (try first | exact ⟨rfl, _, World.drewN_drewN _ _ _⟩ | exact ⟨rfl, _, Eq.trans (World.drewN_drewN _ _ _) (congrArg (World.drewN _) (Nat.add_assoc _ _ _))⟩)))
               repeat (go_quiet (first | (go_at_call 55; (with_reducible refine (spileref11_has.calls k3 _ _ l1 ((rd_T39 l0_2 x8_3).f0) true _ ?side1 ?side2 A35.out).mono ?_); (case side1 => exact GS.rC (Kd.C_below HR1.out HB.out)); (case side2 => exact HC1.out); rintro e w' ⟨rfl, ⟨nd, rfl⟩⟩; (try first | exact ⟨rfl, _, World.drewN_drewN _ _ _⟩ | exact ⟨rfl, _, Eq.trans (World.drewN_drewN _ _ _) (congrArg (World.drewN _) (Nat.add_assoc _ _ _))⟩))); try go_wp2_with (first | (go_at_call 55; (with_reducible refine (spileref11_has.calls k3 _ _ l1 ((rd_T39 l0_2 x8_3).f0) true _ ?side1 ?side2 A35.out).mono ?_); (case side1 => exact GS.rC (Kd.C_below HR1.out HB.out)); (case side2 => exact HC1.out); rintro e w' ⟨rfl, ⟨nd, rfl⟩⟩; (try first | exact ⟨rfl, _, World.drewN_drewN _ _ _⟩ | exact ⟨rfl, _, Eq.trans (World.drewN_drewN _ _ _) (congrArg (World.drewN _) (Nat.add_assoc _ _ _))⟩))))
               go_roundg k3
               case measure => have := HK1.out; have := HJ21.out; have := HK3.out; omega
               case rel => exact ⟨(wrap64 (x8_3 + 1)), (by first | rfl | (simp; done) | (simp [*]; done)), H', ⟨by have := HK1.out; have := HJ21.out; have := HK3.out; omega⟩, ⟨GS.bqX BK503.out⟩, ⟨GS.lB HB.out⟩⟩
              ·replace c36 := Bool.eq_false_iff.mpr c36
               subst c36
               have H1 : (some 7) = some r := by rw [if_neg (show ¬ (false = true) by decide)] at H; exact H
               clear H
               have H := H1
               clear H1
               obtain rfl := Option.some.inj H
               have p510 : 0 ≤ (x8_3 : Int) := of_decide_eq_true (by first | (with_reducible assumption) | assumption)
               have q510 : x8_3 < (l0_2.length : Int) := of_decide_eq_true (by first | (with_reducible assumption) | assumption)
               obtain ⟨ad510, e510, hx510_0, hx510_1⟩ := at_T39 HR0_2.out x8_3 p510 q510
               cases e510
               replace hx510_0 := (HB.out.cell (World.block_lt_of_cell? w _ hx510_0)).trans hx510_0
               replace hx510_1 := (HB.out.cell (World.block_lt_of_cell? w _ hx510_1)).trans hx510_1
               replace p510 := eq_true p510
               replace q510 := eq_true q510
               go_wp2_with (first | (go_at_call 55; (with_reducible refine (spileref11_has.calls k3 _ _ l1 ((rd_T39 l0_2 x8_3).f0) false _ ?side1 ?side2 A35.out).mono ?_); (case side1 => exact GS.rC (Kd.C_below HR1.out HB.out)); (case side2 => exact HC1.out); rintro e w' ⟨rfl, ⟨nd, rfl⟩⟩; (try first | exact ⟨rfl, _, World.drewN_drewN _ _ _⟩ | exact ⟨rfl, _, Eq.trans (World.drewN_drewN _ _ _) (congrArg (World.drewN _) (Nat.add_assoc _ _ _))⟩)))
               repeat (go_quiet (first | (go_at_call 55; (with_reducible refine (spileref11_has.calls k3 _ _ l1 ((rd_T39 l0_2 x8_3).f0) false _ ?side1 ?side2 A35.out).mono ?_); (case side1 => exact GS.rC (Kd.C_below HR1.out HB.out)); (case side2 => exact HC1.out); rintro e w' ⟨rfl, ⟨nd, rfl⟩⟩; (try first | exact ⟨rfl, _, World.drewN_drewN _ _ _⟩ | exact ⟨rfl, _, Eq.trans (World.drewN_drewN _ _ _) (congrArg (World.drewN _) (Nat.add_assoc _ _ _))⟩))); try go_wp2_with (first | (go_at_call 55; (with_reducible refine (spileref11_has.calls k3 _ _ l1 ((rd_T39 l0_2 x8_3).f0) false _ ?side1 ?side2 A35.out).mono ?_); (case side1 => exact GS.rC (Kd.C_below HR1.out HB.out)); (case side2 => exact HC1.out); rintro e w' ⟨rfl, ⟨nd, rfl⟩⟩; (try first | exact ⟨rfl, _, World.drewN_drewN _ _ _⟩ | exact ⟨rfl, _, Eq.trans (World.drewN_drewN _ _ _) (congrArg (World.drewN _) (Nat.add_assoc _ _ _))⟩))))
               go_ret
               exact ⟨by first | rfl | (simp [errW_none, errW_some] <;> rfl) | (simp [*, errW_none, errW_some] <;> rfl), GS.lB HB.out⟩
             ·rw [if_neg c34] at H
              exact absurd H (by simp)
            ·rw [if_neg c33] at H
             have c33b0 : decide (x8_3 < (l0_2.length : Int)) = false := decide_eq_false c33
             clear c33
             obtain rfl := Option.some.inj H
             go_wp2
             repeat (go_quiet (fail); try go_wp2)
             go_ret
             exact ⟨by first | rfl | (simp [errW_none, errW_some] <;> rfl) | (simp [*, errW_none, errW_some] <;> rfl), GS.lB HB.out⟩
 ·rw [if_neg c4] at H
  have c4b0 : (t504 == 0) = false := beq_eq_false_iff_ne.mpr c4
  try simp only [beq_self_eq_true, Bool.not_true, Bool.false_or, Bool.true_and] at c4b0
  have c4b1 : (t504 != 0) = true := bne_iff_ne.mpr c4
  obtain rfl := Option.some.inj H
  go_enter Try.func23, Try.ntmps23
  go_wp2_with (first | ((with_reducible refine gqD (N := 2) rfl ?_); (try (refine gate_guard (by rfl) ?_; dsimp only)); refine GS.bx (N := 2) (cs := #[.string a0_0, .int .i64 a0_1, .slice A0_2 l0_2.length c0_2, .int .i64 a0_3]) (t := 24) ?_; intro gb503 hg w37 hbox hb; have q_ := GS.q4 (GS.kH HB hb) (Aside0.mk hbox) (GS.kZ hg HB) (GS.kZ hg HB); clear HB; obtain ⟨HB, BK503, GW503, GE503⟩ := q_; clear hb hbox hg; obtain ⟨hcz38_0, hcz38_1, hcz38_2, hcz38_3, hfz38_0, hfz38_1, hfz38_2, hfz38_3⟩ := GS.c4 BK503.out) | (go_at_call 54; (with_reducible refine (spileref11_is.calls k a0_0 a0_1 _ _ l0_2 a0_3 t504 _ ?side1 ?side2 A3.out).mono ?_); (case side1 => exact GS.rC (Kd.C_below HR0_2.out HB.out)); (case side2 => exact HC0_2.out); rintro e w39 ⟨rfl, hb⟩; have q_ := GS.q2 (GS.kB BK503 hb) (GS.kH HB hb); clear BK503 HB; obtain ⟨BK503, HB⟩ := q_; (try clear hb); (try clear hb2); (try clear hk); (try clear hi)))
  repeat (go_quiet (first | ((with_reducible refine gqD (N := 2) rfl ?_); (try (refine gate_guard (by rfl) ?_; dsimp only)); refine GS.bx (N := 2) (cs := #[.string a0_0, .int .i64 a0_1, .slice A0_2 l0_2.length c0_2, .int .i64 a0_3]) (t := 24) ?_; intro gb503 hg w37 hbox hb; have q_ := GS.q4 (GS.kH HB hb) (Aside0.mk hbox) (GS.kZ hg HB) (GS.kZ hg HB); clear HB; obtain ⟨HB, BK503, GW503, GE503⟩ := q_; clear hb hbox hg; obtain ⟨hcz38_0, hcz38_1, hcz38_2, hcz38_3, hfz38_0, hfz38_1, hfz38_2, hfz38_3⟩ := GS.c4 BK503.out) | (go_at_call 54; (with_reducible refine (spileref11_is.calls k a0_0 a0_1 _ _ l0_2 a0_3 t504 _ ?side1 ?side2 A3.out).mono ?_); (case side1 => exact GS.rC (Kd.C_below HR0_2.out HB.out)); (case side2 => exact HC0_2.out); rintro e w39 ⟨rfl, hb⟩; have q_ := GS.q2 (GS.kB BK503 hb) (GS.kH HB hb); clear BK503 HB; obtain ⟨BK503, HB⟩ := q_; (try clear hb); (try clear hb2); (try clear hk); (try clear hi))); try go_wp2_with (first | ((with_reducible refine gqD (N := 2) rfl ?_); (try (refine gate_guard (by rfl) ?_; dsimp only)); refine GS.bx (N := 2) (cs := #[.string a0_0, .int .i64 a0_1, .slice A0_2 l0_2.length c0_2, .int .i64 a0_3]) (t := 24) ?_; intro gb503 hg w37 hbox hb; have q_ := GS.q4 (GS.kH HB hb) (Aside0.mk hbox) (GS.kZ hg HB) (GS.kZ hg HB); clear HB; obtain ⟨HB, BK503, GW503, GE503⟩ := q_; clear hb hbox hg; obtain ⟨hcz38_0, hcz38_1, hcz38_2, hcz38_3, hfz38_0, hfz38_1, hfz38_2, hfz38_3⟩ := GS.c4 BK503.out) | (go_at_call 54; (with_reducible refine (spileref11_is.calls k a0_0 a0_1 _ _ l0_2 a0_3 t504 _ ?side1 ?side2 A3.out).mono ?_); (case side1 => exact GS.rC (Kd.C_below HR0_2.out HB.out)); (case side2 => exact HC0_2.out); rintro e w39 ⟨rfl, hb⟩; have q_ := GS.q2 (GS.kB BK503 hb) (GS.kH HB hb); clear BK503 HB; obtain ⟨BK503, HB⟩ := q_; (try clear hb); (try clear hb2); (try clear hk); (try clear hi))))
  go_ret
  exact ⟨by first | rfl | (simp [errW_none, errW_some] <;> rfl) | (simp [*, errW_none, errW_some] <;> rfl), GS.lB HB.out⟩

end Go.Proofs.Ytefjmcljkmppoaa.K
