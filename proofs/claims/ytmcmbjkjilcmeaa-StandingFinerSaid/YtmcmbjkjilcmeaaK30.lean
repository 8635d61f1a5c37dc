-- PRINTED by print.py (a twelfth state) out of the translation. Not trusted: Lean checks it.
import Derived.Test.YtmcmbjkjilcmeaaK0
import Derived.Test.YtmcmbjkjilcmeaaGShort
import Derived.Test.YtmcmbjkjilcmeaaK1
import Derived.Test.YtmcmbjkjilcmeaaK14
import Derived.Test.YtmcmbjkjilcmeaaK15
import Derived.Test.YtmcmbjkjilcmeaaK17
import Derived.Test.YtmcmbjkjilcmeaaK29a
import Derived.Test.YtmcmbjkjilcmeaaGClone
import Derived.Test.YtmcmbjkjilcmeaaGInsert
namespace Go.Proofs.Ytmcmbjkjilcmeaa.K
open Go.RowKit Go.Proofs.YtmcmbjkjilcmeaaW.PrintWords Go.Proofs.YtmcmbjkjilcmeaaW.PrintLast Go.Proofs.YtmcmbjkjilcmeaaW.PrintMore
attribute [local go_sem] max2_int min2_int max_two min_two max_three min_three max_four min_four   -- for this text's walks alone
set_option linter.unusedVariables false
set_option linter.unusedSimpArgs false

attribute [local go_sem high] eqA40
/-! ### spilelaw12_StandingFiner: function 9 -/
mutual
def spilelaw12_StandingFiner.j0 : Nat → List Int → Int → Int → Bool → ByteArray → Int → List (S33) → Int → Int → Int → Option (Bool)
 | 0, _, _, _, _, _, _, _, _, _, _ => none
 | k + 1, x1, x2, x8, x33, x643000, x643001, x643002, x643003, x658000, x658001 => if x33 = true then (if x8 = 0 then (none) else (some (x658000 == 0 && (x658001 == 0)))) else ((slices_BinarySearch_int_int.f k x1 x2).bind fun bt658 => (if bt658.2 = true then (spilelaw12_StandingFiner.j1 k x1 x2 bt658.1 true x643000 x643001 x643002 x643003 x658000 x658001) else (if 0 < (x1.length : Int) then (if x2 < (rd x1 0) then (spilelaw12_StandingFiner.j1 k x1 x2 bt658.1 true x643000 x643001 x643002 x643003 x658000 x658001) else (if 0 ≤ (wrap64 ((x1.length : Int) - 1)) then (if (wrap64 ((x1.length : Int) - 1)) < (x1.length : Int) then (if x2 > (rd x1 (wrap64 ((x1.length : Int) - 1))) then (spilelaw12_StandingFiner.j1 k x1 x2 bt658.1 true x643000 x643001 x643002 x643003 x658000 x658001) else (spilelaw12_StandingFiner.j1 k x1 x2 bt658.1 (decide ((x1.length : Int) ≥ 128)) x643000 x643001 x643002 x643003 x658000 x658001)) else (none)) else (none))) else (none))))
def spilelaw12_StandingFiner.j1 : Nat → List Int → Int → Int → Bool → ByteArray → Int → List (S33) → Int → Int → Int → Option (Bool)
 | 0, _, _, _, _, _, _, _, _, _, _ => none
 | k + 1, x1, x2, x9, x69, x643000, x643001, x643002, x643003, x658000, x658001 => if x69 = true then (some true) else ((spilelaw12_own.f k x643000 x643001 x643002 x643003).bind fun bt662 => ((clone18.f x1).bind fun t668 => ((insert31.f t668 x9 (([x2] : List Int))).bind fun t674 => ((standing_Between.f k bt662.1 bt662.2.1 bt662.2.2.1 bt662.2.2.2 t674).bind fun bt677 => (if bt677.2.2 = 0 then (if x658000 ≤ bt677.1 then (if bt677.1 ≤ bt677.2.1 then (some (decide (bt677.2.1 ≤ x658001))) else (none)) else (none)) else (none))))))
end
def spilelaw12_StandingFiner.f (k : Nat) (a0_0 : ByteArray) (a0_1 : Int) (l0_2 : List (S33)) (a0_3 : Int) (l1 : List Int) (a2 : Int) : Option (Bool) := (spilelaw12_awake.f k).bind fun t643 => (if t643 = true then ((spilelaw12_few.f k a0_0 a0_1 l0_2 a0_3 l1).bind fun t644 => (if t644 = true then ((spilelaw12_own.f k a0_0 a0_1 l0_2 a0_3).bind fun bt645 => ((clone18.f l1).bind fun t651 => ((standing_Between.f k bt645.1 bt645.2.1 bt645.2.2.1 bt645.2.2.2 t651).bind fun bt654 => (if bt654.2.2 = 0 then (spilelaw12_StandingFiner.j0 k l1 a2 bt654.2.2 (decide ((l1.length : Int) < 2)) a0_0 a0_1 l0_2 a0_3 bt654.1 bt654.2.1) else (spilelaw12_StandingFiner.j0 k l1 a2 bt654.2.2 true a0_0 a0_1 l0_2 a0_3 bt654.1 bt654.2.1))))) else (some true))) else (none))
theorem spilelaw12_StandingFiner.mono_l : ∀ k, (∀ y0 y1 y2 y3 y4 y5 y6 y7 y8 y9, LeO (spilelaw12_StandingFiner.j0 k y0 y1 y2 y3 y4 y5 y6 y7 y8 y9) (spilelaw12_StandingFiner.j0 (k + 1) y0 y1 y2 y3 y4 y5 y6 y7 y8 y9)) ∧ (∀ y0 y1 y2 y3 y4 y5 y6 y7 y8 y9, LeO (spilelaw12_StandingFiner.j1 k y0 y1 y2 y3 y4 y5 y6 y7 y8 y9) (spilelaw12_StandingFiner.j1 (k + 1) y0 y1 y2 y3 y4 y5 y6 y7 y8 y9))
 | 0 => ⟨fun _ _ _ _ _ _ _ _ _ _ r h => by simp [spilelaw12_StandingFiner.j0] at h, fun _ _ _ _ _ _ _ _ _ _ r h => by simp [spilelaw12_StandingFiner.j1] at h⟩
 | k + 1 => by
  obtain ⟨ih0, ih1⟩ := spilelaw12_StandingFiner.mono_l k
  refine ⟨?_, ?_⟩
  ·intro y0 y1 y2 y3 y4 y5 y6 y7 y8 y9
   unfold spilelaw12_StandingFiner.j0
   repeat' first
   | (with_reducible exact ih0 _ _ _ _ _ _ _ _ _ _)
   | (with_reducible exact ih1 _ _ _ _ _ _ _ _ _ _)
   | (with_reducible exact slices_BinarySearch_int_int.mono _ _ _)
   | (with_reducible exact spilelaw12_awake.mono _)
   | (with_reducible exact spilelaw12_few.mono _ _ _ _ _ _)
   | (with_reducible exact spilelaw12_own.mono _ _ _ _ _)
   | (with_reducible exact standing_Between.mono _ _ _ _ _ _)
   | (with_reducible exact LeO.refl _)
   | (with_reducible exact LeO.none _)
   | (with_reducible refine LeO.ite ?_ ?_)
   | (with_reducible refine LeO.bind ?_ (fun _ => ?_))
   | exact ih0 _ _ _ _ _ _ _ _ _ _
   | exact ih1 _ _ _ _ _ _ _ _ _ _
   | exact slices_BinarySearch_int_int.mono _ _ _
   | exact spilelaw12_awake.mono _
   | exact spilelaw12_few.mono _ _ _ _ _ _
   | exact spilelaw12_own.mono _ _ _ _ _
   | exact standing_Between.mono _ _ _ _ _ _
   | exact LeO.none _
   | refine LeO.ite ?_ ?_
   | refine LeO.bind ?_ (fun _ => ?_)
  ·intro y0 y1 y2 y3 y4 y5 y6 y7 y8 y9
   unfold spilelaw12_StandingFiner.j1
   repeat' first
   | (with_reducible exact ih0 _ _ _ _ _ _ _ _ _ _)
   | (with_reducible exact ih1 _ _ _ _ _ _ _ _ _ _)
   | (with_reducible exact slices_BinarySearch_int_int.mono _ _ _)
   | (with_reducible exact spilelaw12_awake.mono _)
   | (with_reducible exact spilelaw12_few.mono _ _ _ _ _ _)
   | (with_reducible exact spilelaw12_own.mono _ _ _ _ _)
   | (with_reducible exact standing_Between.mono _ _ _ _ _ _)
   | (with_reducible exact LeO.refl _)
   | (with_reducible exact LeO.none _)
   | (with_reducible refine LeO.ite ?_ ?_)
   | (with_reducible refine LeO.bind ?_ (fun _ => ?_))
   | exact ih0 _ _ _ _ _ _ _ _ _ _
   | exact ih1 _ _ _ _ _ _ _ _ _ _
   | exact slices_BinarySearch_int_int.mono _ _ _
   | exact spilelaw12_awake.mono _
   | exact spilelaw12_few.mono _ _ _ _ _ _
   | exact spilelaw12_own.mono _ _ _ _ _
   | exact standing_Between.mono _ _ _ _ _ _
   | exact LeO.none _
   | refine LeO.ite ?_ ?_
   | refine LeO.bind ?_ (fun _ => ?_)
theorem spilelaw12_StandingFiner.mono : ∀ a0 a1 a2 a3 a4 a5 k, LeO (spilelaw12_StandingFiner.f k a0 a1 a2 a3 a4 a5) (spilelaw12_StandingFiner.f (k + 1) a0 a1 a2 a3 a4 a5) := by
 intro a0 a1 a2 a3 a4 a5 k
 obtain ⟨ih0, ih1⟩ := spilelaw12_StandingFiner.mono_l k
 unfold spilelaw12_StandingFiner.f
 repeat' first
   | (with_reducible exact ih0 _ _ _ _ _ _ _ _ _ _)
   | (with_reducible exact ih1 _ _ _ _ _ _ _ _ _ _)
   | (with_reducible exact slices_BinarySearch_int_int.mono _ _ _)
   | (with_reducible exact spilelaw12_awake.mono _)
   | (with_reducible exact spilelaw12_few.mono _ _ _ _ _ _)
   | (with_reducible exact spilelaw12_own.mono _ _ _ _ _)
   | (with_reducible exact standing_Between.mono _ _ _ _ _ _)
   | (with_reducible exact LeO.refl _)
   | (with_reducible exact LeO.none _)
   | (with_reducible refine LeO.ite ?_ ?_)
   | (with_reducible refine LeO.bind ?_ (fun _ => ?_))
   | exact ih0 _ _ _ _ _ _ _ _ _ _
   | exact ih1 _ _ _ _ _ _ _ _ _ _
   | exact slices_BinarySearch_int_int.mono _ _ _
   | exact spilelaw12_awake.mono _
   | exact spilelaw12_few.mono _ _ _ _ _ _
   | exact spilelaw12_own.mono _ _ _ _ _
   | exact standing_Between.mono _ _ _ _ _ _
   | exact LeO.none _
   | refine LeO.ite ?_ ?_
   | refine LeO.bind ?_ (fun _ => ?_)
set_option maxHeartbeats 8000000 in
set_option maxRecDepth 100000 in
theorem spilelaw12_StandingFiner.calls (k : Nat) (a0_0 : ByteArray) (a0_1 : Int) (A0_2 : Option Addr) (c0_2 : Nat) (l0_2 : List (S33)) (a0_3 : Int) (A1 : Option Addr) (c1 : Nat) (l1 : List Int) (a2 : Int) (r : Bool) (w : World) (hr0_2 : Kd.C k33 w A0_2 l0_2.length l0_2) (hc0_2 : l0_2.length ≤ c0_2) (hr1 : Kd.C (Kd.int .i64) w A1 l1.length l1) (hc1 : l1.length ≤ c1) (h : spilelaw12_StandingFiner.f k a0_0 a0_1 l0_2 a0_3 l1 a2 = some r) :
  Calls Try.prog 9 #[.agg #[.string a0_0, .int .i64 a0_1, .slice A0_2 l0_2.length c0_2, .int .i64 a0_3], .slice A1 l1.length c1, .int .i64 a2] w fun e w' => e = .returned (.bool r) ∧ Below w.heap.size w w' := by
 have hu24 := Try.underlying24
 have hu40 := Try.underlying40
 have HR0_2 := Aside0.mk hr0_2
 have HC0_2 := Aside0.mk hc0_2
 clear hr0_2 hc0_2
 have HR1 := Aside0.mk hr1
 have HC1 := Aside0.mk hc1
 clear hr1 hc1
 have HB := Aside0.mk (Below.refl w.heap.size w)
 have H : ((spilelaw12_awake.f k).bind fun t643 => (if t643 = true then ((spilelaw12_few.f k a0_0 a0_1 l0_2 a0_3 l1).bind fun t644 => (if t644 = true then ((spilelaw12_own.f k a0_0 a0_1 l0_2 a0_3).bind fun bt645 => ((clone18.f l1).bind fun t651 => ((standing_Between.f k bt645.1 bt645.2.1 bt645.2.2.1 bt645.2.2.2 t651).bind fun bt654 => (if bt654.2.2 = 0 then (spilelaw12_StandingFiner.j0 k l1 a2 bt654.2.2 (decide ((l1.length : Int) < 2)) a0_0 a0_1 l0_2 a0_3 bt654.1 bt654.2.1) else (spilelaw12_StandingFiner.j0 k l1 a2 bt654.2.2 true a0_0 a0_1 l0_2 a0_3 bt654.1 bt654.2.1))))) else (some true))) else (none))) = some r := h
 clear h
 replace H := Option.bind_eq_some_iff.mp H
 obtain ⟨t643, A40, H⟩ := H
 replace H : (if t643 = true then ((spilelaw12_few.f k a0_0 a0_1 l0_2 a0_3 l1).bind fun t644 => (if t644 = true then ((spilelaw12_own.f k a0_0 a0_1 l0_2 a0_3).bind fun bt645 => ((clone18.f l1).bind fun t651 => ((standing_Between.f k bt645.1 bt645.2.1 bt645.2.2.1 bt645.2.2.2 t651).bind fun bt654 => (if bt654.2.2 = 0 then (spilelaw12_StandingFiner.j0 k l1 a2 bt654.2.2 (decide ((l1.length : Int) < 2)) a0_0 a0_1 l0_2 a0_3 bt654.1 bt654.2.1) else (spilelaw12_StandingFiner.j0 k l1 a2 bt654.2.2 true a0_0 a0_1 l0_2 a0_3 bt654.1 bt654.2.1))))) else (some true))) else (none)) = some r := H
 have A4 := Aside0.mk A40
 clear A40
 by_cases c5 : t643 = true
 ·subst c5
  have H1 : ((spilelaw12_few.f k a0_0 a0_1 l0_2 a0_3 l1).bind fun t644 => (if t644 = true then ((spilelaw12_own.f k a0_0 a0_1 l0_2 a0_3).bind fun bt645 => ((clone18.f l1).bind fun t651 => ((standing_Between.f k bt645.1 bt645.2.1 bt645.2.2.1 bt645.2.2.2 t651).bind fun bt654 => (if bt654.2.2 = 0 then (spilelaw12_StandingFiner.j0 k l1 a2 bt654.2.2 (decide ((l1.length : Int) < 2)) a0_0 a0_1 l0_2 a0_3 bt654.1 bt654.2.1) else (spilelaw12_StandingFiner.j0 k l1 a2 bt654.2.2 true a0_0 a0_1 l0_2 a0_3 bt654.1 bt654.2.1))))) else (some true))) = some r := by rw [if_pos rfl] at H; exact H
  clear H
  have H := H1
  clear H1
  replace H := Option.bind_eq_some_iff.mp H
  obtain ⟨t644, A60, H⟩ := H
  replace H : (if t644 = true then ((spilelaw12_own.f k a0_0 a0_1 l0_2 a0_3).bind fun bt645 => ((clone18.f l1).bind fun t651 => ((standing_Between.f k bt645.1 bt645.2.1 bt645.2.2.1 bt645.2.2.2 t651).bind fun bt654 => (if bt654.2.2 = 0 then (spilelaw12_StandingFiner.j0 k l1 a2 bt654.2.2 (decide ((l1.length : Int) < 2)) a0_0 a0_1 l0_2 a0_3 bt654.1 bt654.2.1) else (spilelaw12_StandingFiner.j0 k l1 a2 bt654.2.2 true a0_0 a0_1 l0_2 a0_3 bt654.1 bt654.2.1))))) else (some true)) = some r := H
  have A6 := Aside0.mk A60
  clear A60
  by_cases c7 : t644 = true
  ·subst c7
   have H1 : ((spilelaw12_own.f k a0_0 a0_1 l0_2 a0_3).bind fun bt645 => ((clone18.f l1).bind fun t651 => ((standing_Between.f k bt645.1 bt645.2.1 bt645.2.2.1 bt645.2.2.2 t651).bind fun bt654 => (if bt654.2.2 = 0 then (spilelaw12_StandingFiner.j0 k l1 a2 bt654.2.2 (decide ((l1.length : Int) < 2)) a0_0 a0_1 l0_2 a0_3 bt654.1 bt654.2.1) else (spilelaw12_StandingFiner.j0 k l1 a2 bt654.2.2 true a0_0 a0_1 l0_2 a0_3 bt654.1 bt654.2.1))))) = some r := by rw [if_pos rfl] at H; exact H
   clear H
   have H := H1
   clear H1
   replace H := Option.bind_eq_some_iff.mp H
   obtain ⟨⟨t645, t646, t647, t650⟩, A80, H⟩ := H
   replace H : ((clone18.f l1).bind fun t651 => ((standing_Between.f k t645 t646 t647 t650 t651).bind fun bt654 => (if bt654.2.2 = 0 then (spilelaw12_StandingFiner.j0 k l1 a2 bt654.2.2 (decide ((l1.length : Int) < 2)) a0_0 a0_1 l0_2 a0_3 bt654.1 bt654.2.1) else (spilelaw12_StandingFiner.j0 k l1 a2 bt654.2.2 true a0_0 a0_1 l0_2 a0_3 bt654.1 bt654.2.1)))) = some r := H
   have A8 := Aside0.mk A80
   clear A80
   replace H := Option.bind_eq_some_iff.mp H
   obtain ⟨t651, A90, H⟩ := H
   replace H : ((standing_Between.f k t645 t646 t647 t650 t651).bind fun bt654 => (if bt654.2.2 = 0 then (spilelaw12_StandingFiner.j0 k l1 a2 bt654.2.2 (decide ((l1.length : Int) < 2)) a0_0 a0_1 l0_2 a0_3 bt654.1 bt654.2.1) else (spilelaw12_StandingFiner.j0 k l1 a2 bt654.2.2 true a0_0 a0_1 l0_2 a0_3 bt654.1 bt654.2.1))) = some r := H
   have A9 := Aside0.mk A90
   clear A90
   replace H := Option.bind_eq_some_iff.mp H
   obtain ⟨⟨t654, t655, t656⟩, A100, H⟩ := H
   replace H : (if t656 = 0 then (spilelaw12_StandingFiner.j0 k l1 a2 t656 (decide ((l1.length : Int) < 2)) a0_0 a0_1 l0_2 a0_3 t654 t655) else (spilelaw12_StandingFiner.j0 k l1 a2 t656 true a0_0 a0_1 l0_2 a0_3 t654 t655)) = some r := H
   have A10 := Aside0.mk A100
   clear A100
   have HC11 := Aside0.mk H
   clear H
   go_enter Try.func9, Try.ntmps9
   go_upto_region 6 with (first | ((with_reducible refine gqD (N := 3) rfl ?_); (try (refine gate_guard (by rfl) ?_; dsimp only)); refine GS.bx (N := 3) (cs := #[.string a0_0, .int .i64 a0_1, .slice A0_2 l0_2.length c0_2, .int .i64 a0_3]) (t := 24) ?_; intro gb642 hg w12 hbox hb; have n0_ := Aside0.mk (lqT (GS.lB HB.out) hb); have n1_ := Aside0.mk (hbox); have n2_ := Aside0.mk ((by rw [hg]; exact (lqZ (GS.lB HB.out)) : w.heap.size ≤ gb642)); have n3_ := Aside0.mk ((by rw [hg]; exact (lqZ (GS.lB HB.out)) : w.heap.size ≤ gb642)); clear HB; have HB := n0_; have BK642 := n1_; have GW642 := n2_; have GE642 := n3_; clear n0_ n1_ n2_ n3_; clear hb hbox hg) | ((with_reducible refine gqC (f := 10) rfl ?_); refine GS.gL (some 13) Try.func10 #[] ?_; (with_reducible refine (spilelaw12_awake.calls k  true _ A4.out).mono ?_); rintro e w13 ⟨rfl, hb⟩; refine ⟨_, rfl, ?_⟩; have n0_ := Aside0.mk (bqB (GS.bqX BK642.out) hb); have n1_ := Aside0.mk (lqT (GS.lB HB.out) hb); clear BK642; clear HB; have BK642 := n0_; have HB := n1_; clear n0_ n1_; (try clear hb); (try clear hb2); (try clear hk); (try clear hi); obtain ⟨hcz14_0, hcz14_1, hcz14_2, hcz14_3, hfz14_0, hfz14_1, hfz14_2, hfz14_3⟩ := GS.c4 BK642.out) | ((with_reducible refine gqC (f := 11) rfl ?_); refine GS.gL (some 17) Try.func11 #[.agg #[.string a0_0, .int .i64 a0_1, .slice A0_2 l0_2.length c0_2, .int .i64 a0_3], .slice A1 l1.length c1] ?_; (with_reducible refine (spilelaw12_few.calls k a0_0 a0_1 (fun k_ => k_ < w.heap.size) _ _ l0_2 a0_3 _ _ l1 true _ ?side1 ?side2 ?side3 A6.out).mono ?_); (case side1 => exact Kd.V_mk HC0_2.out (Kd.F_below (Kd.C_F k33_heap HR0_2.out) (GS.lB HB.out))); (case side2 => exact GS.rC (Kd.C_below HR1.out HB.out)); (case side3 => exact HC1.out); rintro e w15 ⟨rfl, hb⟩; refine ⟨_, rfl, ?_⟩; have n0_ := Aside0.mk (bqB (GS.bqX BK642.out) hb); have n1_ := Aside0.mk (lqT (GS.lB HB.out) hb); clear BK642; clear HB; have BK642 := n0_; have HB := n1_; clear n0_ n1_; (try clear hb); (try clear hb2); (try clear hk); (try clear hi); obtain ⟨hcz16_0, hcz16_1, hcz16_2, hcz16_3, hfz16_0, hfz16_1, hfz16_2, hfz16_3⟩ := GS.c4 BK642.out) | ((with_reducible refine gqC (f := 17) rfl ?_); refine GS.gL (some 21) Try.func17 #[.agg #[.string a0_0, .int .i64 a0_1, .slice A0_2 l0_2.length c0_2, .int .i64 a0_3]] ?_; (with_reducible refine (spilelaw12_own.calls k a0_0 a0_1 (fun k_ => k_ < w.heap.size) _ _ l0_2 a0_3 t645 t646 t647 t650 _ ?side1 A8.out).mono ?_); (case side1 => exact Kd.V_mk HC0_2.out (Kd.F_below (Kd.C_F k33_heap HR0_2.out) (GS.lB HB.out))); rintro e w17 ⟨v648, rfl, ho0, hb⟩; refine ⟨_, rfl, ?_⟩; have n0_ := Aside0.mk (Kd.V_lower (Kd.V_mono (ok' := fun k_ => k_ ≠ gb642) ho0 (fun k_ hk_ => Or.elim hk_ (fun hs_ => fun e_ => Nat.not_le.2 hs_ (by rw [e_]; exact GW642.out)) (fun hn_ => (Kd.freshB (GS.bqX BK642.out) k_ hn_)))) (lqZ (GS.lB HB.out))); have n1_ := Aside0.mk (bqB (GS.bqX BK642.out) hb); have n2_ := Aside0.mk (lqT (GS.lB HB.out) hb); clear BK642; clear HB; have HO649 := n0_; have BK642 := n1_; have HB := n2_; clear n0_ n1_ n2_; (try clear hb); (try clear hb2); (try clear hk); (try clear hi); (try clear ho0)) | ((with_reducible refine gqC (f := 18) rfl ?_); refine GS.gL (some 23) Try.func18 #[.slice A1 l1.length c1] ?_; (with_reducible refine (clone18.calls _ _ l1 t651 _ ?side1 ?side2 A9.out).mono ?_); (case side1 => exact GS.rC (Kd.C_below HR1.out HB.out)); (case side2 => exact HC1.out); rintro e w18 ⟨v652, rfl, ho0, hb⟩; refine ⟨_, rfl, ?_⟩; have n0_ := Aside0.mk (Kd.V_elder' (by (with_reducible repeat (first | apply Kd.V_alloc | apply Kd.V_drewN | apply Kd.V_drew)); exact HO649.out) (Kd.R_base ho0) hb); have n1_ := Aside0.mk (Kd.R_lower ho0 (lqZ (GS.lB HB.out))); have n2_ := Aside0.mk (bqB (GS.bqX BK642.out) hb); have n3_ := Aside0.mk (lqT (GS.lB HB.out) hb); clear HO649; clear BK642; clear HB; have HO649 := n0_; have HO653 := n1_; have BK642 := n2_; have HB := n3_; clear n0_ n1_ n2_ n3_; (try clear hb); (try clear hb2); (try clear hk); (try clear hi); (try clear ho0); obtain ⟨Ao19, co19, eo19⟩ := Kd.V_slice HO649.out; subst eo19; obtain ⟨Ao20, co20, eo20⟩ := Kd.R_slice HO653.out; subst eo20) | ((with_reducible refine gqC (f := 20) rfl ?_); refine GS.gL (some 24) Try.func20 #[.agg #[.string t645, .int .i64 t646, .slice Ao19 t647.length co19, .int .i64 t650], .slice Ao20 t651.length co20] ?_; (with_reducible refine (standing_Between.calls k t645 t646 _ _ t647 t650 _ _ t651 t654 t655 t656 _ ?side1 ?side2 ?side3 ?side4 A10.out).mono ?_); (case side1 => repeat (first | exact (Kd.V_reads' HO649.out).2.2 | (with_reducible refine Kd.C_alloc ?_ _) | (with_reducible refine Kd.C_drewN ?_ _) | (with_reducible refine Kd.C_drew ?_))); (case side2 => exact (Kd.V_reads' HO649.out).2.1); (case side3 => repeat (first | exact (Kd.R_reads' HO653.out).2.2 | (with_reducible refine Kd.C_alloc ?_ _) | (with_reducible refine Kd.C_drewN ?_ _) | (with_reducible refine Kd.C_drew ?_))); (case side4 => exact (Kd.R_reads' HO653.out).2.1); rintro e w21 ⟨rfl, hb⟩; refine ⟨_, rfl, ?_⟩; have n0_ := Aside0.mk (Kd.V_below (by (with_reducible repeat (first | apply Kd.V_alloc | apply Kd.V_drewN | apply Kd.V_drew)); exact HO649.out) hb); have n1_ := Aside0.mk (Kd.R_below (GS.rR HO653.out) hb); have n2_ := Aside0.mk (bqB (GS.bqX BK642.out) hb); have n3_ := Aside0.mk (lqT (GS.lB HB.out) hb); clear HO649; clear HO653; clear BK642; clear HB; have HO649 := n0_; have HO653 := n1_; have BK642 := n2_; have HB := n3_; clear n0_ n1_ n2_ n3_; (try clear hb); (try clear hb2); (try clear hk); (try clear hi)) | ((with_reducible refine gqD (N := 7) rfl ?_); (try (refine gate_guard (by rfl) ?_; dsimp only)); refine GS.bx (N := 7) (cs := #[.int .i64 0, .int .i64 0]) (t := 40) ?_; intro gb657 hg w22 hbox hb; have n0_ := Aside0.mk (Kd.V_below (Kd.V_elderB (by (with_reducible repeat (first | apply Kd.V_alloc | apply Kd.V_drewN | apply Kd.V_drew)); exact HO649.out) gb657 (Nat.le_of_eq hg.symm)) hb); have n1_ := Aside0.mk (Kd.R_below (GS.rR HO653.out) hb); have n2_ := Aside0.mk (bqB (GS.bqX BK642.out) hb); have n3_ := Aside0.mk (lqT (GS.lB HB.out) hb); have n4_ := Aside0.mk (hbox); have n5_ := Aside0.mk ((by rw [hg]; exact (lqZ (GS.lB HB.out)) : w.heap.size ≤ gb657)); have n6_ := Aside0.mk ((by rw [hg]; exact (lqZ (GS.lB HB.out)) : w.heap.size ≤ gb657)); have n7_ := Aside0.mk ((by rw [hg]; exact Nat.ne_of_lt (blk_lt (GS.bqX BK642.out)) : gb642 ≠ gb657)); have n8_ := Aside0.mk ((by rw [hg]; exact Nat.ne_of_gt (blk_lt (GS.bqX BK642.out)) : gb657 ≠ gb642)); clear HO649; clear HO653; clear BK642; clear HB; have HO649 := n0_; have HO653 := n1_; have BK642 := n2_; have HB := n3_; have BK657 := n4_; have GW657 := n5_; have GE657 := n6_; have NB642_657 := n7_; have NB657_642 := n8_; clear n0_ n1_ n2_ n3_ n4_ n5_ n6_ n7_ n8_; clear hb hbox hg; have hnb23 := NB657_642.out; have hnc23 := NB642_657.out; obtain ⟨hcz24_0, hcz24_1, hfz24_0, hfz24_1⟩ := GS.c2 BK657.out))
   (try simp only [Act.put, List.setIfInBounds_toArray, List.set_cons_zero, List.set_cons_succ])
   go_cut [33] (fun v33 wc => ∃ (kq : Nat) (x33_10 : Bool), v33 = .bool x33_10 ∧ Aside0 (spilelaw12_StandingFiner.j0 kq l1 a2 t656 x33_10 a0_0 a0_1 l0_2 a0_3 t654 t655 = some r) ∧ Aside0 (kq ≤ k) ∧ Aside0 (wc.heap[gb642]? = some (.cells #[.string a0_0, .int .i64 a0_1, (.slice A0_2 l0_2.length c0_2), .int .i64 a0_3] 24 (0, 0))) ∧ Aside0 (wc.heap[gb657]? = some (.cells #[.int .i64 t654, .int .i64 t655] 40 (0, 0))) ∧ Aside0 (Below w.heap.size w wc))
   case first =>
    have H := HC11.out
    clear HC11
    by_cases c25 : t656 = 0
    ·rw [if_pos c25] at H
     have c25b0 : (t656 == 0) = true := beq_iff_eq.mpr c25
     try simp only [beq_self_eq_true, Bool.not_true, Bool.false_or, Bool.true_and] at c25b0
     have c25b1 : (t656 != 0) = false := bne_eq_false_iff_eq.mpr c25
     clear c25
     (first | rw [c25b0] | (simp only [i64_w, i32_w]; rw [c25b0]) | skip)
     have H' := Aside0.mk H
     clear H
     go_wp2
     go_meet
     case rel => exact ⟨_, (decide ((l1.length : Int) < 2)), (by first | rfl | (simp; done) | (simp [*]; done)), H', ⟨by first | omega | exact Nat.le_refl _⟩, ⟨GS.bqX BK642.out⟩, ⟨GS.bqZ BK657.out⟩, ⟨GS.lB HB.out⟩⟩
    ·rw [if_neg c25] at H
     have c25b0 : (t656 == 0) = false := beq_eq_false_iff_ne.mpr c25
     try simp only [beq_self_eq_true, Bool.not_true, Bool.false_or, Bool.true_and] at c25b0
     have c25b1 : (t656 != 0) = true := bne_iff_ne.mpr c25
     (first | rw [c25b0] | (simp only [i64_w, i32_w]; rw [c25b0]) | skip)
     have H' := Aside0.mk H
     clear H
     go_wp2
     go_meet
     case rel => exact ⟨_, (true), (by first | rfl | (simp; done) | (simp [*]; done)), H', ⟨by first | omega | exact Nat.le_refl _⟩, ⟨GS.bqX BK642.out⟩, ⟨GS.bqZ BK657.out⟩, ⟨GS.lB HB.out⟩⟩
   case rest =>
    clear HC11
    try clear c1
    try clear c2
    try clear p2
    try clear c5
    try clear c7
    try clear c9
    try clear c10
    try clear c11
    try clear c17
    try clear c18
    try clear c20
    try clear c23
    try clear c25
    try clear c25b0
    try clear c25b1
    try clear hcz14_0
    try clear hcz14_1
    try clear hcz14_2
    try clear hcz14_3
    try clear hcz16_0
    try clear hcz16_1
    try clear hcz16_2
    try clear hcz16_3
    try clear hcz24_0
    try clear hcz24_1
    try clear hfz14_0
    try clear hfz14_1
    try clear hfz14_2
    try clear hfz14_3
    try clear hfz16_0
    try clear hfz16_1
    try clear hfz16_2
    try clear hfz16_3
    try clear hfz24_0
    try clear hfz24_1
    obtain ⟨kq, x33_10, rfl, HA, HJ10, BK642, BK657, HB⟩ := hcut
    cases kq with
    | zero => exact absurd HA.out (by simp [spilelaw12_StandingFiner.j0])
    | succ kj10 =>
     have H := HA.out
     clear HA
     simp only [spilelaw12_StandingFiner.j0] at H
     by_cases c26 : x33_10 = true
     ·subst c26
      have H1 : (if t656 = 0 then (none) else (some (t654 == 0 && (t655 == 0)))) = some r := by rw [if_pos rfl] at H; exact H
      clear H
      have H := H1
      clear H1
      by_cases c27 : t656 = 0
      ·rw [if_pos c27] at H
       exact absurd H (by simp)
      ·rw [if_neg c27] at H
       have c27b0 : (t656 == 0) = false := beq_eq_false_iff_ne.mpr c27
       try simp only [beq_self_eq_true, Bool.not_true, Bool.false_or, Bool.true_and] at c27b0
       have c27b1 : (t656 != 0) = true := bne_iff_ne.mpr c27
       obtain rfl := Option.some.inj H
       have hnb28 := NB657_642.out
       have hnc28 := NB642_657.out
       obtain ⟨hcz29_0, hcz29_1, hfz29_0, hfz29_1⟩ := GS.c2 BK657.out
       go_wp2
       go_ret
       exact ⟨by first | rfl | (simp [errW_none, errW_some] <;> rfl) | (simp [*, errW_none, errW_some] <;> rfl), GS.lB HB.out⟩
     ·replace c26 := Bool.eq_false_iff.mpr c26
      subst c26
      have H1 : ((slices_BinarySearch_int_int.f kj10 l1 a2).bind fun bt658 => (if bt658.2 = true then (spilelaw12_StandingFiner.j1 kj10 l1 a2 bt658.1 true a0_0 a0_1 l0_2 a0_3 t654 t655) else (if 0 < (l1.length : Int) then (if a2 < (rd l1 0) then (spilelaw12_StandingFiner.j1 kj10 l1 a2 bt658.1 true a0_0 a0_1 l0_2 a0_3 t654 t655) else (if 0 ≤ (wrap64 ((l1.length : Int) - 1)) then (if (wrap64 ((l1.length : Int) - 1)) < (l1.length : Int) then (if a2 > (rd l1 (wrap64 ((l1.length : Int) - 1))) then (spilelaw12_StandingFiner.j1 kj10 l1 a2 bt658.1 true a0_0 a0_1 l0_2 a0_3 t654 t655) else (spilelaw12_StandingFiner.j1 kj10 l1 a2 bt658.1 (decide ((l1.length : Int) ≥ 128)) a0_0 a0_1 l0_2 a0_3 t654 t655)) else (none)) else (none))) else (none)))) = some r := by rw [if_neg (show ¬ (false = true) by decide)] at H; exact H
      clear H
      have H := H1
      clear H1
      replace H := Option.bind_eq_some_iff.mp H
      obtain ⟨⟨t658, t659⟩, A300, H⟩ := H
      replace H : (if t659 = true then (spilelaw12_StandingFiner.j1 kj10 l1 a2 t658 true a0_0 a0_1 l0_2 a0_3 t654 t655) else (if 0 < (l1.length : Int) then (if a2 < (rd l1 0) then (spilelaw12_StandingFiner.j1 kj10 l1 a2 t658 true a0_0 a0_1 l0_2 a0_3 t654 t655) else (if 0 ≤ (wrap64 ((l1.length : Int) - 1)) then (if (wrap64 ((l1.length : Int) - 1)) < (l1.length : Int) then (if a2 > (rd l1 (wrap64 ((l1.length : Int) - 1))) then (spilelaw12_StandingFiner.j1 kj10 l1 a2 t658 true a0_0 a0_1 l0_2 a0_3 t654 t655) else (spilelaw12_StandingFiner.j1 kj10 l1 a2 t658 (decide ((l1.length : Int) ≥ 128)) a0_0 a0_1 l0_2 a0_3 t654 t655)) else (none)) else (none))) else (none))) = some r := H
      have A30 := Aside0.mk A300
      clear A300
      have HC31 := Aside0.mk H
      clear H
      go_upto_region 9 with (first | ((with_reducible refine gqC (f := 30) rfl ?_); refine GS.gL (some 44) Try.func30 #[.slice A1 l1.length c1, .int .i64 a2] ?_; (with_reducible refine (slices_BinarySearch_int_int.calls kj10 _ _ l1 a2 t658 t659 _ ?side1 ?side2 A30.out).mono ?_); (case side1 => exact GS.rC (Kd.C_below HR1.out HB.out)); (case side2 => exact HC1.out); rintro e w' ⟨rfl, ⟨nd, rfl⟩⟩; refine ⟨_, rfl, ?_⟩))
      (try simp only [Act.put, List.setIfInBounds_toArray, List.set_cons_zero, List.set_cons_succ])
      go_cut [69] (fun v69 wc => ∃ (kq : Nat) (x69_30 : Bool), v69 = .bool x69_30 ∧ Aside0 (spilelaw12_StandingFiner.j1 kq l1 a2 t658 x69_30 a0_0 a0_1 l0_2 a0_3 t654 t655 = some r) ∧ Aside0 (kq ≤ kj10) ∧ Aside0 (wc.heap[gb642]? = some (.cells #[.string a0_0, .int .i64 a0_1, (.slice A0_2 l0_2.length c0_2), .int .i64 a0_3] 24 (0, 0))) ∧ Aside0 (wc.heap[gb657]? = some (.cells #[.int .i64 t654, .int .i64 t655] 40 (0, 0))) ∧ Aside0 (Below w.heap.size w wc))
      case first =>
       have H := HC31.out
       clear HC31
       by_cases c32 : t659 = true
       ·subst c32
        have H1 : (spilelaw12_StandingFiner.j1 kj10 l1 a2 t658 true a0_0 a0_1 l0_2 a0_3 t654 t655) = some r := by rw [if_pos rfl] at H; exact H
        clear H
        have H := H1
        clear H1
        have H' := Aside0.mk H
        clear H
        go_wp2
        go_meet
        case rel => exact ⟨_, (true), (by first | rfl | (simp; done) | (simp [*]; done)), H', ⟨by have := HJ10.out; first | omega | exact Nat.le_refl _⟩, ⟨GS.bqX BK642.out⟩, ⟨GS.bqX BK657.out⟩, ⟨GS.lB HB.out⟩⟩
       ·replace c32 := Bool.eq_false_iff.mpr c32
        subst c32
        have H1 : (if 0 < (l1.length : Int) then (if a2 < (rd l1 0) then (spilelaw12_StandingFiner.j1 kj10 l1 a2 t658 true a0_0 a0_1 l0_2 a0_3 t654 t655) else (if 0 ≤ (wrap64 ((l1.length : Int) - 1)) then (if (wrap64 ((l1.length : Int) - 1)) < (l1.length : Int) then (if a2 > (rd l1 (wrap64 ((l1.length : Int) - 1))) then (spilelaw12_StandingFiner.j1 kj10 l1 a2 t658 true a0_0 a0_1 l0_2 a0_3 t654 t655) else (spilelaw12_StandingFiner.j1 kj10 l1 a2 t658 (decide ((l1.length : Int) ≥ 128)) a0_0 a0_1 l0_2 a0_3 t654 t655)) else (none)) else (none))) else (none)) = some r := by rw [if_neg (show ¬ (false = true) by decide)] at H; exact H
        clear H
        have H := H1
        clear H1
        by_cases c33 : 0 < (l1.length : Int)
        ·rw [if_pos c33] at H
         have c33b0 : decide (0 < (l1.length : Int)) = true := decide_eq_true c33
         have c33b1 : decide (0 < l1.length) = true := decide_eq_true (by omega)
         clear c33
         (first | rw [c33b0] | (simp only [i64_w, i32_w]; rw [c33b0]) | skip)
         by_cases c34 : a2 < (rd l1 0)
         ·rw [if_pos c34] at H
          have c34b0 : decide (a2 < (rd l1 0)) = true := decide_eq_true c34
          clear c34
          have H' := Aside0.mk H
          clear H
          have p660 : 0 ≤ (0 : Int) := (by omega)
          have q660 : 0 < (l1.length : Int) := of_decide_eq_true (by first | (with_reducible assumption) | assumption)
          obtain ⟨ad660, e660, hx660_0⟩ := Kd.at_int HR1.out 0 p660 q660
          cases e660
          have qi660 : (0 < l1.length) = True := eq_true (by omega)
          (try rw [show ((0 : Int)).toNat = 0 from rfl] at hx660_0)
          (try rw [Addr.add_zero'] at hx660_0)
          replace hx660_0 := (HB.out.cell (World.block_lt_of_cell? w _ hx660_0)).trans hx660_0
          replace p660 := eq_true p660
          replace q660 := eq_true q660
          go_wp2
          go_meet
          case rel => exact ⟨_, (true), (by first | rfl | (simp; done) | (simp [*]; done)), H', ⟨by have := HJ10.out; first | omega | exact Nat.le_refl _⟩, ⟨GS.bqX BK642.out⟩, ⟨GS.bqX BK657.out⟩, ⟨GS.lB HB.out⟩⟩
         ·rw [if_neg c34] at H
          have c34b0 : decide (a2 < (rd l1 0)) = false := decide_eq_false c34
          clear c34
          obtain ⟨ji35, hji35⟩ : ∃ j_ : Int, (wrap64 ((l1.length : Int) - 1)) = j_ := ⟨_, rfl⟩
          replace H : (if 0 ≤ (ji35) then (if (ji35) < (l1.length : Int) then (if a2 > (rd l1 (ji35)) then (spilelaw12_StandingFiner.j1 kj10 l1 a2 t658 true a0_0 a0_1 l0_2 a0_3 t654 t655) else (spilelaw12_StandingFiner.j1 kj10 l1 a2 t658 (decide ((l1.length : Int) ≥ 128)) a0_0 a0_1 l0_2 a0_3 t654 t655)) else (none)) else (none)) = some r := by first | (rw [hji35] at H; exact H) | (simp only [hji35] at H ⊢; exact H)
          have hji35w : (IntKind.i64.wrap ((l1.length : Int) - 1)) = ji35 := (i64_w _).trans hji35
          by_cases c36 : 0 ≤ (ji35)
          ·rw [if_pos c36] at H
           have c36b0 : decide (0 ≤ (ji35)) = true := decide_eq_true c36
           clear c36
           by_cases c37 : (ji35) < (l1.length : Int)
           ·rw [if_pos c37] at H
            have c37b0 : decide ((ji35) < (l1.length : Int)) = true := decide_eq_true c37
            clear c37
            by_cases c38 : a2 > (rd l1 (ji35))
            ·rw [if_pos c38] at H
             have c38b0 : decide ((rd l1 (ji35)) < a2) = true := decide_eq_true c38
             clear c38
             have H' := Aside0.mk H
             clear H
             have p660 : 0 ≤ (0 : Int) := (by omega)
             have q660 : 0 < (l1.length : Int) := of_decide_eq_true (by first | (with_reducible assumption) | assumption)
             obtain ⟨ad660, e660, hx660_0⟩ := Kd.at_int HR1.out 0 p660 q660
             cases e660
             have qi660 : (0 < l1.length) = True := eq_true (by omega)
             (try rw [show ((0 : Int)).toNat = 0 from rfl] at hx660_0)
             (try rw [Addr.add_zero'] at hx660_0)
             replace hx660_0 := (HB.out.cell (World.block_lt_of_cell? w _ hx660_0)).trans hx660_0
             replace p660 := eq_true p660
             replace q660 := eq_true q660
             have p661 : 0 ≤ ((ji35) : Int) := of_decide_eq_true (by first | (with_reducible assumption) | assumption)
             have q661 : (ji35) < (l1.length : Int) := of_decide_eq_true (by first | (with_reducible assumption) | assumption)
             obtain ⟨ad661, e661, hx661_0⟩ := Kd.at_int HR1.out (ji35) p661 q661
             obtain rfl : ad660 = ad661 := (by injection e661)
             replace hx661_0 := (HB.out.cell (World.block_lt_of_cell? w _ hx661_0)).trans hx661_0
             replace p661 := eq_true p661
             replace q661 := eq_true q661
             go_wp2
             go_meet
             case rel => exact ⟨_, (true), (by first | rfl | (simp; done) | (simp [*]; done)), H', ⟨by have := HJ10.out; first | omega | exact Nat.le_refl _⟩, ⟨GS.bqX BK642.out⟩, ⟨GS.bqX BK657.out⟩, ⟨GS.lB HB.out⟩⟩
            ·rw [if_neg c38] at H
             have c38b0 : decide ((rd l1 (ji35)) < a2) = false := decide_eq_false c38
             clear c38
             have H' := Aside0.mk H
             clear H
             have p660 : 0 ≤ (0 : Int) := (by omega)
             have q660 : 0 < (l1.length : Int) := of_decide_eq_true (by first | (with_reducible assumption) | assumption)
             obtain ⟨ad660, e660, hx660_0⟩ := Kd.at_int HR1.out 0 p660 q660
             cases e660
             have qi660 : (0 < l1.length) = True := eq_true (by omega)
             (try rw [show ((0 : Int)).toNat = 0 from rfl] at hx660_0)
             (try rw [Addr.add_zero'] at hx660_0)
             replace hx660_0 := (HB.out.cell (World.block_lt_of_cell? w _ hx660_0)).trans hx660_0
             replace p660 := eq_true p660
             replace q660 := eq_true q660
             have p661 : 0 ≤ ((ji35) : Int) := of_decide_eq_true (by first | (with_reducible assumption) | assumption)
             have q661 : (ji35) < (l1.length : Int) := of_decide_eq_true (by first | (with_reducible assumption) | assumption)
             obtain ⟨ad661, e661, hx661_0⟩ := Kd.at_int HR1.out (ji35) p661 q661
             obtain rfl : ad660 = ad661 := (by injection e661)
             replace hx661_0 := (HB.out.cell (World.block_lt_of_cell? w _ hx661_0)).trans hx661_0
             replace p661 := eq_true p661
             replace q661 := eq_true q661
             go_wp2
             go_meet
             case rel => exact ⟨_, (decide ((l1.length : Int) ≥ 128)), (by first | rfl | (simp; done) | (simp [*]; done)), H', ⟨by have := HJ10.out; first | omega | exact Nat.le_refl _⟩, ⟨GS.bqX BK642.out⟩, ⟨GS.bqX BK657.out⟩, ⟨GS.lB HB.out⟩⟩
           ·rw [if_neg c37] at H
            exact absurd H (by simp)
          ·rw [if_neg c36] at H
           exact absurd H (by simp)
        ·rw [if_neg c33] at H
         exact absurd H (by simp)
      case rest =>
       clear HC31
       try clear c1
       try clear c2
       try clear p2
       try clear c3
       try clear c5
       try clear p6
       try clear q6
       try clear hx6
       try clear qi6
       try clear c7
       try clear c9
       try clear c10
       try clear c11
       try clear c17
       try clear c18
       try clear c20
       try clear c23
       try clear c25
       try clear c25b0
       try clear c25b1
       try clear c26
       try clear c27
       try clear c27b0
       try clear c27b1
       try clear c28
       try clear c30
       try clear c32
       try clear c33
       try clear c33b0
       try clear c33b1
       try clear c34
       try clear c34b0
       try clear c36
       try clear c36b0
       try clear c37
       try clear c37b0
       try clear c38
       try clear c38b0
       try clear hcz14_0
       try clear hcz14_1
       try clear hcz14_2
       try clear hcz14_3
       try clear hcz16_0
       try clear hcz16_1
       try clear hcz16_2
       try clear hcz16_3
       try clear hcz24_0
       try clear hcz24_1
       try clear hcz29_0
       try clear hcz29_1
       try clear hfz14_0
       try clear hfz14_1
       try clear hfz14_2
       try clear hfz14_3
       try clear hfz16_0
       try clear hfz16_1
       try clear hfz16_2
       try clear hfz16_3
       try clear hfz24_0
       try clear hfz24_1
       try clear hfz29_0
       try clear hfz29_1
       try clear hx660_0
       try clear hx661_0
       try clear p2
       try clear p660
       try clear p661
       try clear q660
       try clear q661
       obtain ⟨kq, x69_30, rfl, HA, HJ30, BK642, BK657, HB⟩ := hcut
       cases kq with
       | zero => exact absurd HA.out (by simp [spilelaw12_StandingFiner.j1])
       | succ kj30 =>
        have H := HA.out
        clear HA
        simp only [spilelaw12_StandingFiner.j1] at H
        by_cases c39 : x69_30 = true
        ·subst c39
         have H1 : (some true) = some r := by rw [if_pos rfl] at H; exact H
         clear H
         have H := H1
         clear H1
         obtain rfl := Option.some.inj H
         go_wp2
         go_ret
         exact ⟨by first | rfl | (simp [errW_none, errW_some] <;> rfl) | (simp [*, errW_none, errW_some] <;> rfl), GS.lB HB.out⟩
        ·replace c39 := Bool.eq_false_iff.mpr c39
         subst c39
         have H1 : ((spilelaw12_own.f kj30 a0_0 a0_1 l0_2 a0_3).bind fun bt662 => ((clone18.f l1).bind fun t668 => ((insert31.f t668 t658 (([a2] : List Int))).bind fun t674 => ((standing_Between.f kj30 bt662.1 bt662.2.1 bt662.2.2.1 bt662.2.2.2 t674).bind fun bt677 => (if bt677.2.2 = 0 then (if t654 ≤ bt677.1 then (if bt677.1 ≤ bt677.2.1 then (some (decide (bt677.2.1 ≤ t655))) else (none)) else (none)) else (none)))))) = some r := by rw [if_neg (show ¬ (false = true) by decide)] at H; exact H
         clear H
         have H := H1
         clear H1
         replace H := Option.bind_eq_some_iff.mp H
         obtain ⟨⟨t662, t663, t664, t667⟩, A400, H⟩ := H
         replace H : ((clone18.f l1).bind fun t668 => ((insert31.f t668 t658 (([a2] : List Int))).bind fun t674 => ((standing_Between.f kj30 t662 t663 t664 t667 t674).bind fun bt677 => (if bt677.2.2 = 0 then (if t654 ≤ bt677.1 then (if bt677.1 ≤ bt677.2.1 then (some (decide (bt677.2.1 ≤ t655))) else (none)) else (none)) else (none))))) = some r := H
         have A40 := Aside0.mk A400
         clear A400
         replace H := Option.bind_eq_some_iff.mp H
         obtain ⟨t668, A410, H⟩ := H
         replace H : ((insert31.f t668 t658 (([a2] : List Int))).bind fun t674 => ((standing_Between.f kj30 t662 t663 t664 t667 t674).bind fun bt677 => (if bt677.2.2 = 0 then (if t654 ≤ bt677.1 then (if bt677.1 ≤ bt677.2.1 then (some (decide (bt677.2.1 ≤ t655))) else (none)) else (none)) else (none)))) = some r := H
         have A41 := Aside0.mk A410
         clear A410
         obtain ⟨y671, hy671⟩ : ∃ y_ : List Int, y_ = (([a2] : List Int)) := ⟨_, rfl⟩
         replace H : ((insert31.f t668 t658 y671).bind fun t674 => ((standing_Between.f kj30 t662 t663 t664 t667 t674).bind fun bt677 => (if bt677.2.2 = 0 then (if t654 ≤ bt677.1 then (if bt677.1 ≤ bt677.2.1 then (some (decide (bt677.2.1 ≤ t655))) else (none)) else (none)) else (none)))) = some r := by first | (rw [hy671]; with_reducible exact H) | (have H2_ := (Option.bind_some _ _).symm.trans H; rw [hy671]; with_reducible exact H2_) | (have H2_ := (Option.bind_some _ _).symm.trans H; with_reducible exact H2_) | with_reducible exact H | (rw [hy671]; exact H) | exact H
         have Ny671 := Aside0.mk hy671
         clear hy671
         replace H := Option.bind_eq_some_iff.mp H
         obtain ⟨t674, A420, H⟩ := H
         replace H : ((standing_Between.f kj30 t662 t663 t664 t667 t674).bind fun bt677 => (if bt677.2.2 = 0 then (if t654 ≤ bt677.1 then (if bt677.1 ≤ bt677.2.1 then (some (decide (bt677.2.1 ≤ t655))) else (none)) else (none)) else (none))) = some r := H
         have A42 := Aside0.mk A420
         clear A420
         replace H := Option.bind_eq_some_iff.mp H
         obtain ⟨⟨t677, t678, t679⟩, A430, H⟩ := H
         replace H : (if t679 = 0 then (if t654 ≤ t677 then (if t677 ≤ t678 then (some (decide (t678 ≤ t655))) else (none)) else (none)) else (none)) = some r := H
         have A43 := Aside0.mk A430
         clear A430
         by_cases c44 : t679 = 0
         ·rw [if_pos c44] at H
          have c44b0 : (t679 == 0) = true := beq_iff_eq.mpr c44
          try simp only [beq_self_eq_true, Bool.not_true, Bool.false_or, Bool.true_and] at c44b0
          have c44b1 : (t679 != 0) = false := bne_eq_false_iff_eq.mpr c44
          clear c44
          by_cases c45 : t654 ≤ t677
          ·rw [if_pos c45] at H
           have c45b0 : decide (t654 ≤ t677) = true := decide_eq_true c45
           clear c45
           by_cases c46 : t677 ≤ t678
           ·rw [if_pos c46] at H
            have c46b0 : decide (t677 ≤ t678) = true := decide_eq_true c46
            clear c46
            obtain rfl := Option.some.inj H
            have hnb47 := NB642_657.out
            have hnc47 := NB657_642.out
            obtain ⟨hcz48_0, hcz48_1, hcz48_2, hcz48_3, hfz48_0, hfz48_1, hfz48_2, hfz48_3⟩ := GS.c4 BK642.out
            go_wp2_with (first | ((with_reducible refine gqC (f := 17) rfl ?_); refine GS.gL (some 72) Try.func17 #[.agg #[.string a0_0, .int .i64 a0_1, .slice A0_2 l0_2.length c0_2, .int .i64 a0_3]] ?_; (with_reducible refine (spilelaw12_own.calls kj30 a0_0 a0_1 (fun k_ => k_ < w.heap.size) _ _ l0_2 a0_3 t662 t663 t664 t667 _ ?side1 A40.out).mono ?_); (case side1 => exact Kd.V_mk HC0_2.out (Kd.F_below (Kd.C_F k33_heap HR0_2.out) (GS.lB HB.out))); rintro e w49 ⟨v665, rfl, ho0, hb⟩; refine ⟨_, rfl, ?_⟩; have n0_ := Aside0.mk (Kd.V_lower (Kd.V_mono (ok' := fun k_ => k_ ≠ gb642 ∧ k_ ≠ gb657) ho0 (fun k_ hk_ => ⟨Or.elim hk_ (fun hs_ => fun e_ => Nat.not_le.2 hs_ (by rw [e_]; exact GW642.out)) (fun hn_ => (Kd.freshB (GS.bqX BK642.out) k_ hn_)), Or.elim hk_ (fun hs_ => fun e_ => Nat.not_le.2 hs_ (by rw [e_]; exact GW657.out)) (fun hn_ => (Kd.freshB (GS.bqX BK657.out) k_ hn_))⟩)) (lqZ (GS.lB HB.out))); have n1_ := Aside0.mk (bqB (GS.bqX BK642.out) hb); have n2_ := Aside0.mk (bqB (GS.bqX BK657.out) hb); have n3_ := Aside0.mk (lqT (GS.lB HB.out) hb); clear BK642; clear BK657; clear HB; have HO666 := n0_; have BK642 := n1_; have BK657 := n2_; have HB := n3_; clear n0_ n1_ n2_ n3_; (try clear hb); (try clear hb2); (try clear hk); (try clear hi); (try clear ho0)) | ((with_reducible refine gqC (f := 18) rfl ?_); refine GS.gL (some 74) Try.func18 #[.slice A1 l1.length c1] ?_; (with_reducible refine (clone18.calls _ _ l1 t668 _ ?side1 ?side2 A41.out).mono ?_); (case side1 => exact GS.rC (Kd.C_below HR1.out HB.out)); (case side2 => exact HC1.out); rintro e w50 ⟨v669, rfl, ho0, hb⟩; refine ⟨_, rfl, ?_⟩; have n0_ := Aside0.mk (Kd.V_elder' (by (with_reducible repeat (first | apply Kd.V_alloc | apply Kd.V_drewN | apply Kd.V_drew)); exact HO666.out) (Kd.R_base ho0) hb); have n1_ := Aside0.mk (Kd.R_lower ho0 (lqZ (GS.lB HB.out))); have n2_ := Aside0.mk (bqB (GS.bqX BK642.out) hb); have n3_ := Aside0.mk (bqB (GS.bqX BK657.out) hb); have n4_ := Aside0.mk (lqT (GS.lB HB.out) hb); clear HO666; clear BK642; clear BK657; clear HB; have HO666 := n0_; have HO670 := n1_; have BK642 := n2_; have BK657 := n3_; have HB := n4_; clear n0_ n1_ n2_ n3_ n4_; (try clear hb); (try clear hb2); (try clear hk); (try clear hi); (try clear ho0)) | ((with_reducible refine gqD (N := 77) rfl ?_); (try (refine gate_guard (by rfl) ?_; dsimp only)); refine Kd.R_lit (Kd.int .i64) _ 3 ?hg (N := 77) ?hd (xs := ([a2] : List Int)) (inner := [.int .i64 a2]) (ok := fun _ => True) (okp := fun _ => True) ?hr ?hp (fun _ hk => hk) trivial (Below.refl _ _) (Nat.le_refl _) (by simp) ?_; (case hd => rfl); (case hg => rfl); (case hr => first | (go_simp; done) | (go_simp; rfl)); (case hp => exact (Reps.one (show Kd.M (Kd.int .i64) _ _ _ a2 [.int .i64 a2] from rfl) (Reps.none _ _))); intro v672 w51 ho52 hb hg_ hnew_; clear hg_ hnew_; (first | rw [← Ny671.out] at ho52 | (simp only [Int.reduceToNat] at ho52; rw [← Ny671.out] at ho52)); have n0_ := Aside0.mk (Kd.V_elder' (by (with_reducible repeat (first | apply Kd.V_alloc | apply Kd.V_drewN | apply Kd.V_drew)); exact HO666.out) (Kd.R_base ho52) hb); have n1_ := Aside0.mk (Kd.R_elder' (GS.rR HO670.out) (Kd.R_base ho52) hb); have n2_ := Aside0.mk (Kd.R_lower (Kd.R_new' ho52 (Kd.R_lt (GS.rR HO670.out))) (lqZ (GS.lB HB.out))); have n3_ := Aside0.mk (bqB (GS.bqX BK642.out) hb); have n4_ := Aside0.mk (bqB (GS.bqX BK657.out) hb); have n5_ := Aside0.mk (lqT (GS.lB HB.out) hb); clear HO666; clear HO670; clear BK642; clear BK657; clear HB; have HO666 := n0_; have HO670 := n1_; have HO673 := n2_; have BK642 := n3_; have BK657 := n4_; have HB := n5_; clear n0_ n1_ n2_ n3_ n4_ n5_; clear hb ho52; obtain ⟨Ao53, co53, eo53⟩ := Kd.R_slice HO670.out; subst eo53; obtain ⟨Ao54, co54, eo54⟩ := Kd.R_slice HO673.out; subst eo54) | ((with_reducible refine gqC (f := 31) rfl ?_); refine GS.gL (some 78) Try.func31 #[.slice Ao53 t668.length co53, .int .i64 t658, .slice Ao54 y671.length co54] ?_; (with_reducible refine (insert31.calls _ _ t668 t658 _ _ y671 t674 _ (Kd.R_mono HO670.out (fun _ _ => trivial)) (Kd.R_mono HO673.out (fun _ _ => trivial)) (own_ne HO673.out (fun k hk => hk.2)) (lqZ (GS.lB HB.out)) A42.out).mono ?_); rintro e w55 ⟨v675, rfl, ho0, hg⟩; refine ⟨_, rfl, ?_⟩; have n0_ := Aside0.mk (V_grownI HO666.out hg (fun k hk => hk.1.2)); have n1_ := Aside0.mk ho0; have n2_ := Aside0.mk (Kd.R_grown (GS.rR HO673.out) hg (fun k hk => hk.2)); have n3_ := Aside0.mk ho0; have n4_ := Aside0.mk (blk_grown (GS.bqX BK642.out) hg (Kd.R_ne HO670.out BK642.out (by decide))); have n5_ := Aside0.mk (blk_grown (GS.bqX BK657.out) hg (Kd.R_ne HO670.out BK657.out (by decide))); have n6_ := Aside0.mk ((GS.lB HB.out).grown hg (lqZ (GS.lB HB.out)) (fun k e => Kd.R_base HO670.out k e)); clear hg; clear HO666; clear HO670; clear HO673; clear BK642; clear BK657; clear HB; have HO666 := n0_; have HO670 := n1_; have HO673 := n2_; have HO676 := n3_; have BK642 := n4_; have BK657 := n5_; have HB := n6_; clear n0_ n1_ n2_ n3_ n4_ n5_ n6_; (try clear hb); (try clear hb2); (try clear hk); (try clear hi); (try clear ho0); obtain ⟨Ao56, co56, eo56⟩ := Kd.V_slice HO666.out; subst eo56; obtain ⟨Ao57, co57, eo57⟩ := Kd.R_slice HO676.out; subst eo57) | ((with_reducible refine gqC (f := 20) rfl ?_); refine GS.gL (some 79) Try.func20 #[.agg #[.string t662, .int .i64 t663, .slice Ao56 t664.length co56, .int .i64 t667], .slice Ao57 t674.length co57] ?_; (with_reducible refine (standing_Between.calls kj30 t662 t663 _ _ t664 t667 _ _ t674 t677 t678 t679 _ ?side1 ?side2 ?side3 ?side4 A43.out).mono ?_); (case side1 => repeat (first | exact (Kd.V_reads' HO666.out).2.2 | (with_reducible refine Kd.C_alloc ?_ _) | (with_reducible refine Kd.C_drewN ?_ _) | (with_reducible refine Kd.C_drew ?_))); (case side2 => exact (Kd.V_reads' HO666.out).2.1); (case side3 => repeat (first | exact (Kd.R_reads' HO676.out).2.2 | (with_reducible refine Kd.C_alloc ?_ _) | (with_reducible refine Kd.C_drewN ?_ _) | (with_reducible refine Kd.C_drew ?_))); (case side4 => exact (Kd.R_reads' HO676.out).2.1); rintro e w58 ⟨rfl, hb⟩; refine ⟨_, rfl, ?_⟩; have n0_ := Aside0.mk (Kd.V_below (by (with_reducible repeat (first | apply Kd.V_alloc | apply Kd.V_drewN | apply Kd.V_drew)); exact HO666.out) hb); have n1_ := Aside0.mk (Kd.R_below (GS.rR HO670.out) hb); have n2_ := Aside0.mk (Kd.R_below (GS.rR HO673.out) hb); have n3_ := Aside0.mk (Kd.R_below (GS.rR HO676.out) hb); have n4_ := Aside0.mk (bqB (GS.bqX BK642.out) hb); have n5_ := Aside0.mk (bqB (GS.bqX BK657.out) hb); have n6_ := Aside0.mk (lqT (GS.lB HB.out) hb); clear HO666; clear HO670; clear HO673; clear HO676; clear BK642; clear BK657; clear HB; have HO666 := n0_; have HO670 := n1_; have HO673 := n2_; have HO676 := n3_; have BK642 := n4_; have BK657 := n5_; have HB := n6_; clear n0_ n1_ n2_ n3_ n4_ n5_ n6_; (try clear hb); (try clear hb2); (try clear hk); (try clear hi)) | ((with_reducible refine gqD (N := 11) rfl ?_); (try (refine gate_guard (by rfl) ?_; dsimp only)); refine GS.bx (N := 11) (cs := #[.int .i64 0, .int .i64 0]) (t := 40) ?_; intro gb680 hg w59 hbox hb; have n0_ := Aside0.mk (Kd.V_below (Kd.V_elderB (by (with_reducible repeat (first | apply Kd.V_alloc | apply Kd.V_drewN | apply Kd.V_drew)); exact HO666.out) gb680 (Nat.le_of_eq hg.symm)) hb); have n1_ := Aside0.mk (Kd.R_below (GS.rR HO670.out) hb); have n2_ := Aside0.mk (Kd.R_below (GS.rR HO673.out) hb); have n3_ := Aside0.mk (Kd.R_below (GS.rR HO676.out) hb); have n4_ := Aside0.mk (bqB (GS.bqX BK642.out) hb); have n5_ := Aside0.mk (bqB (GS.bqX BK657.out) hb); have n6_ := Aside0.mk (lqT (GS.lB HB.out) hb); have n7_ := Aside0.mk (hbox); have n8_ := Aside0.mk ((by rw [hg]; exact (lqZ (GS.lB HB.out)) : w.heap.size ≤ gb680)); have n9_ := Aside0.mk ((by rw [hg]; exact (lqZ (GS.lB HB.out)) : w.heap.size ≤ gb680)); have n10_ := Aside0.mk ((by rw [hg]; exact Nat.ne_of_lt (blk_lt (GS.bqX BK642.out)) : gb642 ≠ gb680)); have n11_ := Aside0.mk ((by rw [hg]; exact Nat.ne_of_gt (blk_lt (GS.bqX BK642.out)) : gb680 ≠ gb642)); have n12_ := Aside0.mk ((by rw [hg]; exact Nat.ne_of_lt (blk_lt (GS.bqX BK657.out)) : gb657 ≠ gb680)); have n13_ := Aside0.mk ((by rw [hg]; exact Nat.ne_of_gt (blk_lt (GS.bqX BK657.out)) : gb680 ≠ gb657)); clear HO666; clear HO670; clear HO673; clear HO676; clear BK642; clear BK657; clear HB; have HO666 := n0_; have HO670 := n1_; have HO673 := n2_; have HO676 := n3_; have BK642 := n4_; have BK657 := n5_; have HB := n6_; have BK680 := n7_; have GW680 := n8_; have GE680 := n9_; have NB642_680 := n10_; have NB680_642 := n11_; have NB657_680 := n12_; have NB680_657 := n13_; clear n0_ n1_ n2_ n3_ n4_ n5_ n6_ n7_ n8_ n9_ n10_ n11_ n12_ n13_; clear hb hbox hg; have hnb60 := NB680_642.out; have hnc60 := NB642_680.out; have hnb61 := NB680_657.out; have hnc61 := NB657_680.out; obtain ⟨hcz62_0, hcz62_1, hfz62_0, hfz62_1⟩ := GS.c2 BK680.out; obtain ⟨hcz63_0, hcz63_1, hfz63_0, hfz63_1⟩ := GS.c2 BK657.out))
            go_ret
            exact ⟨by first | rfl | (simp [errW_none, errW_some] <;> rfl) | (simp [*, errW_none, errW_some] <;> rfl), GS.lB HB.out⟩
           ·rw [if_neg c46] at H
            exact absurd H (by simp)
          ·rw [if_neg c45] at H
           exact absurd H (by simp)
         ·rw [if_neg c44] at H
          exact absurd H (by simp)
  ·replace c7 := Bool.eq_false_iff.mpr c7
   subst c7
   have H1 : (some true) = some r := by rw [if_neg (show ¬ (false = true) by decide)] at H; exact H
   clear H
   have H := H1
   clear H1
   obtain rfl := Option.some.inj H
   go_enter Try.func9, Try.ntmps9
   go_wp2_with (first | ((with_reducible refine gqD (N := 3) rfl ?_); (try (refine gate_guard (by rfl) ?_; dsimp only)); refine GS.bx (N := 3) (cs := #[.string a0_0, .int .i64 a0_1, .slice A0_2 l0_2.length c0_2, .int .i64 a0_3]) (t := 24) ?_; intro gb642 hg w64 hbox hb; have n0_ := Aside0.mk (lqT (GS.lB HB.out) hb); have n1_ := Aside0.mk (hbox); have n2_ := Aside0.mk ((by rw [hg]; exact (lqZ (GS.lB HB.out)) : w.heap.size ≤ gb642)); have n3_ := Aside0.mk ((by rw [hg]; exact (lqZ (GS.lB HB.out)) : w.heap.size ≤ gb642)); clear HB; have HB := n0_; have BK642 := n1_; have GW642 := n2_; have GE642 := n3_; clear n0_ n1_ n2_ n3_; clear hb hbox hg) | ((with_reducible refine gqC (f := 10) rfl ?_); refine GS.gL (some 13) Try.func10 #[] ?_; (with_reducible refine (spilelaw12_awake.calls k  true _ A4.out).mono ?_); rintro e w65 ⟨rfl, hb⟩; refine ⟨_, rfl, ?_⟩; have n0_ := Aside0.mk (bqB (GS.bqX BK642.out) hb); have n1_ := Aside0.mk (lqT (GS.lB HB.out) hb); clear BK642; clear HB; have BK642 := n0_; have HB := n1_; clear n0_ n1_; (try clear hb); (try clear hb2); (try clear hk); (try clear hi); obtain ⟨hcz66_0, hcz66_1, hcz66_2, hcz66_3, hfz66_0, hfz66_1, hfz66_2, hfz66_3⟩ := GS.c4 BK642.out) | ((with_reducible refine gqC (f := 11) rfl ?_); refine GS.gL (some 17) Try.func11 #[.agg #[.string a0_0, .int .i64 a0_1, .slice A0_2 l0_2.length c0_2, .int .i64 a0_3], .slice A1 l1.length c1] ?_; (with_reducible refine (spilelaw12_few.calls k a0_0 a0_1 (fun k_ => k_ < w.heap.size) _ _ l0_2 a0_3 _ _ l1 false _ ?side1 ?side2 ?side3 A6.out).mono ?_); (case side1 => exact Kd.V_mk HC0_2.out (Kd.F_below (Kd.C_F k33_heap HR0_2.out) (GS.lB HB.out))); (case side2 => exact GS.rC (Kd.C_below HR1.out HB.out)); (case side3 => exact HC1.out); rintro e w67 ⟨rfl, hb⟩; refine ⟨_, rfl, ?_⟩; have n0_ := Aside0.mk (bqB (GS.bqX BK642.out) hb); have n1_ := Aside0.mk (lqT (GS.lB HB.out) hb); clear BK642; clear HB; have BK642 := n0_; have HB := n1_; clear n0_ n1_; (try clear hb); (try clear hb2); (try clear hk); (try clear hi)))
   go_ret
   exact ⟨by first | rfl | (simp [errW_none, errW_some] <;> rfl) | (simp [*, errW_none, errW_some] <;> rfl), GS.lB HB.out⟩
 ·replace c5 := Bool.eq_false_iff.mpr c5
  subst c5
  have H1 : (none) = some r := by rw [if_neg (show ¬ (false = true) by decide)] at H; exact H
  clear H
  have H := H1
  clear H1
  exact absurd H (by simp)

end Go.Proofs.Ytmcmbjkjilcmeaa.K
