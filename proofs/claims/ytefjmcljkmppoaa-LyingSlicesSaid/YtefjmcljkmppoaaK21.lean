-- PRINTED by print.py (a twelfth state) out of the translation. Not trusted: Lean checks it.
import Derived.Test.YtefjmcljkmppoaaK0
import Derived.Test.YtefjmcljkmppoaaK21a
import Derived.Test.YtefjmcljkmppoaaGPu
import Derived.Test.YtefjmcljkmppoaaGShort
import Derived.Test.YtefjmcljkmppoaaK2
import Derived.Test.YtefjmcljkmppoaaK7
import Derived.Test.YtefjmcljkmppoaaK8
import Derived.Test.YtefjmcljkmppoaaK9
import Derived.Test.YtefjmcljkmppoaaK10
import Derived.Test.YtefjmcljkmppoaaK12
import Derived.Test.YtefjmcljkmppoaaK20
import Derived.Test.YtefjmcljkmppoaaGClone
import Derived.Test.YtefjmcljkmppoaaGCloneP
import Derived.Test.YtefjmcljkmppoaaGFewl
namespace Go.Proofs.Ytefjmcljkmppoaa.K
open Go.RowKit Go.Proofs.YtefjmcljkmppoaaW.PrintWords Go.Proofs.YtefjmcljkmppoaaW.PrintLast Go.Proofs.YtefjmcljkmppoaaW.PrintMore
attribute [local go_sem] max2_int min2_int max_two min_two max_three min_three max_four min_four   -- for this text's walks alone
set_option linter.unusedVariables false
set_option linter.unusedSimpArgs false

/-! ### spilelaw11_LyingSlices: function 4 -/
def spilelaw11_LyingSlices.f (k : Nat) (a0_0 : ByteArray) (a0_1 : Int) (l0_2 : List (S39)) (a0_3 : Int) (a1 : Int) (l2 : List Int) : Option (Bool) := (spilelaw11_awake.f k).bind fun t513 => (if t513 = true then ((spilelaw11_few.f k a0_0 a0_1 l0_2 a0_3 (([l2] : List (List Int)))).bind fun t517 => (if t517 = true then ((clone18.f l0_2).bind fun t518 => ((lying_Slices.f k t518 a1).bind fun bt521 => ((spileref11_Slices.f k l0_2 a1).bind fun bt525 => ((slices_Equal_int_int.f k bt521.1 bt525.1).bind fun t529 => (if t529 = true then (if bt521.2 = bt525.2 then ((spilelaw11_own.f k a0_0 a0_1 l0_2 a0_3).bind fun bt530 => ((clone22.f l2).bind fun t536 => ((lying_Check.f k bt530.1 bt530.2.1 bt530.2.2.1 bt530.2.2.2 t536).bind fun t539 => ((spileref11_Check.f k a0_0 a0_1 l0_2 a0_3 l2).bind fun t540 => (some (t539 == t540)))))) else (none)) else (none)))))) else (some true))) else (none))
theorem spilelaw11_LyingSlices.mono : ∀ a0 a1 a2 a3 a4 a5 k, LeO (spilelaw11_LyingSlices.f k a0 a1 a2 a3 a4 a5) (spilelaw11_LyingSlices.f (k + 1) a0 a1 a2 a3 a4 a5) := by
 intro a0 a1 a2 a3 a4 a5 k
 unfold spilelaw11_LyingSlices.f
 repeat' first
   | (with_reducible exact spilelaw11_few.mono _ _ _ _ _ _)
   | (with_reducible exact lying_Check.mono _ _ _ _ _ _)
   | (with_reducible exact lying_Slices.mono _ _ _)
   | (with_reducible exact slices_Equal_int_int.mono _ _ _)
   | (with_reducible exact spilelaw11_awake.mono _)
   | (with_reducible exact spilelaw11_own.mono _ _ _ _ _)
   | (with_reducible exact spileref11_Check.mono _ _ _ _ _ _)
   | (with_reducible exact spileref11_Slices.mono _ _ _)
   | (with_reducible exact LeO.refl _)
   | (with_reducible exact LeO.none _)
   | (with_reducible refine LeO.ite ?_ ?_)
   | (with_reducible refine LeO.bind ?_ (fun _ => ?_))
   | exact spilelaw11_few.mono _ _ _ _ _ _
   | exact lying_Check.mono _ _ _ _ _ _
   | exact lying_Slices.mono _ _ _
   | exact slices_Equal_int_int.mono _ _ _
   | exact spilelaw11_awake.mono _
   | exact spilelaw11_own.mono _ _ _ _ _
   | exact spileref11_Check.mono _ _ _ _ _ _
   | exact spileref11_Slices.mono _ _ _
   | exact LeO.none _
   | refine LeO.ite ?_ ?_
   | refine LeO.bind ?_ (fun _ => ?_)
def spilelaw11_LyingSlices.T7 : Bool × List (List Nat × List Nat) := (true, [([], []), ([], []), ([0, 1], [0, 1]), ([2, 2], [2]), ([3], [3]), ([3], [3]), ([4, 5, 3], [3, 4, 5]), ([3, 6], [3, 6]), ([7, 3], [7]), ([8], [8]), ([9, 8, 8], [8, 9]), ([8], [8]), ([11, 10, 8], [8, 11]), ([10, 12, 12, 8], [8, 10, 12]), ([8], [8]), ([8], [8]), ([14, 15, 13, 8], [8, 14, 15]), ([13, 16, 8], [8, 13, 16]), ([8, 17], [8, 17]), ([18, 16, 0, 1, 2, 3, 4, 5, 6, 7, 8, 9, 10, 11, 12, 13, 14, 15, 16, 17, 18], [18])])
def spilelaw11_LyingSlices.B7 : List Nat := [0, 0, 3, 7, 15, 15, 63, 127, 255, 511, 1023, 511, 4095, 8191, 511, 511, 65535, 131071, 262143, 524287]
theorem spilelaw11_LyingSlices.tab7 : rtab .any (opsOf Try.f4 7) = spilelaw11_LyingSlices.T7 := by kernel_rfl
theorem spilelaw11_LyingSlices.bits7 : waitsOk spilelaw11_LyingSlices.T7.2 spilelaw11_LyingSlices.B7 = true := by kernel_rfl
set_option maxHeartbeats 8000000 in
set_option maxRecDepth 100000 in
theorem spilelaw11_LyingSlices.calls (k : Nat) (a0_0 : ByteArray) (a0_1 : Int) (A0_2 : Option Addr) (c0_2 : Nat) (l0_2 : List (S39)) (a0_3 : Int) (a1 : Int) (A2 : Option Addr) (c2 : Nat) (l2 : List Int) (r : Bool) (w : World) (hr0_2 : Kd.C k39 w A0_2 l0_2.length l0_2) (hc0_2 : l0_2.length ≤ c0_2) (hr2 : Kd.C (Kd.int .i64) w A2 l2.length l2) (hc2 : l2.length ≤ c2) (h : spilelaw11_LyingSlices.f k a0_0 a0_1 l0_2 a0_3 a1 l2 = some r) :
  Calls Try.prog 4 #[.agg #[.string a0_0, .int .i64 a0_1, .slice A0_2 l0_2.length c0_2, .int .i64 a0_3], .int .i64 a1, .slice A2 l2.length c2] w fun e w' => e = .returned (.bool r) ∧ Below w.heap.size w w' := by
 have hu24 := Try.underlying24
 have HR0_2 := Aside0.mk hr0_2
 have HC0_2 := Aside0.mk hc0_2
 clear hr0_2 hc0_2
 have HR2 := Aside0.mk hr2
 have HC2 := Aside0.mk hc2
 clear hr2 hc2
 have HB := Aside0.mk (Below.refl w.heap.size w)
 have H : ((spilelaw11_awake.f k).bind fun t513 => (if t513 = true then ((spilelaw11_few.f k a0_0 a0_1 l0_2 a0_3 (([l2] : List (List Int)))).bind fun t517 => (if t517 = true then ((clone18.f l0_2).bind fun t518 => ((lying_Slices.f k t518 a1).bind fun bt521 => ((spileref11_Slices.f k l0_2 a1).bind fun bt525 => ((slices_Equal_int_int.f k bt521.1 bt525.1).bind fun t529 => (if t529 = true then (if bt521.2 = bt525.2 then ((spilelaw11_own.f k a0_0 a0_1 l0_2 a0_3).bind fun bt530 => ((clone22.f l2).bind fun t536 => ((lying_Check.f k bt530.1 bt530.2.1 bt530.2.2.1 bt530.2.2.2 t536).bind fun t539 => ((spileref11_Check.f k a0_0 a0_1 l0_2 a0_3 l2).bind fun t540 => (some (t539 == t540)))))) else (none)) else (none)))))) else (some true))) else (none))) = some r := h
 clear h
 replace H := Option.bind_eq_some_iff.mp H
 obtain ⟨t513, A40, H⟩ := H
 replace H : (if t513 = true then ((spilelaw11_few.f k a0_0 a0_1 l0_2 a0_3 (([l2] : List (List Int)))).bind fun t517 => (if t517 = true then ((clone18.f l0_2).bind fun t518 => ((lying_Slices.f k t518 a1).bind fun bt521 => ((spileref11_Slices.f k l0_2 a1).bind fun bt525 => ((slices_Equal_int_int.f k bt521.1 bt525.1).bind fun t529 => (if t529 = true then (if bt521.2 = bt525.2 then ((spilelaw11_own.f k a0_0 a0_1 l0_2 a0_3).bind fun bt530 => ((clone22.f l2).bind fun t536 => ((lying_Check.f k bt530.1 bt530.2.1 bt530.2.2.1 bt530.2.2.2 t536).bind fun t539 => ((spileref11_Check.f k a0_0 a0_1 l0_2 a0_3 l2).bind fun t540 => (some (t539 == t540)))))) else (none)) else (none)))))) else (some true))) else (none)) = some r := H
 have A4 := Aside0.mk A40
 clear A40
 by_cases c5 : t513 = true
 ·subst c5
  have H1 : ((spilelaw11_few.f k a0_0 a0_1 l0_2 a0_3 (([l2] : List (List Int)))).bind fun t517 => (if t517 = true then ((clone18.f l0_2).bind fun t518 => ((lying_Slices.f k t518 a1).bind fun bt521 => ((spileref11_Slices.f k l0_2 a1).bind fun bt525 => ((slices_Equal_int_int.f k bt521.1 bt525.1).bind fun t529 => (if t529 = true then (if bt521.2 = bt525.2 then ((spilelaw11_own.f k a0_0 a0_1 l0_2 a0_3).bind fun bt530 => ((clone22.f l2).bind fun t536 => ((lying_Check.f k bt530.1 bt530.2.1 bt530.2.2.1 bt530.2.2.2 t536).bind fun t539 => ((spileref11_Check.f k a0_0 a0_1 l0_2 a0_3 l2).bind fun t540 => (some (t539 == t540)))))) else (none)) else (none)))))) else (some true))) = some r := by rw [if_pos rfl] at H; exact H
  clear H
  have H := H1
  clear H1
  obtain ⟨y514, hy514⟩ : ∃ y_ : List (List Int), y_ = ([l2] : List (List Int)) := ⟨_, rfl⟩
  obtain ⟨z514, hz514⟩ : ∃ z_ : List Value, z_ = ([.slice A2 l2.length c2] : List Value) := ⟨_, rfl⟩
  have Nz514 := Aside0.mk hz514
  have NZ514 := Aside0.mk (show z514.length = y514.length by rw [hy514, hz514]; rfl)
  clear hz514
  replace H : ((spilelaw11_few.f k a0_0 a0_1 l0_2 a0_3 y514).bind fun t517 => (if t517 = true then ((clone18.f l0_2).bind fun t518 => ((lying_Slices.f k t518 a1).bind fun bt521 => ((spileref11_Slices.f k l0_2 a1).bind fun bt525 => ((slices_Equal_int_int.f k bt521.1 bt525.1).bind fun t529 => (if t529 = true then (if bt521.2 = bt525.2 then ((spilelaw11_own.f k a0_0 a0_1 l0_2 a0_3).bind fun bt530 => ((clone22.f l2).bind fun t536 => ((lying_Check.f k bt530.1 bt530.2.1 bt530.2.2.1 bt530.2.2.2 t536).bind fun t539 => ((spileref11_Check.f k a0_0 a0_1 l0_2 a0_3 l2).bind fun t540 => (some (t539 == t540)))))) else (none)) else (none)))))) else (some true))) = some r := by first | (rw [hy514]; with_reducible exact H) | (have H2_ := (Option.bind_some _ _).symm.trans H; rw [hy514]; with_reducible exact H2_) | (have H2_ := (Option.bind_some _ _).symm.trans H; with_reducible exact H2_) | with_reducible exact H | (rw [hy514]; exact H) | exact H
  have Ny514 := Aside0.mk hy514
  clear hy514
  replace H := Option.bind_eq_some_iff.mp H
  obtain ⟨t517, A60, H⟩ := H
  replace H : (if t517 = true then ((clone18.f l0_2).bind fun t518 => ((lying_Slices.f k t518 a1).bind fun bt521 => ((spileref11_Slices.f k l0_2 a1).bind fun bt525 => ((slices_Equal_int_int.f k bt521.1 bt525.1).bind fun t529 => (if t529 = true then (if bt521.2 = bt525.2 then ((spilelaw11_own.f k a0_0 a0_1 l0_2 a0_3).bind fun bt530 => ((clone22.f l2).bind fun t536 => ((lying_Check.f k bt530.1 bt530.2.1 bt530.2.2.1 bt530.2.2.2 t536).bind fun t539 => ((spileref11_Check.f k a0_0 a0_1 l0_2 a0_3 l2).bind fun t540 => (some (t539 == t540)))))) else (none)) else (none)))))) else (some true)) = some r := H
  have A6 := Aside0.mk A60
  clear A60
  by_cases c7 : t517 = true
  ·subst c7
   have H1 : ((clone18.f l0_2).bind fun t518 => ((lying_Slices.f k t518 a1).bind fun bt521 => ((spileref11_Slices.f k l0_2 a1).bind fun bt525 => ((slices_Equal_int_int.f k bt521.1 bt525.1).bind fun t529 => (if t529 = true then (if bt521.2 = bt525.2 then ((spilelaw11_own.f k a0_0 a0_1 l0_2 a0_3).bind fun bt530 => ((clone22.f l2).bind fun t536 => ((lying_Check.f k bt530.1 bt530.2.1 bt530.2.2.1 bt530.2.2.2 t536).bind fun t539 => ((spileref11_Check.f k a0_0 a0_1 l0_2 a0_3 l2).bind fun t540 => (some (t539 == t540)))))) else (none)) else (none)))))) = some r := by rw [if_pos rfl] at H; exact H
   clear H
   have H := H1
   clear H1
   replace H := Option.bind_eq_some_iff.mp H
   obtain ⟨t518, A80, H⟩ := H
   replace H : ((lying_Slices.f k t518 a1).bind fun bt521 => ((spileref11_Slices.f k l0_2 a1).bind fun bt525 => ((slices_Equal_int_int.f k bt521.1 bt525.1).bind fun t529 => (if t529 = true then (if bt521.2 = bt525.2 then ((spilelaw11_own.f k a0_0 a0_1 l0_2 a0_3).bind fun bt530 => ((clone22.f l2).bind fun t536 => ((lying_Check.f k bt530.1 bt530.2.1 bt530.2.2.1 bt530.2.2.2 t536).bind fun t539 => ((spileref11_Check.f k a0_0 a0_1 l0_2 a0_3 l2).bind fun t540 => (some (t539 == t540)))))) else (none)) else (none))))) = some r := H
   have A8 := Aside0.mk A80
   clear A80
   replace H := Option.bind_eq_some_iff.mp H
   obtain ⟨⟨t521, t522⟩, A90, H⟩ := H
   replace H : ((spileref11_Slices.f k l0_2 a1).bind fun bt525 => ((slices_Equal_int_int.f k t521 bt525.1).bind fun t529 => (if t529 = true then (if t522 = bt525.2 then ((spilelaw11_own.f k a0_0 a0_1 l0_2 a0_3).bind fun bt530 => ((clone22.f l2).bind fun t536 => ((lying_Check.f k bt530.1 bt530.2.1 bt530.2.2.1 bt530.2.2.2 t536).bind fun t539 => ((spileref11_Check.f k a0_0 a0_1 l0_2 a0_3 l2).bind fun t540 => (some (t539 == t540)))))) else (none)) else (none)))) = some r := H
   have A9 := Aside0.mk A90
   clear A90
   replace H := Option.bind_eq_some_iff.mp H
   obtain ⟨⟨t525, t526⟩, A100, H⟩ := H
   replace H : ((slices_Equal_int_int.f k t521 t525).bind fun t529 => (if t529 = true then (if t522 = t526 then ((spilelaw11_own.f k a0_0 a0_1 l0_2 a0_3).bind fun bt530 => ((clone22.f l2).bind fun t536 => ((lying_Check.f k bt530.1 bt530.2.1 bt530.2.2.1 bt530.2.2.2 t536).bind fun t539 => ((spileref11_Check.f k a0_0 a0_1 l0_2 a0_3 l2).bind fun t540 => (some (t539 == t540)))))) else (none)) else (none))) = some r := H
   have A10 := Aside0.mk A100
   clear A100
   replace H := Option.bind_eq_some_iff.mp H
   obtain ⟨t529, A110, H⟩ := H
   replace H : (if t529 = true then (if t522 = t526 then ((spilelaw11_own.f k a0_0 a0_1 l0_2 a0_3).bind fun bt530 => ((clone22.f l2).bind fun t536 => ((lying_Check.f k bt530.1 bt530.2.1 bt530.2.2.1 bt530.2.2.2 t536).bind fun t539 => ((spileref11_Check.f k a0_0 a0_1 l0_2 a0_3 l2).bind fun t540 => (some (t539 == t540)))))) else (none)) else (none)) = some r := H
   have A11 := Aside0.mk A110
   clear A110
   by_cases c12 : t529 = true
   ·subst c12
    have H1 : (if t522 = t526 then ((spilelaw11_own.f k a0_0 a0_1 l0_2 a0_3).bind fun bt530 => ((clone22.f l2).bind fun t536 => ((lying_Check.f k bt530.1 bt530.2.1 bt530.2.2.1 bt530.2.2.2 t536).bind fun t539 => ((spileref11_Check.f k a0_0 a0_1 l0_2 a0_3 l2).bind fun t540 => (some (t539 == t540)))))) else (none)) = some r := by rw [if_pos rfl] at H; exact H
    clear H
    have H := H1
    clear H1
    by_cases c13 : t522 = t526
    ·rw [if_pos c13] at H
     have c13b0 : (t522 == t526) = true := beq_iff_eq.mpr c13
     try simp only [beq_self_eq_true, Bool.not_true, Bool.false_or, Bool.true_and] at c13b0
     have c13b1 : (t522 != t526) = false := bne_eq_false_iff_eq.mpr c13
     clear c13
     replace H := Option.bind_eq_some_iff.mp H
     obtain ⟨⟨t530, t531, t532, t535⟩, A140, H⟩ := H
     replace H : ((clone22.f l2).bind fun t536 => ((lying_Check.f k t530 t531 t532 t535 t536).bind fun t539 => ((spileref11_Check.f k a0_0 a0_1 l0_2 a0_3 l2).bind fun t540 => (some (t539 == t540))))) = some r := H
     have A14 := Aside0.mk A140
     clear A140
     replace H := Option.bind_eq_some_iff.mp H
     obtain ⟨t536, A150, H⟩ := H
     replace H : ((lying_Check.f k t530 t531 t532 t535 t536).bind fun t539 => ((spileref11_Check.f k a0_0 a0_1 l0_2 a0_3 l2).bind fun t540 => (some (t539 == t540)))) = some r := H
     have A15 := Aside0.mk A150
     clear A150
     replace H := Option.bind_eq_some_iff.mp H
     obtain ⟨t539, A160, H⟩ := H
     replace H : ((spileref11_Check.f k a0_0 a0_1 l0_2 a0_3 l2).bind fun t540 => (some (t539 == t540))) = some r := H
     have A16 := Aside0.mk A160
     clear A160
     replace H := Option.bind_eq_some_iff.mp H
     obtain ⟨t540, A170, H⟩ := H
     replace H : (some (t539 == t540)) = some r := H
     have A17 := Aside0.mk A170
     clear A170
     obtain rfl := Option.some.inj H
     go_enter Try.func4, Try.ntmps4
     try go_wp2_with (first | ((with_reducible refine gqD (N := 3) rfl ?_); refine GS.bx (N := 3) (cs := #[.string a0_0, .int .i64 a0_1, .slice A0_2 l0_2.length c0_2, .int .i64 a0_3]) (t := 24) ?_; intro gb512 hg w18 hbox hb; have q_ := GS.q4 (GS.kH HB hb) (Aside0.mk hbox) (GS.kZ hg HB) (GS.kZ hg HB); clear HB; obtain ⟨HB, BK512, GW512, GE512⟩ := q_; clear hb hbox hg) | ((with_reducible refine gqC (f := 10) rfl ?_); refine GS.gL (some 11) Try.func10 #[] ?_; (with_reducible refine (spilelaw11_awake.calls k  true _ A4.out).mono ?_); rintro e w19 ⟨rfl, hb⟩; refine ⟨_, rfl, ?_⟩; have q_ := GS.q2 (GS.kB BK512 hb) (GS.kH HB hb); clear BK512 HB; obtain ⟨BK512, HB⟩ := q_; (try clear hb); (try clear hb2); (try clear hk); (try clear hi); obtain ⟨hcz20_0, hcz20_1, hcz20_2, hcz20_3, hfz20_0, hfz20_1, hfz20_2, hfz20_3⟩ := GS.c4 BK512.out) | ((with_reducible refine gqD (N := 15) rfl ?_); refine Kd.R_lit kV _ 34 ?hg (N := 15) ?hd (xs := ([.slice A2 l2.length c2] : List Value)) (inner := [.slice A2 l2.length c2]) (ok := fun _ => True) (okp := fun _ => True) ?hr ?hp (fun _ hk => hk) trivial (Below.refl _ _) (Nat.le_refl _) (by simp) ?_; (case hd => rfl); (case hg => rfl); (case hr => first | (go_simp; done) | (go_simp; rfl)); (case hp => exact (Reps.one (show Kd.M kV _ _ _ (.slice A2 l2.length c2) [.slice A2 l2.length c2] from ⟨rfl, rfl⟩) (Reps.none _ _))); intro v515 w21 ho22 hb hg_ hnew_; clear hg_ hnew_; rw [← Nz514.out] at ho22; have q_ := GS.q3 (GS.kL ho22 HB) (GS.kB BK512 hb) (GS.kH HB hb); clear BK512 HB; obtain ⟨HO516, BK512, HB⟩ := q_; clear hb ho22; obtain ⟨Ao23, co23, eo23⟩ := Kd.R_slice HO516.out; subst eo23) | ((with_reducible refine gqC (f := 11) rfl ?_); refine GS.gL (some 16) Try.func11 #[.agg #[.string a0_0, .int .i64 a0_1, .slice A0_2 l0_2.length c0_2, .int .i64 a0_3], .slice Ao23 z514.length co23] ?_; rw [NZ514.out]; (with_reducible refine (spilelaw11_few.calls k a0_0 a0_1 (fun k_ => k_ < w.heap.size) _ _ l0_2 a0_3 _ _ y514 true _ ?side1 ?side2 ?side3 A6.out).mono ?_); (case side1 => exact Kd.V_mk HC0_2.out (Kd.F_below (Kd.C_F k39_heap HR0_2.out) (GS.lB HB.out))); (case side2 => exact rawC (vs := z514) (ls := y514) (by repeat (first | exact (Kd.R_reads' HO516.out).2.2 | (with_reducible refine Kd.C_alloc ?_ _) | (with_reducible refine Kd.C_drewN ?_ _) | (with_reducible refine Kd.C_drew ?_))) NZ514.out (fun j v l e1 e2 => by (rw [Nz514.out] at e1; rw [Ny514.out] at e2; match j with | 0 => (cases e1; cases e2; exact ⟨A2, c2, rfl, HC2.out, GS.rC (Kd.C_below HR2.out HB.out)⟩) | j + 1 => (simp at e1)))); (case side3 => rw [← NZ514.out]; exact (Kd.R_reads' HO516.out).2.1); rintro e w24 ⟨rfl, hb⟩; refine ⟨_, rfl, ?_⟩; have q_ := GS.q3 (GS.kR HO516 hb) (GS.kB BK512 hb) (GS.kH HB hb); clear HO516 BK512 HB; obtain ⟨HO516, BK512, HB⟩ := q_; (try clear hb); (try clear hb2); (try clear hk); (try clear hi); obtain ⟨hcz25_0, hcz25_1, hcz25_2, hcz25_3, hfz25_0, hfz25_1, hfz25_2, hfz25_3⟩ := GS.c4 BK512.out) | ((with_reducible refine gqC (f := 18) rfl ?_); refine GS.gL (some 21) Try.func18 #[.slice A0_2 l0_2.length c0_2] ?_; (with_reducible refine (clone18.calls _ _ l0_2 t518 _ ?side1 ?side2 A8.out).mono ?_); (case side1 => exact GS.rC (Kd.C_below HR0_2.out HB.out)); (case side2 => exact HC0_2.out); rintro e w26 ⟨v519, rfl, ho0, hb⟩; refine ⟨_, rfl, ?_⟩; have q_ := GS.q4 (GS.kR HO516 hb) (GS.kL ho0 HB) (GS.kB BK512 hb) (GS.kH HB hb); clear HO516 BK512 HB; obtain ⟨HO516, HO520, BK512, HB⟩ := q_; (try clear hb); (try clear hb2); (try clear hk); (try clear hi); (try clear ho0); obtain ⟨Ao27, co27, eo27⟩ := Kd.R_slice HO520.out; subst eo27) | ((with_reducible refine gqC (f := 17) rfl ?_); refine GS.gL (some 23) Try.func17 #[.slice Ao27 t518.length co27, .int .i64 a1] ?_; (with_reducible refine (lying_Slices.calls k _ _ t518 a1 t521 t522 _ ?side1 ?side2 A9.out).mono ?_); (case side1 => repeat (first | exact (Kd.R_reads' HO520.out).2.2 | (with_reducible refine Kd.C_alloc ?_ _) | (with_reducible refine Kd.C_drewN ?_ _) | (with_reducible refine Kd.C_drew ?_))); (case side2 => exact (Kd.R_reads' HO520.out).2.1); rintro e w28 ⟨v523, rfl, ho0, hb⟩; refine ⟨_, rfl, ?_⟩; have q_ := GS.q5 (GS.kE HO516 ho0 hb) (GS.kR HO520 hb) (Aside0.mk (Kd.R_lower (Kd.R_new' ho0 (Kd.R_lt (GS.rR HO516.out))) (lqZ (GS.lB HB.out)))) (GS.kB BK512 hb) (GS.kH HB hb); clear HO516 HO520 BK512 HB; obtain ⟨HO516, HO520, HO524, BK512, HB⟩ := q_; (try clear hb); (try clear hb2); (try clear hk); (try clear hi); (try clear ho0); obtain ⟨hcz29_0, hcz29_1, hcz29_2, hcz29_3, hfz29_0, hfz29_1, hfz29_2, hfz29_3⟩ := GS.c4 BK512.out) | ((with_reducible refine gqC (f := 19) rfl ?_); refine GS.gL (some 30) Try.func19 #[.slice A0_2 l0_2.length c0_2, .int .i64 a1] ?_; (with_reducible refine (spileref11_Slices.calls k _ _ l0_2 a1 t525 t526 _ ?side1 ?side2 A10.out).mono ?_); (case side1 => exact GS.rC (Kd.C_below HR0_2.out HB.out)); (case side2 => exact HC0_2.out); rintro e w30 ⟨v527, rfl, ho0, hb⟩; refine ⟨_, rfl, ?_⟩; have q_ := GS.q6 (GS.kE HO516 ho0 hb) (GS.kR HO520 hb) (GS.kE HO524 ho0 hb) (Aside0.mk (Kd.R_lower (Kd.R_new' (Kd.R_new' ho0 (Kd.R_lt (GS.rR HO516.out))) (Kd.R_lt (GS.rR HO524.out))) (lqZ (GS.lB HB.out)))) (GS.kB BK512 hb) (GS.kH HB hb); clear HO516 HO520 HO524 BK512 HB; obtain ⟨HO516, HO520, HO524, HO528, BK512, HB⟩ := q_; (try clear hb); (try clear hb2); (try clear hk); (try clear hi); (try clear ho0)))
     have q_ := GS.q6 (Aside0.mk (Kd.R_drew HO516.out)) (Aside0.mk (Kd.R_drew HO520.out)) (Aside0.mk (Kd.R_drew HO524.out)) (Aside0.mk (Kd.R_drew HO528.out)) (Aside0.mk (bqD BK512.out)) (Aside0.mk (lqD HB.out))
     clear HO516 HO520 HO524 HO528 BK512 HB
     obtain ⟨HO516, HO520, HO524, HO528, BK512, HB⟩ := q_
     obtain ⟨Ao32, co32, eo32⟩ := Kd.R_slice HO524.out
     (first | subst eo32 | (injection eo32 with f1_ f2_ f3_; have f4_ := f1_.symm; have f5_ := f3_.symm; clear f1_ f2_ f3_; subst f4_; subst f5_))
     obtain ⟨Ao33, co33, eo33⟩ := Kd.R_slice HO528.out
     (first | subst eo33 | (injection eo33 with f1_ f2_ f3_; have f4_ := f1_.symm; have f5_ := f3_.symm; clear f1_ f2_ f3_; subst f4_; subst f5_))
     refine start_ (n := 20) (S := fun w' => w'.cell? ⟨gb512, 0, none⟩ = some (.string a0_0) ∧ w'.cell? ⟨gb512, 1, none⟩ = some (.int .i64 a0_1) ∧ w'.cell? ⟨gb512, 2, none⟩ = some (.slice A0_2 l0_2.length c0_2) ∧ w'.cell? ⟨gb512, 3, none⟩ = some (.int .i64 a0_3)) (ds := []) #[false, false, false, false, false, false, false, false, false, false, false, false, false, false, false, false, false, false, false, false] (by kernel_rfl) rfl rfl ⟨(bqC BK512.out 0).trans rfl, (bqC BK512.out 1).trans rfl, (bqC BK512.out 2).trans rfl, (bqC BK512.out 3).trans rfl⟩ (fun hHeld => ?_); refine with_tabW spilelaw11_LyingSlices.tab7 spilelaw11_LyingSlices.bits7 (fun HT_ HW_ => ?_)
     generalize w30.drew = w31 at HO516 HO520 HO524 HO528 BK512 HB hHeld ⊢
     refine GS.pu 0 (some 33) HT_.out ?_
     refine GS.pu 1 (some 34) HT_.out ?_
     refine one_ (i := 2) (N := some 35) #[true, true, true, false, false, false, false, false, false, false, false, false, false, false, false, false, false, false, false, false] rfl rfl (one_of HT_.out (by kernel_rfl)) (by decide) (fun K hK => ?_)
     refine goes_ Try.func20 (by kernel_rfl) rfl #[.slice Ao32 t521.length co32, .slice Ao33 t525.length co33] (by rfl) rfl rfl (by (try simp only [List.map_toArray, List.map_cons, List.map_nil]); first | done | rfl | (simp only [List.length_drop, List.length_take]; rfl)) ?_
     with_reducible refine (slices_Equal_int_int.calls k _ _ t521 _ _ t525 true _ ?side1 ?side2 ?side3 ?side4 A11.out).mono ?_
     (case side1 => repeat (first | exact (Kd.R_reads' HO524.out).2.2 | (with_reducible refine Kd.C_alloc ?_ _) | (with_reducible refine Kd.C_drewN ?_ _) | (with_reducible refine Kd.C_drew ?_)))
     (case side2 => exact (Kd.R_reads' HO524.out).2.1)
     (case side3 => repeat (first | exact (Kd.R_reads' HO528.out).2.2 | (with_reducible refine Kd.C_alloc ?_ _) | (with_reducible refine Kd.C_drewN ?_ _) | (with_reducible refine Kd.C_drew ?_)))
     (case side4 => exact (Kd.R_reads' HO528.out).2.1)
     rintro e w' ⟨rfl, ⟨nd, rfl⟩⟩
     refine ⟨_, rfl, ?_⟩
     refine hK.out _ _ ⟨(bqC BK512.out 0).trans rfl, (bqC BK512.out 1).trans rfl, (bqC BK512.out 2).trans rfl, (bqC BK512.out 3).trans rfl⟩ (fun hHeld => ?_)
     clear hK K
     refine norm_ (a' := ?_) ?_ ?_
     rotate_left
     ·show Act.put _ (some 35) _ = _
      simp only [Act.put, List.setIfInBounds_toArray, List.set_cons_zero, List.set_cons_succ, i64_w, i32_w]
      rfl
     refine GS.pu 3 (some 36) HT_.out ?_
     refine GS.pu 4 (some 37) HT_.out ?_
     refine GS.pu 5 (some 38) HT_.out ?_
     refine GS.pu 6 (some 39) HT_.out ?_
     refine GS.pu 7 (some 40) HT_.out ?_
     refine GS.pu 8 (some 41) HT_.out ?_
     refine GS.pu 11 (some 44) HT_.out ?_
     refine GS.pu 15 (some 48) HT_.out ?_
     refine GS.tk 9 (some 42) HT_.out HW_.out hHeld ?_
     refine GS.tk 14 (some 47) HT_.out HW_.out hHeld ?_
     refine one_ (i := 10) (N := some 43) #[true, true, true, true, true, true, true, true, true, true, true, true, false, false, true, true, false, false, false, false] rfl rfl (one_of HT_.out (by kernel_rfl)) (by decide) (fun K hK => ?_)
     refine goes_ Try.func13 (by kernel_rfl) rfl #[.agg #[.string a0_0, .int .i64 a0_1, .slice A0_2 l0_2.length c0_2, .int .i64 a0_3]] (by rfl) rfl rfl (by (try simp only [List.map_toArray, List.map_cons, List.map_nil]); first | done | rfl | (simp only [List.length_drop, List.length_take]; rfl)) ?_
     with_reducible refine (spilelaw11_own.calls k a0_0 a0_1 (fun k_ => k_ < w.heap.size) _ _ l0_2 a0_3 t530 t531 t532 t535 _ ?side1 A14.out).mono ?_
     (case side1 => exact Kd.V_mk HC0_2.out (Kd.F_below (Kd.C_F k39_heap HR0_2.out) (GS.lB HB.out)))
     rintro e w34 ⟨v533, rfl, ho0, hb⟩
     refine ⟨_, rfl, ?_⟩
     have q_ := GS.q7 (GS.kR HO516 hb) (GS.kR HO520 hb) (GS.kR HO524 hb) (GS.kR HO528 hb) (Aside0.mk (Kd.V_lower (Kd.V_mono (ok' := fun k_ => some k_ ≠ (.slice Ao23 z514.length co23 : Value).ownBlock ∧ some k_ ≠ (.slice Ao27 t518.length co27 : Value).ownBlock ∧ some k_ ≠ (.slice Ao32 t521.length co32 : Value).ownBlock ∧ some k_ ≠ (.slice Ao33 t525.length co33 : Value).ownBlock ∧ k_ ≠ gb512) ho0 (fun k_ hk_ => ⟨Or.elim hk_ (fun hs_ => fun e_ => Nat.not_le.2 hs_ (Kd.R_base HO516.out k_ e_.symm)) (fun hn_ => (Kd.fresh' (Kd.R_lt (GS.rR HO516.out)) k_ hn_)), Or.elim hk_ (fun hs_ => fun e_ => Nat.not_le.2 hs_ (Kd.R_base HO520.out k_ e_.symm)) (fun hn_ => (Kd.fresh' (Kd.R_lt (GS.rR HO520.out)) k_ hn_)), Or.elim hk_ (fun hs_ => fun e_ => Nat.not_le.2 hs_ (Kd.R_base HO524.out k_ e_.symm)) (fun hn_ => (Kd.fresh' (Kd.R_lt (GS.rR HO524.out)) k_ hn_)), Or.elim hk_ (fun hs_ => fun e_ => Nat.not_le.2 hs_ (Kd.R_base HO528.out k_ e_.symm)) (fun hn_ => (Kd.fresh' (Kd.R_lt (GS.rR HO528.out)) k_ hn_)), Or.elim hk_ (fun hs_ => fun e_ => Nat.not_le.2 hs_ (by rw [e_]; exact GW512.out)) (fun hn_ => (Kd.freshB (GS.bqX BK512.out) k_ hn_))⟩)) (lqZ (GS.lB HB.out)))) (GS.kB BK512 hb) (GS.kH HB hb)
     clear HO516 HO520 HO524 HO528 BK512 HB
     obtain ⟨HO516, HO520, HO524, HO528, HO534, BK512, HB⟩ := q_
     (try clear hb)
     (try clear hb2)
     (try clear hk)
     (try clear hi)
     (try clear ho0)
     refine hK.out _ _ ⟨(bqC BK512.out 0).trans rfl, (bqC BK512.out 1).trans rfl, (bqC BK512.out 2).trans rfl, (bqC BK512.out 3).trans rfl⟩ (fun hHeld => ?_)
     clear hK K
     refine norm_ (a' := ?_) ?_ ?_
     rotate_left
     ·show Act.put _ (some 43) _ = _
      simp only [Act.put, List.setIfInBounds_toArray, List.set_cons_zero, List.set_cons_succ, i64_w, i32_w]
      rfl
     refine one_ (i := 12) (N := some 45) #[true, true, true, true, true, true, true, true, true, true, true, true, true, false, true, true, false, false, false, false] rfl rfl (one_of HT_.out (by kernel_rfl)) (by decide) (fun K hK => ?_)
     refine goes_ Try.func22 (by kernel_rfl) rfl #[.slice A2 l2.length c2] (by rfl) rfl rfl (by (try simp only [List.map_toArray, List.map_cons, List.map_nil]); first | done | rfl | (simp only [List.length_drop, List.length_take]; rfl)) ?_
     with_reducible refine (clone22.calls _ _ l2 t536 _ ?side1 ?side2 A15.out).mono ?_
     (case side1 => exact GS.rC (Kd.C_below HR2.out HB.out))
     (case side2 => exact HC2.out)
     rintro e w35 ⟨v537, rfl, ho0, hb⟩
     refine ⟨_, rfl, ?_⟩
     have q_ := GS.q8 (GS.kE HO516 ho0 hb) (GS.kR HO520 hb) (GS.kE HO524 ho0 hb) (GS.kE HO528 ho0 hb) (Aside0.mk (Kd.V_elder' (by (with_reducible repeat (first | apply Kd.V_alloc | apply Kd.V_drewN | apply Kd.V_drew)); exact HO534.out) (Kd.R_base ho0) hb)) (Aside0.mk (Kd.R_lower (Kd.R_new' (Kd.R_new' (Kd.R_new' ho0 (Kd.R_lt (GS.rR HO516.out))) (Kd.R_lt (GS.rR HO524.out))) (Kd.R_lt (GS.rR HO528.out))) (lqZ (GS.lB HB.out)))) (GS.kB BK512 hb) (GS.kH HB hb)
     clear HO516 HO520 HO524 HO528 HO534 BK512 HB
     obtain ⟨HO516, HO520, HO524, HO528, HO534, HO538, BK512, HB⟩ := q_
     (try clear hb)
     (try clear hb2)
     (try clear hk)
     (try clear hi)
     (try clear ho0)
     obtain ⟨Ao36, co36, eo36⟩ := Kd.V_slice HO534.out
     (first | subst eo36 | (injection eo36 with f1_ f2_ f3_; have f4_ := f1_.symm; have f5_ := f3_.symm; clear f1_ f2_ f3_; subst f4_; subst f5_))
     obtain ⟨Ao37, co37, eo37⟩ := Kd.R_slice HO538.out
     (first | subst eo37 | (injection eo37 with f1_ f2_ f3_; have f4_ := f1_.symm; have f5_ := f3_.symm; clear f1_ f2_ f3_; subst f4_; subst f5_))
     refine hK.out _ _ ⟨(bqC BK512.out 0).trans rfl, (bqC BK512.out 1).trans rfl, (bqC BK512.out 2).trans rfl, (bqC BK512.out 3).trans rfl⟩ (fun hHeld => ?_)
     clear hK K
     refine norm_ (a' := ?_) ?_ ?_
     rotate_left
     ·show Act.put _ (some 45) _ = _
      simp only [Act.put, List.setIfInBounds_toArray, List.set_cons_zero, List.set_cons_succ, i64_w, i32_w]
      rfl
     refine one_ (i := 13) (N := some 46) #[true, true, true, true, true, true, true, true, true, true, true, true, true, true, true, true, false, false, false, false] rfl rfl (one_of HT_.out (by kernel_rfl)) (by decide) (fun K hK => ?_)
     refine goes_ Try.func21 (by kernel_rfl) rfl #[.agg #[.string t530, .int .i64 t531, .slice Ao36 t532.length co36, .int .i64 t535], .slice Ao37 t536.length co37] (by rfl) rfl rfl (by (try simp only [List.map_toArray, List.map_cons, List.map_nil]); first | done | rfl | (simp only [List.length_drop, List.length_take]; rfl)) ?_
     with_reducible refine (lying_Check.calls k t530 t531 _ _ t532 t535 _ _ t536 t539 _ ?side1 ?side2 ?side3 ?side4 A16.out).mono ?_
     (case side1 => repeat (first | exact (Kd.V_reads' HO534.out).2.2 | (with_reducible refine Kd.C_alloc ?_ _) | (with_reducible refine Kd.C_drewN ?_ _) | (with_reducible refine Kd.C_drew ?_)))
     (case side2 => exact (Kd.V_reads' HO534.out).2.1)
     (case side3 => repeat (first | exact (Kd.R_reads' HO538.out).2.2 | (with_reducible refine Kd.C_alloc ?_ _) | (with_reducible refine Kd.C_drewN ?_ _) | (with_reducible refine Kd.C_drew ?_)))
     (case side4 => exact (Kd.R_reads' HO538.out).2.1)
     rintro e w38 ⟨rfl, hb⟩
     refine ⟨_, rfl, ?_⟩
     have q_ := GS.q8 (GS.kR HO516 hb) (GS.kR HO520 hb) (GS.kR HO524 hb) (GS.kR HO528 hb) (Aside0.mk (Kd.V_below (by (with_reducible repeat (first | apply Kd.V_alloc | apply Kd.V_drewN | apply Kd.V_drew)); exact HO534.out) hb)) (GS.kR HO538 hb) (GS.kB BK512 hb) (GS.kH HB hb)
     clear HO516 HO520 HO524 HO528 HO534 HO538 BK512 HB
     obtain ⟨HO516, HO520, HO524, HO528, HO534, HO538, BK512, HB⟩ := q_
     (try clear hb)
     (try clear hb2)
     (try clear hk)
     (try clear hi)
     refine hK.out _ _ ⟨(bqC BK512.out 0).trans rfl, (bqC BK512.out 1).trans rfl, (bqC BK512.out 2).trans rfl, (bqC BK512.out 3).trans rfl⟩ (fun hHeld => ?_)
     clear hK K
     refine norm_ (a' := ?_) ?_ ?_
     rotate_left
     ·show Act.put _ (some 46) _ = _
      simp only [Act.put, List.setIfInBounds_toArray, List.set_cons_zero, List.set_cons_succ, i64_w, i32_w]
      rfl
     refine one_ (i := 16) (N := some 49) #[true, true, true, true, true, true, true, true, true, true, true, true, true, true, true, true, true, false, false, false] rfl rfl (one_of HT_.out (by kernel_rfl)) (by decide) (fun K hK => ?_)
     refine goes_ Try.func23 (by kernel_rfl) rfl #[.agg #[.string a0_0, .int .i64 a0_1, .slice A0_2 l0_2.length c0_2, .int .i64 a0_3], .slice A2 l2.length c2] (by rfl) rfl rfl (by (try simp only [List.map_toArray, List.map_cons, List.map_nil]); first | done | rfl | (simp only [List.length_drop, List.length_take]; rfl)) ?_
     with_reducible refine (spileref11_Check.calls k a0_0 a0_1 _ _ l0_2 a0_3 _ _ l2 t540 _ ?side1 ?side2 ?side3 ?side4 A17.out).mono ?_
     (case side1 => exact GS.rC (Kd.C_below HR0_2.out HB.out))
     (case side2 => exact HC0_2.out)
     (case side3 => exact GS.rC (Kd.C_below HR2.out HB.out))
     (case side4 => exact HC2.out)
     rintro e w39 ⟨rfl, hb⟩
     refine ⟨_, rfl, ?_⟩
     have q_ := GS.q8 (GS.kR HO516 hb) (GS.kR HO520 hb) (GS.kR HO524 hb) (GS.kR HO528 hb) (Aside0.mk (Kd.V_below (by (with_reducible repeat (first | apply Kd.V_alloc | apply Kd.V_drewN | apply Kd.V_drew)); exact HO534.out) hb)) (GS.kR HO538 hb) (GS.kB BK512 hb) (GS.kH HB hb)
     clear HO516 HO520 HO524 HO528 HO534 HO538 BK512 HB
     obtain ⟨HO516, HO520, HO524, HO528, HO534, HO538, BK512, HB⟩ := q_
     (try clear hb)
     (try clear hb2)
     (try clear hk)
     (try clear hi)
     refine hK.out _ _ ⟨(bqC BK512.out 0).trans rfl, (bqC BK512.out 1).trans rfl, (bqC BK512.out 2).trans rfl, (bqC BK512.out 3).trans rfl⟩ (fun hHeld => ?_)
     clear hK K
     refine norm_ (a' := ?_) ?_ ?_
     rotate_left
     ·show Act.put _ (some 49) _ = _
      simp only [Act.put, List.setIfInBounds_toArray, List.set_cons_zero, List.set_cons_succ, i64_w, i32_w]
      rfl
     refine GS.pu 17 (some 50) HT_.out ?_
     refine GS.pu 18 (some 51) HT_.out ?_
     refine GS.pu 19 (some 6) HT_.out ?_
     refine done_ (done_of HT_.out (by kernel_rfl)) ?_
     try go_wp2
     go_ret
     exact ⟨by first | rfl | (simp [errW_none, errW_some] <;> rfl) | (simp [*, errW_none, errW_some] <;> rfl), GS.lB HB.out⟩
    ·rw [if_neg c13] at H
     exact absurd H (by simp)
   ·replace c12 := Bool.eq_false_iff.mpr c12
    subst c12
    have H1 : (none) = some r := by rw [if_neg (show ¬ (false = true) by decide)] at H; exact H
    clear H
    have H := H1
    clear H1
    exact absurd H (by simp)
  ·replace c7 := Bool.eq_false_iff.mpr c7
   subst c7
   have H1 : (some true) = some r := by rw [if_neg (show ¬ (false = true) by decide)] at H; exact H
   clear H
   have H := H1
   clear H1
   obtain rfl := Option.some.inj H
   go_enter Try.func4, Try.ntmps4
   go_wp2_with (first | ((with_reducible refine gqD (N := 3) rfl ?_); refine GS.bx (N := 3) (cs := #[.string a0_0, .int .i64 a0_1, .slice A0_2 l0_2.length c0_2, .int .i64 a0_3]) (t := 24) ?_; intro gb512 hg w40 hbox hb; have q_ := GS.q4 (GS.kH HB hb) (Aside0.mk hbox) (GS.kZ hg HB) (GS.kZ hg HB); clear HB; obtain ⟨HB, BK512, GW512, GE512⟩ := q_; clear hb hbox hg) | ((with_reducible refine gqC (f := 10) rfl ?_); refine GS.gL (some 11) Try.func10 #[] ?_; (with_reducible refine (spilelaw11_awake.calls k  true _ A4.out).mono ?_); rintro e w41 ⟨rfl, hb⟩; refine ⟨_, rfl, ?_⟩; have q_ := GS.q2 (GS.kB BK512 hb) (GS.kH HB hb); clear BK512 HB; obtain ⟨BK512, HB⟩ := q_; (try clear hb); (try clear hb2); (try clear hk); (try clear hi); obtain ⟨hcz42_0, hcz42_1, hcz42_2, hcz42_3, hfz42_0, hfz42_1, hfz42_2, hfz42_3⟩ := GS.c4 BK512.out) | ((with_reducible refine gqD (N := 15) rfl ?_); refine Kd.R_lit kV _ 34 ?hg (N := 15) ?hd (xs := ([.slice A2 l2.length c2] : List Value)) (inner := [.slice A2 l2.length c2]) (ok := fun _ => True) (okp := fun _ => True) ?hr ?hp (fun _ hk => hk) trivial (Below.refl _ _) (Nat.le_refl _) (by simp) ?_; (case hd => rfl); (case hg => rfl); (case hr => first | (go_simp; done) | (go_simp; rfl)); (case hp => exact (Reps.one (show Kd.M kV _ _ _ (.slice A2 l2.length c2) [.slice A2 l2.length c2] from ⟨rfl, rfl⟩) (Reps.none _ _))); intro v515 w43 ho44 hb hg_ hnew_; clear hg_ hnew_; rw [← Nz514.out] at ho44; have q_ := GS.q3 (GS.kL ho44 HB) (GS.kB BK512 hb) (GS.kH HB hb); clear BK512 HB; obtain ⟨HO516, BK512, HB⟩ := q_; clear hb ho44; obtain ⟨Ao45, co45, eo45⟩ := Kd.R_slice HO516.out; subst eo45) | ((with_reducible refine gqC (f := 11) rfl ?_); refine GS.gL (some 16) Try.func11 #[.agg #[.string a0_0, .int .i64 a0_1, .slice A0_2 l0_2.length c0_2, .int .i64 a0_3], .slice Ao45 z514.length co45] ?_; rw [NZ514.out]; (with_reducible refine (spilelaw11_few.calls k a0_0 a0_1 (fun k_ => k_ < w.heap.size) _ _ l0_2 a0_3 _ _ y514 false _ ?side1 ?side2 ?side3 A6.out).mono ?_); (case side1 => exact Kd.V_mk HC0_2.out (Kd.F_below (Kd.C_F k39_heap HR0_2.out) (GS.lB HB.out))); (case side2 => exact rawC (vs := z514) (ls := y514) (by repeat (first | exact (Kd.R_reads' HO516.out).2.2 | (with_reducible refine Kd.C_alloc ?_ _) | (with_reducible refine Kd.C_drewN ?_ _) | (with_reducible refine Kd.C_drew ?_))) NZ514.out (fun j v l e1 e2 => by (rw [Nz514.out] at e1; rw [Ny514.out] at e2; match j with | 0 => (cases e1; cases e2; exact ⟨A2, c2, rfl, HC2.out, GS.rC (Kd.C_below HR2.out HB.out)⟩) | j + 1 => (simp at e1)))); (case side3 => rw [← NZ514.out]; exact (Kd.R_reads' HO516.out).2.1); rintro e w46 ⟨rfl, hb⟩; refine ⟨_, rfl, ?_⟩; have q_ := GS.q3 (GS.kR HO516 hb) (GS.kB BK512 hb) (GS.kH HB hb); clear HO516 BK512 HB; obtain ⟨HO516, BK512, HB⟩ := q_; (try clear hb); (try clear hb2); (try clear hk); (try clear hi)))
   go_ret
   exact ⟨by first | rfl | (simp [errW_none, errW_some] <;> rfl) | (simp [*, errW_none, errW_some] <;> rfl), GS.lB HB.out⟩
 ·replace c5 := Bool.eq_false_iff.mpr c5
  subst c5
  have H1 : (none) = some r := by rw [if_neg (show ¬ (false = true) by decide)] at H; exact H
  clear H
  have H := H1
  clear H1
  exact absurd H (by simp)

end Go.Proofs.Ytefjmcljkmppoaa.K
