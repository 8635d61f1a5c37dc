-- PRINTED by print.py (a twelfth state) out of the translation. Not trusted: Lean checks it.
import Derived.Test.YtfhmjleimampeaaK0
import Derived.Test.YtfhmjleimampeaaGPu
import Derived.Test.YtfhmjleimampeaaGShort
import Derived.Test.YtfhmjleimampeaaK12
import Derived.Test.YtfhmjleimampeaaK14
import Derived.Test.YtfhmjleimampeaaK21
import Derived.Test.YtfhmjleimampeaaGCloneF
import Derived.Test.YtfhmjleimampeaaGSuspects
namespace Go.Proofs.Ytfhmjleimampeaa.K
open Go.RowKit Go.Proofs.YtfhmjleimampeaaW.PrintWords Go.Proofs.YtfhmjleimampeaaW.PrintLast Go.Proofs.YtfhmjleimampeaaW.PrintMore
attribute [local go_sem] max2_int min2_int max_two min_two max_three min_three max_four min_four   -- for this text's walks alone
set_option linter.unusedVariables false
set_option linter.unusedSimpArgs false

/-! ### spilelaw34_SuspectNames: function 5 -/
def spilelaw34_SuspectNames.f (k : Nat) (l0 : List (S30)) (a1 : Int) (a2_0 : Int) (a2_1 : Int) : Option (Bool) := (spilelaw34_awake.f k).bind fun t547 => (if t547 = true then ((spileref34_Few.f l0).bind fun t548 => (if t548 = true then ((clone13.f l0).bind fun t549 => ((suspect_Suspects.f t549 a1 a2_0 a2_1).bind fun bt552 => ((spileref34_Suspects.f k l0 a1 a2_0 a2_1).bind fun bt556 => ((spileref33_Same.f k bt552.1 bt556.1).bind fun t560 => (if t560 = true then (some (bt552.2 == bt556.2)) else (none)))))) else (some true))) else (none))
theorem spilelaw34_SuspectNames.mono : ∀ a0 a1 a2 a3 k, LeO (spilelaw34_SuspectNames.f k a0 a1 a2 a3) (spilelaw34_SuspectNames.f (k + 1) a0 a1 a2 a3) := by
 intro a0 a1 a2 a3 k
 unfold spilelaw34_SuspectNames.f
 repeat' first
   | (with_reducible exact spilelaw34_awake.mono _)
   | (with_reducible exact spileref33_Same.mono _ _ _)
   | (with_reducible exact spileref34_Suspects.mono _ _ _ _ _)
   | (with_reducible exact LeO.refl _)
   | (with_reducible exact LeO.none _)
   | (with_reducible refine LeO.ite ?_ ?_)
   | (with_reducible refine LeO.bind ?_ (fun _ => ?_))
   | exact spilelaw34_awake.mono _
   | exact spileref33_Same.mono _ _ _
   | exact spileref34_Suspects.mono _ _ _ _ _
   | exact LeO.none _
   | refine LeO.ite ?_ ?_
   | refine LeO.bind ?_ (fun _ => ?_)
def spilelaw34_SuspectNames.T5 : Bool × List (List Nat × List Nat) := (true, [([], []), ([0], [0]), ([], []), ([], []), ([3], [3]), ([], []), ([5], [5]), ([1, 2, 4, 6, 1], [1, 2, 4, 6]), ([7], [7]), ([8], [8]), ([8], [8]), ([9, 7, 0, 1, 2, 3, 4, 5, 6, 7, 8, 9], [9]), ([10, 11, 0, 1, 2, 3, 4, 5, 6, 7, 8, 9, 10, 11], [10])])
def spilelaw34_SuspectNames.B5 : List Nat := [0, 1, 0, 0, 8, 0, 32, 127, 255, 511, 511, 1023, 4095]
theorem spilelaw34_SuspectNames.tab5 : rtab .any (opsOf Try.f5 5) = spilelaw34_SuspectNames.T5 := by kernel_rfl
theorem spilelaw34_SuspectNames.bits5 : waitsOk spilelaw34_SuspectNames.T5.2 spilelaw34_SuspectNames.B5 = true := by kernel_rfl
set_option maxHeartbeats 8000000 in
set_option maxRecDepth 100000 in
theorem spilelaw34_SuspectNames.calls (k : Nat) (A0 : Option Addr) (c0 : Nat) (l0 : List (S30)) (a1 : Int) (a2_0 : Int) (a2_1 : Int) (r : Bool) (w : World) (hr0 : Kd.C k30 w A0 l0.length l0) (hc0 : l0.length ≤ c0) (h : spilelaw34_SuspectNames.f k l0 a1 a2_0 a2_1 = some r) :
  Calls Try.prog 5 #[.slice A0 l0.length c0, .int .i64 a1, .agg #[.int .i64 a2_0, .int .i64 a2_1]] w fun e w' => e = .returned (.bool r) ∧ Below w.heap.size w w' := by
 have hu79 := Try.underlying42
 have HR0 := Aside0.mk hr0
 have HC0 := Aside0.mk hc0
 clear hr0 hc0
 have HB := Aside0.mk (Below.refl w.heap.size w)
 have H : ((spilelaw34_awake.f k).bind fun t547 => (if t547 = true then ((spileref34_Few.f l0).bind fun t548 => (if t548 = true then ((clone13.f l0).bind fun t549 => ((suspect_Suspects.f t549 a1 a2_0 a2_1).bind fun bt552 => ((spileref34_Suspects.f k l0 a1 a2_0 a2_1).bind fun bt556 => ((spileref33_Same.f k bt552.1 bt556.1).bind fun t560 => (if t560 = true then (some (bt552.2 == bt556.2)) else (none)))))) else (some true))) else (none))) = some r := h
 clear h
 replace H := Option.bind_eq_some_iff.mp H
 obtain ⟨t547, A40, H⟩ := H
 replace H : (if t547 = true then ((spileref34_Few.f l0).bind fun t548 => (if t548 = true then ((clone13.f l0).bind fun t549 => ((suspect_Suspects.f t549 a1 a2_0 a2_1).bind fun bt552 => ((spileref34_Suspects.f k l0 a1 a2_0 a2_1).bind fun bt556 => ((spileref33_Same.f k bt552.1 bt556.1).bind fun t560 => (if t560 = true then (some (bt552.2 == bt556.2)) else (none)))))) else (some true))) else (none)) = some r := H
 have A4 := Aside0.mk A40
 clear A40
 by_cases c5 : t547 = true
 ·subst c5
  have H1 : ((spileref34_Few.f l0).bind fun t548 => (if t548 = true then ((clone13.f l0).bind fun t549 => ((suspect_Suspects.f t549 a1 a2_0 a2_1).bind fun bt552 => ((spileref34_Suspects.f k l0 a1 a2_0 a2_1).bind fun bt556 => ((spileref33_Same.f k bt552.1 bt556.1).bind fun t560 => (if t560 = true then (some (bt552.2 == bt556.2)) else (none)))))) else (some true))) = some r := by rw [if_pos rfl] at H; exact H
  clear H
  have H := H1
  clear H1
  replace H := Option.bind_eq_some_iff.mp H
  obtain ⟨t548, A60, H⟩ := H
  replace H : (if t548 = true then ((clone13.f l0).bind fun t549 => ((suspect_Suspects.f t549 a1 a2_0 a2_1).bind fun bt552 => ((spileref34_Suspects.f k l0 a1 a2_0 a2_1).bind fun bt556 => ((spileref33_Same.f k bt552.1 bt556.1).bind fun t560 => (if t560 = true then (some (bt552.2 == bt556.2)) else (none)))))) else (some true)) = some r := H
  have A6 := Aside0.mk A60
  clear A60
  by_cases c7 : t548 = true
  ·subst c7
   have H1 : ((clone13.f l0).bind fun t549 => ((suspect_Suspects.f t549 a1 a2_0 a2_1).bind fun bt552 => ((spileref34_Suspects.f k l0 a1 a2_0 a2_1).bind fun bt556 => ((spileref33_Same.f k bt552.1 bt556.1).bind fun t560 => (if t560 = true then (some (bt552.2 == bt556.2)) else (none)))))) = some r := by rw [if_pos rfl] at H; exact H
   clear H
   have H := H1
   clear H1
   replace H := Option.bind_eq_some_iff.mp H
   obtain ⟨t549, A80, H⟩ := H
   replace H : ((suspect_Suspects.f t549 a1 a2_0 a2_1).bind fun bt552 => ((spileref34_Suspects.f k l0 a1 a2_0 a2_1).bind fun bt556 => ((spileref33_Same.f k bt552.1 bt556.1).bind fun t560 => (if t560 = true then (some (bt552.2 == bt556.2)) else (none))))) = some r := H
   have A8 := Aside0.mk A80
   clear A80
   replace H := Option.bind_eq_some_iff.mp H
   obtain ⟨⟨t552, t553⟩, A90, H⟩ := H
   replace H : ((spileref34_Suspects.f k l0 a1 a2_0 a2_1).bind fun bt556 => ((spileref33_Same.f k t552 bt556.1).bind fun t560 => (if t560 = true then (some (t553 == bt556.2)) else (none)))) = some r := H
   have A9 := Aside0.mk A90
   clear A90
   replace H := Option.bind_eq_some_iff.mp H
   obtain ⟨⟨t556, t557⟩, A100, H⟩ := H
   replace H : ((spileref33_Same.f k t552 t556).bind fun t560 => (if t560 = true then (some (t553 == t557)) else (none))) = some r := H
   have A10 := Aside0.mk A100
   clear A100
   replace H := Option.bind_eq_some_iff.mp H
   obtain ⟨t560, A110, H⟩ := H
   replace H : (if t560 = true then (some (t553 == t557)) else (none)) = some r := H
   have A11 := Aside0.mk A110
   clear A110
   by_cases c12 : t560 = true
   ·subst c12
    have H1 : (some (t553 == t557)) = some r := by rw [if_pos rfl] at H; exact H
    clear H
    have H := H1
    clear H1
    obtain rfl := Option.some.inj H
    go_enter Try.func5, Try.ntmps5
    try go_wp2_with (first | ((with_reducible refine gqD (N := 5) rfl ?_); refine GS.bx (N := 5) (cs := #[.int .i64 a2_0, .int .i64 a2_1]) (t := 42) ?_; intro gb546 hg w13 hbox hb; have n0_ := Aside0.mk (lqT (GS.lB HB.out) hb); have n1_ := Aside0.mk (hbox); have n2_ := Aside0.mk ((by rw [hg]; exact (lqZ (GS.lB HB.out)) : w.heap.size ≤ gb546)); have n3_ := Aside0.mk ((by rw [hg]; exact (lqZ (GS.lB HB.out)) : w.heap.size ≤ gb546)); clear HB; have HB := n0_; have BK546 := n1_; have GW546 := n2_; have GE546 := n3_; clear n0_ n1_ n2_ n3_; clear hb hbox hg) | ((with_reducible refine gqC (f := 10) rfl ?_); refine GS.gL (some 11) Try.func10 #[] ?_; (with_reducible refine (spilelaw34_awake.calls k  true _ A4.out).mono ?_); rintro e w14 ⟨rfl, hb⟩; refine ⟨_, rfl, ?_⟩; have n0_ := Aside0.mk (bqB (GS.bqX BK546.out) hb); have n1_ := Aside0.mk (lqT (GS.lB HB.out) hb); clear BK546; clear HB; have BK546 := n0_; have HB := n1_; clear n0_ n1_; (try clear hb); (try clear hb2); (try clear hk); (try clear hi)) | ((with_reducible refine gqC (f := 11) rfl ?_); refine GS.gL (some 14) Try.func11 #[.slice A0 l0.length c0] ?_; (with_reducible refine (spileref34_Few.calls _ _ l0 true _ ?side1 ?side2 A6.out).mono ?_); (case side1 => exact GS.rC (Kd.C_below HR0.out HB.out)); (case side2 => exact HC0.out); rintro e w' ⟨rfl, ⟨nd, rfl⟩⟩; refine ⟨_, rfl, ?_⟩))
    (try (rw [drewN_self w14]; generalize hq_ : World.drewN w14 _ = w14; have n0_ : Aside0 (w14.heap[gb546]? = some (.cells #[.int .i64 a2_0, .int .i64 a2_1] 42 (0, 0))) := ⟨by rw [← hq_]; exact (GS.bqX BK546.out)⟩; have n1_ : Aside0 (Below w.heap.size w w14) := ⟨by rw [← hq_]; exact (GS.lB HB.out)⟩; clear BK546 HB hq_; have BK546 := n0_; have HB := n1_; clear n0_ n1_))
    have n0_ := Aside0.mk (bqD BK546.out)
    have n1_ := Aside0.mk (lqD HB.out)
    clear BK546
    clear HB
    have BK546 := n0_
    have HB := n1_
    clear n0_ n1_
    refine start_ (n := 13) (S := fun w' => w'.cell? ⟨gb546, 0, none⟩ = some (.int .i64 a2_0) ∧ w'.cell? ⟨gb546, 1, none⟩ = some (.int .i64 a2_1)) (ds := []) #[false, false, false, false, false, false, false, false, false, false, false, false, false] (by kernel_rfl) rfl rfl ⟨(bqC BK546.out 0).trans rfl, (bqC BK546.out 1).trans rfl⟩ (fun hHeld => ?_); refine with_tabW spilelaw34_SuspectNames.tab5 spilelaw34_SuspectNames.bits5 (fun HT_ HW_ => ?_)
    generalize w14.drew = w15 at BK546 HB hHeld ⊢
    refine GS.pu 0 (some 17) HT_.out ?_
    refine GS.pu 2 (some 19) HT_.out ?_
    refine GS.pu 3 (some 20) HT_.out ?_
    refine GS.pu 5 (some 22) HT_.out ?_
    refine GS.tk 4 (some 21) HT_.out HW_.out hHeld ?_
    refine GS.tk 6 (some 23) HT_.out HW_.out hHeld ?_
    refine one_ (i := 1) (N := some 18) #[true, true, true, true, true, true, true, false, false, false, false, false, false] rfl rfl (one_of HT_.out (by kernel_rfl)) (by decide) (fun K hK => ?_)
    refine goes_ Try.func13 (by kernel_rfl) rfl #[.slice A0 l0.length c0] (by rfl) rfl rfl (by (try simp only [List.map_toArray, List.map_cons, List.map_nil]); first | done | rfl | (simp only [List.length_drop, List.length_take]; rfl)) ?_
    with_reducible refine (clone13.calls _ _ l0 t549 _ ?side1 ?side2 A8.out).mono ?_
    (case side1 => exact GS.rC (Kd.C_below HR0.out HB.out))
    (case side2 => exact HC0.out)
    rintro e w16 ⟨v550, rfl, ho0, hb⟩
    refine ⟨_, rfl, ?_⟩
    have n0_ := Aside0.mk (Kd.R_lower ho0 (lqZ (GS.lB HB.out)))
    have n1_ := Aside0.mk (bqB (GS.bqX BK546.out) hb)
    have n2_ := Aside0.mk (lqT (GS.lB HB.out) hb)
    clear BK546
    clear HB
    have HO551 := n0_
    have BK546 := n1_
    have HB := n2_
    clear n0_ n1_ n2_
    (try clear hb)
    (try clear hb2)
    (try clear hk)
    (try clear hi)
    (try clear ho0)
    obtain ⟨Ao17, co17, eo17⟩ := Kd.R_slice HO551.out
    (first | subst eo17 | (injection eo17 with f1_ f2_ f3_; have f4_ := f1_.symm; have f5_ := f3_.symm; clear f1_ f2_ f3_; subst f4_; subst f5_))
    refine hK.out _ _ ⟨(bqC BK546.out 0).trans rfl, (bqC BK546.out 1).trans rfl⟩ (fun hHeld => ?_)
    clear hK K
    refine norm_ (a' := ?_) ?_ ?_
    rotate_left
    ·show Act.put _ (some 18) _ = _
     simp only [Act.put, List.setIfInBounds_toArray, List.set_cons_zero, List.set_cons_succ, i64_w, i32_w]
     rfl
    refine one_ (i := 7) (N := some 24) #[true, true, true, true, true, true, true, true, false, false, false, false, false] rfl rfl (one_of HT_.out (by kernel_rfl)) (by decide) (fun K hK => ?_)
    refine goes_ Try.func25 (by kernel_rfl) rfl #[.slice Ao17 t549.length co17, .int .i64 a1, .int .i64 a2_0, .int .i64 a2_1] (by rfl) rfl rfl (by (try simp only [List.map_toArray, List.map_cons, List.map_nil]); first | done | rfl | (simp only [List.length_drop, List.length_take]; rfl)) ?_
    with_reducible refine (suspect_Suspects.calls _ _ t549 a1 a2_0 a2_1 t552 t553 _ ?side1 ?side2 A9.out).mono ?_
    (case side1 => repeat (first | exact (Kd.R_reads' HO551.out).2.2 | (with_reducible refine Kd.C_alloc ?_ _) | (with_reducible refine Kd.C_drewN ?_ _) | (with_reducible refine Kd.C_drew ?_)))
    (case side2 => exact (Kd.R_reads' HO551.out).2.1)
    rintro e w18 ⟨v554, rfl, ho0, hb⟩
    refine ⟨_, rfl, ?_⟩
    have n0_ := Aside0.mk (Kd.R_below (GS.rR HO551.out) hb)
    have n1_ := Aside0.mk (Kd.R_lower ho0 (lqZ (GS.lB HB.out)))
    have n2_ := Aside0.mk (bqB (GS.bqX BK546.out) hb)
    have n3_ := Aside0.mk (lqT (GS.lB HB.out) hb)
    clear HO551
    clear BK546
    clear HB
    have HO551 := n0_
    have HO555 := n1_
    have BK546 := n2_
    have HB := n3_
    clear n0_ n1_ n2_ n3_
    (try clear hb)
    (try clear hb2)
    (try clear hk)
    (try clear hi)
    (try clear ho0)
    refine hK.out _ _ ⟨(bqC BK546.out 0).trans rfl, (bqC BK546.out 1).trans rfl⟩ (fun hHeld => ?_)
    clear hK K
    refine norm_ (a' := ?_) ?_ ?_
    rotate_left
    ·show Act.put _ (some 24) _ = _
     simp only [Act.put, List.setIfInBounds_toArray, List.set_cons_zero, List.set_cons_succ, i64_w, i32_w]
     rfl
    refine GS.pu 8 (some 16) HT_.out ?_
    refine GS.pu 9 (some 25) HT_.out ?_
    refine GS.pu 10 (some 26) HT_.out ?_
    refine GS.pu 11 (some 7) HT_.out ?_
    refine GS.pu 12 (some 8) HT_.out ?_
    refine done_ (done_of HT_.out (by kernel_rfl)) ?_
    obtain ⟨hcz19_0, hcz19_1, hfz19_0, hfz19_1⟩ := GS.c2 BK546.out
    try go_wp2_with (first | ((with_reducible refine gqC (f := 26) rfl ?_); refine GS.gL (some 34) Try.func26 #[.slice A0 l0.length c0, .int .i64 a1, .int .i64 a2_0, .int .i64 a2_1] ?_; (with_reducible refine (spileref34_Suspects.calls k _ _ l0 a1 a2_0 a2_1 t556 t557 _ ?side1 ?side2 A10.out).mono ?_); (case side1 => exact GS.rC (Kd.C_below HR0.out HB.out)); (case side2 => exact HC0.out); rintro e w20 ⟨v558, rfl, ho0, hb⟩; refine ⟨_, rfl, ?_⟩; have n0_ := Aside0.mk (Kd.R_below (GS.rR HO551.out) hb); have n1_ := Aside0.mk (Kd.R_elder' (GS.rR HO555.out) (Kd.R_base ho0) hb); have n2_ := Aside0.mk (Kd.R_lower (Kd.R_new' ho0 (Kd.R_lt (GS.rR HO555.out))) (lqZ (GS.lB HB.out))); have n3_ := Aside0.mk (bqB (GS.bqX BK546.out) hb); have n4_ := Aside0.mk (lqT (GS.lB HB.out) hb); clear HO551; clear HO555; clear BK546; clear HB; have HO551 := n0_; have HO555 := n1_; have HO559 := n2_; have BK546 := n3_; have HB := n4_; clear n0_ n1_ n2_ n3_ n4_; (try clear hb); (try clear hb2); (try clear hk); (try clear hi); (try clear ho0); obtain ⟨Ao21, co21, eo21⟩ := Kd.R_slice HO555.out; subst eo21; obtain ⟨Ao22, co22, eo22⟩ := Kd.R_slice HO559.out; subst eo22) | ((with_reducible refine gqC (f := 19) rfl ?_); refine GS.gL (some 39) Try.func19 #[.slice Ao21 t552.length co21, .slice Ao22 t556.length co22] ?_; (with_reducible refine (spileref33_Same.calls k _ _ t552 _ _ t556 true _ ?side1 ?side2 ?side3 ?side4 A11.out).mono ?_); (case side1 => repeat (first | exact (Kd.R_reads' HO555.out).2.2 | (with_reducible refine Kd.C_alloc ?_ _) | (with_reducible refine Kd.C_drewN ?_ _) | (with_reducible refine Kd.C_drew ?_))); (case side2 => exact (Kd.R_reads' HO555.out).2.1); (case side3 => repeat (first | exact (Kd.R_reads' HO559.out).2.2 | (with_reducible refine Kd.C_alloc ?_ _) | (with_reducible refine Kd.C_drewN ?_ _) | (with_reducible refine Kd.C_drew ?_))); (case side4 => exact (Kd.R_reads' HO559.out).2.1); rintro e w' ⟨rfl, ⟨nd, rfl⟩⟩; refine ⟨_, rfl, ?_⟩))
    go_ret
    exact ⟨by first | rfl | (simp [errW_none, errW_some] <;> rfl) | (simp [*, errW_none, errW_some] <;> rfl), GS.lB HB.out⟩
   ·replace c12 := Bool.eq_false_iff.mpr c12
    subst c12
    have H1 : (none) = some r := by rw [if_neg (show ¬ (false = true) by decide)] at H; exact H
    clear H
    have H := H1
    clear H1
    exact absurd H (by simp)
  ·replace c7 := Bool.eq_false_iff.mpr c7
   subst c7
   have H1 : (some true) = some r := by rw [if_neg (show ¬ (false = true) by decide)] at H; exact H
   clear H
   have H := H1
   clear H1
   obtain rfl := Option.some.inj H
   go_enter Try.func5, Try.ntmps5
   go_wp2_with (first | ((with_reducible refine gqD (N := 5) rfl ?_); refine GS.bx (N := 5) (cs := #[.int .i64 a2_0, .int .i64 a2_1]) (t := 42) ?_; intro gb546 hg w23 hbox hb; have n0_ := Aside0.mk (lqT (GS.lB HB.out) hb); have n1_ := Aside0.mk (hbox); have n2_ := Aside0.mk ((by rw [hg]; exact (lqZ (GS.lB HB.out)) : w.heap.size ≤ gb546)); have n3_ := Aside0.mk ((by rw [hg]; exact (lqZ (GS.lB HB.out)) : w.heap.size ≤ gb546)); clear HB; have HB := n0_; have BK546 := n1_; have GW546 := n2_; have GE546 := n3_; clear n0_ n1_ n2_ n3_; clear hb hbox hg) | ((with_reducible refine gqC (f := 10) rfl ?_); refine GS.gL (some 11) Try.func10 #[] ?_; (with_reducible refine (spilelaw34_awake.calls k  true _ A4.out).mono ?_); rintro e w24 ⟨rfl, hb⟩; refine ⟨_, rfl, ?_⟩; have n0_ := Aside0.mk (bqB (GS.bqX BK546.out) hb); have n1_ := Aside0.mk (lqT (GS.lB HB.out) hb); clear BK546; clear HB; have BK546 := n0_; have HB := n1_; clear n0_ n1_; (try clear hb); (try clear hb2); (try clear hk); (try clear hi)) | ((with_reducible refine gqC (f := 11) rfl ?_); refine GS.gL (some 14) Try.func11 #[.slice A0 l0.length c0] ?_; (with_reducible refine (spileref34_Few.calls _ _ l0 false _ ?side1 ?side2 A6.out).mono ?_); (case side1 => exact GS.rC (Kd.C_below HR0.out HB.out)); (case side2 => exact HC0.out); rintro e w' ⟨rfl, ⟨nd, rfl⟩⟩; refine ⟨_, rfl, ?_⟩))
   go_ret
   exact ⟨by first | rfl | (simp [errW_none, errW_some] <;> rfl) | (simp [*, errW_none, errW_some] <;> rfl), GS.lB HB.out⟩
 ·replace c5 := Bool.eq_false_iff.mpr c5
  subst c5
  have H1 : (none) = some r := by rw [if_neg (show ¬ (false = true) by decide)] at H; exact H
  clear H
  have H := H1
  clear H1
  exact absurd H (by simp)

end Go.Proofs.Ytfhmjleimampeaa.K
