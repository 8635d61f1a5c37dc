-- PRINTED by print.py (a twelfth state) out of the translation. Not trusted: Lean checks it.
import Derived.Test.YtfjenooajbdcmaaK0
import Derived.Test.YtfjenooajbdcmaaGPu
import Derived.Test.YtfjenooajbdcmaaGShort
import Derived.Test.YtfjenooajbdcmaaGSym
import Derived.Test.YtfjenooajbdcmaaGCheck
import Derived.Test.YtfjenooajbdcmaaGHistory
import Derived.Test.YtfjenooajbdcmaaGIntact
import Derived.Test.YtfjenooajbdcmaaGOpen
namespace Go.Proofs.Ytfjenooajbdcmaa.K
open Go.RowKit Go.Proofs.YtfjenooajbdcmaaW.PrintWords Go.Proofs.YtfjenooajbdcmaaW.PrintLast Go.Proofs.YtfjenooajbdcmaaW.PrintMore
attribute [local go_sem] max2_int min2_int max_two min_two max_three min_three max_four min_four   -- for this text's walks alone
set_option linter.unusedVariables false
set_option linter.unusedSimpArgs false

-- NOT PRINTED: function 66 (slices_pdqsortOrdered_int)

-- NOT PRINTED: function 60 (slices_Sort_int_int)

-- NOT PRINTED: function 40 (slices_Sorted_int)

-- NOT PRINTED: function 41 (seal_standing_41)

-- GIVEN: function 13 (seal_Intact)

-- GIVEN: function 16 (seal_Unbroken)

-- NOT PRINTED: function 62 (seal_standing_62)

-- NOT PRINTED: function 48 (seal_standing_48)

-- NOT PRINTED: function 49 (seal_standing_49)

-- GIVEN: function 18 (seal_Open)

-- GIVEN: function 14 (api_Sealing_14)

-- GIVEN: function 28 (seal_Check)

/-! ### seal_Add: function 30 -/
def seal_Add.f (l0 : List (S34)) (a1_0 : Int) (a1_1 : Int) (a1_2 : Int) (a1_3 : Int) : Option ((List (S34)) × Int) := (seal_Check.f l0).bind fun bt203 => (if bt203.2 = 0 then ((clone34.f l0).bind fun t205 => ((some (([(⟨a1_0, a1_1, a1_2, a1_3⟩ : S34)] : List (S34)) : List (S34))).bind fun y208 => (if t205.length + y208.length < 4398046511104 then ((some (t205 ++ y208 : List (S34))).bind fun y211 => ((seal_Check.f y211).bind fun bt214 => (if bt214.2 = 0 then (some (y211, 0)) else (some (([] : List (S34)), bt214.2))))) else (none)))) else (some (([] : List (S34)), 1)))
def seal_Add.T4 : Bool × List (List Nat × List Nat) := (true, [([], []), ([0], [0]), ([], []), ([2], [2]), ([1, 3, 1], [1, 3]), ([4, 4, 0, 1, 2, 3, 4], [4])])
def seal_Add.B4 : List Nat := [0, 1, 0, 4, 15, 31]
theorem seal_Add.tab4 : rtab .any (opsOf Try.f30 4) = seal_Add.T4 := by kernel_rfl
theorem seal_Add.bits4 : waitsOk seal_Add.T4.2 seal_Add.B4 = true := by kernel_rfl
set_option maxHeartbeats 8000000 in
set_option maxRecDepth 100000 in
theorem seal_Add.calls (A0 : Option Addr) (c0 : Nat) (l0 : List (S34)) (a1_0 : Int) (a1_1 : Int) (a1_2 : Int) (a1_3 : Int) (r1 : List (S34)) (r2 : Int) (w : World) (hr0 : Kd.C k34 w A0 l0.length l0) (hc0 : l0.length ≤ c0) (h : seal_Add.f l0 a1_0 a1_1 a1_2 a1_3 = some (r1, r2)) :
  Calls Try.prog 30 #[.slice A0 l0.length c0, .agg #[.int .i64 a1_0, .int .i64 a1_1, .int .i64 a1_2, .int .i64 a1_3]] w fun e w' => ∃ v0_ : Value, e = .returned (.tuple #[v0_, .int .i64 r2]) ∧ Kd.R k34 34 w' w.heap.size (fun _ => True) v0_ r1 ∧ Below w.heap.size w w' := by
 have hu34 := Try.underlying34
 have HR0 := Aside0.mk hr0
 have HC0 := Aside0.mk hc0
 clear hr0 hc0
 have HB := Aside0.mk (Below.refl w.heap.size w)
 have H : ((seal_Check.f l0).bind fun bt203 => (if bt203.2 = 0 then ((clone34.f l0).bind fun t205 => ((some (([(⟨a1_0, a1_1, a1_2, a1_3⟩ : S34)] : List (S34)) : List (S34))).bind fun y208 => (if t205.length + y208.length < 4398046511104 then ((some (t205 ++ y208 : List (S34))).bind fun y211 => ((seal_Check.f y211).bind fun bt214 => (if bt214.2 = 0 then (some (y211, 0)) else (some (([] : List (S34)), bt214.2))))) else (none)))) else (some (([] : List (S34)), 1)))) = some (r1, r2) := h
 clear h
 replace H := Option.bind_eq_some_iff.mp H
 obtain ⟨⟨t203, t204⟩, A30, H⟩ := H
 replace H : (if t204 = 0 then ((clone34.f l0).bind fun t205 => ((some (([(⟨a1_0, a1_1, a1_2, a1_3⟩ : S34)] : List (S34)) : List (S34))).bind fun y208 => (if t205.length + y208.length < 4398046511104 then ((some (t205 ++ y208 : List (S34))).bind fun y211 => ((seal_Check.f y211).bind fun bt214 => (if bt214.2 = 0 then (some (y211, 0)) else (some (([] : List (S34)), bt214.2))))) else (none)))) else (some (([] : List (S34)), 1))) = some (r1, r2) := H
 have A3 := Aside0.mk A30
 clear A30
 by_cases c4 : t204 = 0
 ·rw [if_pos c4] at H
  have c4b0 : (t204 == 0) = true := beq_iff_eq.mpr c4
  try simp only [beq_self_eq_true, Bool.not_true, Bool.false_or, Bool.true_and] at c4b0
  have c4b1 : (t204 != 0) = false := bne_eq_false_iff_eq.mpr c4
  clear c4
  replace H := Option.bind_eq_some_iff.mp H
  obtain ⟨t205, A50, H⟩ := H
  replace H : ((some (([(⟨a1_0, a1_1, a1_2, a1_3⟩ : S34)] : List (S34)) : List (S34))).bind fun y208 => (if t205.length + y208.length < 4398046511104 then ((some (t205 ++ y208 : List (S34))).bind fun y211 => ((seal_Check.f y211).bind fun bt214 => (if bt214.2 = 0 then (some (y211, 0)) else (some (([] : List (S34)), bt214.2))))) else (none))) = some (r1, r2) := H
  have A5 := Aside0.mk A50
  clear A50
  obtain ⟨y208, hy208⟩ : ∃ y_ : List (S34), y_ = (([(⟨a1_0, a1_1, a1_2, a1_3⟩ : S34)] : List (S34))) := ⟨_, rfl⟩
  replace H : (if t205.length + y208.length < 4398046511104 then ((some (t205 ++ y208 : List (S34))).bind fun y211 => ((seal_Check.f y211).bind fun bt214 => (if bt214.2 = 0 then (some (y211, 0)) else (some (([] : List (S34)), bt214.2))))) else (none)) = some (r1, r2) := by first | (rw [hy208]; with_reducible exact H) | (have H2_ := (Option.bind_some _ _).symm.trans H; rw [hy208]; with_reducible exact H2_) | (have H2_ := (Option.bind_some _ _).symm.trans H; with_reducible exact H2_) | with_reducible exact H | (rw [hy208]; exact H) | exact H
  have Ny208 := Aside0.mk hy208
  clear hy208
  by_cases c6 : t205.length + y208.length < 4398046511104
  ·rw [if_pos c6] at H
   have LMc6 := Aside0.mk c6
   clear c6
   obtain ⟨y211, hy211⟩ : ∃ y_ : List (S34), y_ = (t205 ++ y208) := ⟨_, rfl⟩
   replace H : ((seal_Check.f y211).bind fun bt214 => (if bt214.2 = 0 then (some (y211, 0)) else (some (([] : List (S34)), bt214.2)))) = some (r1, r2) := by first | (rw [hy211]; with_reducible exact H) | (have H2_ := (Option.bind_some _ _).symm.trans H; rw [hy211]; with_reducible exact H2_) | (have H2_ := (Option.bind_some _ _).symm.trans H; with_reducible exact H2_) | with_reducible exact H | (rw [hy211]; exact H) | exact H
   have Ny211 := Aside0.mk hy211
   clear hy211
   replace H := Option.bind_eq_some_iff.mp H
   obtain ⟨⟨t214, t215⟩, A70, H⟩ := H
   replace H : (if t215 = 0 then (some (y211, 0)) else (some (([] : List (S34)), t215))) = some (r1, r2) := H
   have A7 := Aside0.mk A70
   clear A70
   by_cases c8 : t215 = 0
   ·rw [if_pos c8] at H
    have c8b0 : (t215 == 0) = true := beq_iff_eq.mpr c8
    try simp only [beq_self_eq_true, Bool.not_true, Bool.false_or, Bool.true_and] at c8b0
    have c8b1 : (t215 != 0) = false := bne_eq_false_iff_eq.mpr c8
    clear c8
    simp only [Option.some.injEq, Prod.mk.injEq] at H
    obtain ⟨rfl, rfl⟩ := H
    go_enter Try.func30, Try.ntmps30
    try go_wp2_with (first | ((with_reducible refine gqD (N := 3) rfl ?_); refine GS.bx (N := 3) (cs := #[.int .i64 a1_0, .int .i64 a1_1, .int .i64 a1_2, .int .i64 a1_3]) (t := 34) ?_; intro gb202 hg w9 hbox hb; have n0_ := Aside0.mk (lqT (GS.lB HB.out) hb); have n1_ := Aside0.mk (hbox); have n2_ := Aside0.mk ((by rw [hg]; exact (lqZ (GS.lB HB.out)) : w.heap.size ≤ gb202)); have n3_ := Aside0.mk ((by rw [hg]; exact (lqZ (GS.lB HB.out)) : w.heap.size ≤ gb202)); clear HB; have HB := n0_; have BK202 := n1_; have GW202 := n2_; have GE202 := n3_; clear n0_ n1_ n2_ n3_; clear hb hbox hg) | ((with_reducible refine gqC (f := 28) rfl ?_); refine GS.gL (some 13) Try.func28 #[.slice A0 l0.length c0] ?_; (with_reducible refine (seal_Check.calls _ _ l0 t203 t204 _ ?side1 ?side2 A3.out).mono ?_); (case side1 => exact GS.rC (Kd.C_below HR0.out HB.out)); (case side2 => exact HC0.out); rintro e w10 ⟨rfl, hb⟩; refine ⟨_, rfl, ?_⟩; have n0_ := Aside0.mk (bqB (GS.bqX BK202.out) hb); have n1_ := Aside0.mk (lqT (GS.lB HB.out) hb); clear BK202; clear HB; have BK202 := n0_; have HB := n1_; clear n0_ n1_; (try clear hb); (try clear hb2); (try clear hk); (try clear hi)))
    have n0_ := Aside0.mk (bqD BK202.out)
    have n1_ := Aside0.mk (lqD HB.out)
    clear BK202
    clear HB
    have BK202 := n0_
    have HB := n1_
    clear n0_ n1_
    refine start_ (n := 6) (S := fun w' => True) (ds := []) #[false, false, false, false, false, false] (by kernel_rfl) rfl rfl trivial (fun hHeld => ?_); refine with_tabW seal_Add.tab4 seal_Add.bits4 (fun HT_ HW_ => ?_)
    generalize w10.drew = w11 at BK202 HB hHeld ⊢
    refine GS.pu 0 (some 18) HT_.out ?_
    refine inv_at [1, 2, 3, 4, 5] (fun a0_ b a w' => ∃ (v206 : Value) (v209 : Value) (v212 : Value) (m5_ : Value), a = putSel a0_ b [(1, 19, v206), (2, 20, .agg #[.int .i64 a1_0, .int .i64 a1_1, .int .i64 a1_2, .int .i64 a1_3]), (3, 21, v209), (4, 22, v212), (5, 8, m5_)] ∧ (w'.heap[gb202]? = some (.cells #[.int .i64 a1_0, .int .i64 a1_1, .int .i64 a1_2, .int .i64 a1_3] 34 (0, 0))) ∧ (Below w.heap.size w w') ∧ (b 1 = true → b 4 = false → Kd.R k34 34 w' w.heap.size (fun k_ => (b 3 = true → some k_ ≠ (v209 : Value).ownBlock) ∧ k_ ≠ gb202) v206 t205) ∧ (b 3 = true → Kd.R k34 34 w' w.heap.size (fun k_ => k_ ≠ gb202) v209 y208) ∧ (b 4 = true → Kd.R k34 34 w' w.heap.size (fun k_ => k_ ≠ gb202) v212 y211) ∧ (b 5 = true → (m5_ : Value) = v212)) HT_.out HW_.out (by kernel_rfl) (by kernel_rfl) ?_ ?_ ?_
    ·exact ⟨.bool false, .bool false, .bool false, .bool false, by simp only [putSel, Bool.false_eq_true, if_false], BK202.out, HB.out, fun h_ => absurd h_ (by decide), fun h_ => absurd h_ (by decide), fun h_ => absurd h_ (by decide), fun h_ => absurd h_ (by decide)⟩
    ·skip
     clear BK202 HB
     refine steps_cons ?_ ?_
     ·rintro b a w' ⟨v206, v209, v212, m5_, ha, Q_BK202, Q_HB, Q_HO207, Q_HO210, Q_HO213, Q_X5_⟩ hb_ hon hoff
      refine ⟨_, rfl, fun K hK => ?_⟩
      have e18 : a.tmps[18]? = some (.slice A0 l0.length c0) := by rw [ha]; exact (putSel_off rfl).trans rfl
      replace ha := Aside0.mk ha
      have BK202 := Aside0.mk Q_BK202
      have HB := Aside0.mk Q_HB
      refine goes_ Try.func14 (by kernel_rfl) rfl #[.slice A0 l0.length c0] (by rfl) rfl rfl (by first | (simp only [List.map_toArray, List.map_cons, List.map_nil, Act.eval, Array.getD_eq_getD_getElem?, Option.getD_some, e18]; done) | (simp only [List.map_toArray, List.map_cons, List.map_nil, Act.eval, Array.getD_eq_getD_getElem?, Option.getD_some, e18]; rfl)) ?_
      with_reducible refine (clone34.calls _ _ l0 t205 _ ?side1 ?side2 A5.out).mono ?_
      (case side1 => exact GS.rC (Kd.C_below HR0.out HB.out))
      (case side2 => exact HC0.out)
      rintro e w12 ⟨v206, rfl, ho0, hb⟩
      refine ⟨_, rfl, ?_⟩
      have n0_ := Aside0.mk (Kd.R_lower (Kd.R_mono (Kd.R_bound (Kd.R_newB ho0 (GS.bqX BK202.out))) (fun k hk => (⟨fun h3 e => absurd (Kd.R_lt (Q_HO210 h3) k e.symm) (Nat.not_lt.2 hk.2.1), hk.1.2⟩ : (b 3 = true → some k ≠ (v209 : Value).ownBlock) ∧ k ≠ gb202))) (lqZ (GS.lB HB.out)))
      have n1_ := Aside0.mk (bqB (GS.bqX BK202.out) hb)
      have n2_ := Aside0.mk (lqT (GS.lB HB.out) hb)
      have z_HO210 := fun (h0_ : b 3 = true) => (show Kd.R k34 34 w12 w.heap.size (fun k_ => k_ ≠ gb202) v209 y208 from by first | exact (Kd.R_elder' (GS.rR (Q_HO210 h0_)) (Kd.R_base ho0) hb) | exact Kd.R_mono (Kd.R_elder' (GS.rR (Q_HO210 h0_)) (Kd.R_base ho0) hb) (fun _ hk => GS.cj hk))
      clear BK202
      clear HB
      have HO207 := n0_
      have BK202 := n1_
      have HB := n2_
      clear n0_ n1_ n2_
      (try clear hb)
      (try clear hb2)
      (try clear hk)
      (try clear hi)
      (try clear ho0)
      refine hK.out _ _ ⟨v206, v209, v212, m5_, (by rw [ha.out]; exact putSel_upk 0 hb_ rfl rfl rfl), (GS.bqX BK202.out), (GS.lB HB.out), fun _ _ => (GS.rR HO207.out), z_HO210, fun h0_ => absurd ((hoff 4 (by kernel_rfl)).symm.trans h0_) (by decide), fun h0_ => absurd ((hoff 5 (by kernel_rfl)).symm.trans h0_) (by decide)⟩
     refine steps_cons ?_ ?_
     ·rintro b a w' ⟨v206, v209, v212, m5_, ha, Q_BK202, Q_HB, Q_HO207, Q_HO210, Q_HO213, Q_X5_⟩ hb_ hon hoff
      refine ⟨_, rfl, fun K hK => ?_⟩
      have e3 : a.tmps[3]? = some (.pointer (some ⟨gb202, 0, none⟩)) := by rw [ha]; exact (putSel_off rfl).trans rfl
      replace ha := Aside0.mk ha
      have BK202 := Aside0.mk Q_BK202
      have HB := Aside0.mk Q_HB
      have hc0_ : w'.cell? ⟨gb202, 0, none⟩ = some (.int .i64 a1_0) := (bqC BK202.out 0).trans rfl
      have hc1_ : w'.cell? ⟨gb202, 1, none⟩ = some (.int .i64 a1_1) := (bqC BK202.out 1).trans rfl
      have hc2_ : w'.cell? ⟨gb202, 2, none⟩ = some (.int .i64 a1_2) := (bqC BK202.out 2).trans rfl
      have hc3_ : w'.cell? ⟨gb202, 3, none⟩ = some (.int .i64 a1_3) := (bqC BK202.out 3).trans rfl
      refine value_ (w1 := w') (v := .agg #[.int .i64 a1_0, .int .i64 a1_1, .int .i64 a1_2, .int .i64 a1_3]) (by rfl) rfl ?_ ?_
      ·go_simp
       (try simp only [i64_w])
       try rfl
      refine hK.out _ _ ⟨v206, v209, v212, m5_, (by rw [ha.out]; exact putSel_upk 1 hb_ rfl rfl rfl), Q_BK202, Q_HB, Q_HO207, fun h0_ => absurd ((hoff 3 (by kernel_rfl)).symm.trans h0_) (by decide), fun h0_ => absurd ((hoff 4 (by kernel_rfl)).symm.trans h0_) (by decide), fun h0_ => absurd ((hoff 5 (by kernel_rfl)).symm.trans h0_) (by decide)⟩
     refine steps_cons ?_ ?_
     ·rintro b a w' ⟨v206, v209, v212, m5_, ha, Q_BK202, Q_HB, Q_HO207, Q_HO210, Q_HO213, Q_X5_⟩ hb_ hon hoff
      refine ⟨_, rfl, fun K hK => ?_⟩
      have e20 : a.tmps[20]? = some (.agg #[.int .i64 a1_0, .int .i64 a1_1, .int .i64 a1_2, .int .i64 a1_3]) := by rw [ha]; exact putSel_on (e := (2, 20, .agg #[.int .i64 a1_0, .int .i64 a1_1, .int .i64 a1_2, .int .i64 a1_3])) 1 rfl rfl (hon 2 (by kernel_rfl)) rfl
      replace ha := Aside0.mk ha
      have BK202 := Aside0.mk Q_BK202
      have HB := Aside0.mk Q_HB
      refine Kd.R_lit_step k34 _ 34 ?hg (N := 21) ?hd (xs := ([(⟨a1_0, a1_1, a1_2, a1_3⟩ : S34)] : List (S34))) (inner := [.int .i64 a1_0, .int .i64 a1_1, .int .i64 a1_2, .int .i64 a1_3]) (ok := fun _ => True) (okp := fun _ => True) ?hr ?hp (fun _ hk => hk) trivial (Below.refl _ _) (Nat.le_refl _) (by simp) ?_; (case hd => rfl); (case hg => rfl); (case hr => first | (go_simp; done) | (go_simp; rfl)); (case hp => exact (Reps.c4 (show Kd.M k34 _ _ _ (⟨a1_0, a1_1, a1_2, a1_3⟩ : S34) [.int .i64 a1_0, .int .i64 a1_1, .int .i64 a1_2, .int .i64 a1_3] from (k34_mkM _ _ _ (⟨a1_0, a1_1, a1_2, a1_3⟩ : S34) )) (Reps.none _ _)))
      intro v209 w12 ho13 hb hg_ hnew_
      clear hg_ hnew_
      (first | rw [← Ny208.out] at ho13 | (simp only [Int.reduceToNat] at ho13; rw [← Ny208.out] at ho13))
      have n0_ := Aside0.mk (Kd.R_lower (Kd.R_newB ho13 (GS.bqX BK202.out)) (lqZ (GS.lB HB.out)))
      have n1_ := Aside0.mk (bqB (GS.bqX BK202.out) hb)
      have n2_ := Aside0.mk (lqT (GS.lB HB.out) hb)
      have z_HO207 := fun (h0_ : b 1 = true) (h1_ : b 4 = false) => (show Kd.R k34 34 w12 w.heap.size (fun k_ => (true = true → some k_ ≠ (v209 : Value).ownBlock) ∧ k_ ≠ gb202) v206 t205 from Kd.R_mono (Kd.R_elder' (GS.rR (Q_HO207 h0_ h1_)) (Kd.R_base ho13) hb) (fun _ hk => ⟨fun _ => hk.2, hk.1.2⟩))
      clear BK202
      clear HB
      have HO210 := n0_
      have BK202 := n1_
      have HB := n2_
      clear n0_ n1_ n2_
      clear hb ho13
      refine hK.out _ _ ⟨v206, v209, v212, m5_, (by rw [ha.out]; exact putSel_upk 2 hb_ rfl rfl rfl), (GS.bqX BK202.out), (GS.lB HB.out), z_HO207, fun _ => (GS.rR (Kd.R_mono HO210.out (fun _ hk => GS.cj hk))), fun h0_ => absurd ((hoff 4 (by kernel_rfl)).symm.trans h0_) (by decide), fun h0_ => absurd ((hoff 5 (by kernel_rfl)).symm.trans h0_) (by decide)⟩
     refine steps_cons ?_ ?_
     ·rintro b a w' ⟨v206, v209, v212, m5_, ha, Q_BK202, Q_HB, Q_HO207, Q_HO210, Q_HO213, Q_X5_⟩ hb_ hon hoff
      refine ⟨_, rfl, fun K hK => ?_⟩
      have e19 : a.tmps[19]? = some (v206) := by rw [ha]; exact putSel_on (e := (1, 19, v206)) 0 rfl rfl (hon 1 (by kernel_rfl)) rfl
      have e21 : a.tmps[21]? = some (v209) := by rw [ha]; exact putSel_on (e := (3, 21, v209)) 2 rfl rfl (hon 3 (by kernel_rfl)) rfl
      replace ha := Aside0.mk ha
      have BK202 := Aside0.mk Q_BK202
      have HB := Aside0.mk Q_HB
      have HO207 := Aside0.mk (Q_HO207 (hon 1 (by kernel_rfl)) hb_)
      have HO210 := Aside0.mk (Q_HO210 (hon 3 (by kernel_rfl)))
      obtain ⟨Ao17, co17, eo17⟩ := Kd.R_slice HO210.out
      (first | subst eo17 | (injection eo17 with f1_ f2_ f3_; have f4_ := f1_.symm; have f5_ := f3_.symm; clear f1_ f2_ f3_; subst f4_; subst f5_))
      refine Kd.R_append_rows_step k34 (w0 := w) w.heap.size (by rfl) (.tmp 19) (.tmp 21) 22 34 (.agg #[(.int .i64 0), (.int .i64 0), (.int .i64 0), (.int .i64 0)]) 32 rfl Try.underlying22 info34 rfl (by decide) (by omega) v206 t205 y208 Ao17 y208.length co17 (fun k_ => some k_ ≠ (.slice Ao17 y208.length co17 : Value).ownBlock ∧ k_ ≠ gb202) (fun _ => False) (by first | rfl | (go_simp; done) | (go_simp; rfl)) (by first | rfl | (go_simp; done) | (go_simp; rfl)) ?aO ?aR (fun _ _ h => h) (fun _ h => h.elim) ?aF ?aB ?aS ?aL ?_
      (case aR => repeat (first | exact (Kd.R_reads' HO210.out).2.2 | (with_reducible refine Kd.C_alloc ?_ _) | (with_reducible refine Kd.C_drewN ?_ _) | (with_reducible refine Kd.C_drew ?_)))
      (case aB => exact (GS.lB HB.out))
      (case aF => exact (fun k_ hk => ⟨Kd.fresh' (Kd.R_lt (GS.rR HO210.out)) k_ hk, Kd.freshB (GS.bqX BK202.out) k_ hk⟩))
      (case aO => exact (GS.rR (Kd.R_mono HO207.out (fun _ hk => ⟨hk.1 (hon 3 (by kernel_rfl)), hk.2⟩))))
      (case aS => exact (lqZ (GS.lB HB.out)))
      (case aL => have := LMc6.out; omega)
      intro v212 w16 ho hb hg hat
      rw [← Ny211.out] at ho
      have n0_ := Aside0.mk (blk_grown (GS.bqX BK202.out) hg (Kd.R_away HO207.out (fun _ hk => hk.2)))
      have n1_ := Aside0.mk (Kd.R_after (ok := (fun k_ => k_ ≠ gb202)) (GS.rR (Kd.R_mono (GW.R_sym (v' := v206) rfl HO210.out (fun k hk => (HO207.out.1 k hk).1 (hon 3 (by kernel_rfl)))) (fun _ hk => ⟨hk.2, hk.1⟩))) hg hat)
      have n2_ := Aside0.mk (hb)
      have n3_ := Aside0.mk (ho)
      clear BK202
      clear HO210
      clear HB
      clear HO207
      have BK202 := n0_
      have HO210 := n1_
      have HB := n2_
      have HO213 := n3_
      clear n0_ n1_ n2_ n3_
      clear ho hb hg hat
      refine hK.out _ _ ⟨v206, .slice Ao17 y208.length co17, v212, m5_, (by rw [ha.out]; exact putSel_upk 3 hb_ rfl rfl rfl), (GS.bqX BK202.out), (GS.lB HB.out), fun _ h1_ => absurd ((up_self b 4).symm.trans h1_) (by decide), fun _ => (GS.rR (Kd.R_mono HO210.out (fun _ hk => GS.cj hk))), fun _ => (GS.rR (Kd.R_mono HO213.out (fun _ hk => hk.2))), fun h0_ => absurd ((hoff 5 (by kernel_rfl)).symm.trans h0_) (by decide)⟩
     refine steps_cons ?_ ?_
     ·rintro b a w' ⟨v206, v209, v212, m5_, ha, Q_BK202, Q_HB, Q_HO207, Q_HO210, Q_HO213, Q_X5_⟩ hb_ hon hoff
      refine ⟨_, rfl, fun K hK => ?_⟩
      have e22 : a.tmps[22]? = some (v212) := by rw [ha]; exact putSel_on (e := (4, 22, v212)) 3 rfl rfl (hon 4 (by kernel_rfl)) rfl
      replace ha := Aside0.mk ha
      have BK202 := Aside0.mk Q_BK202
      have HB := Aside0.mk Q_HB
      have HO210 := Aside0.mk (Q_HO210 (hon 3 (by kernel_rfl)))
      have HO213 := Aside0.mk (Q_HO213 (hon 4 (by kernel_rfl)))
      refine value_ (w1 := w') (v := v212) (by rfl) rfl ?_ ?_
      ·go_simp
       (try simp only [i64_w])
       try rfl
      refine hK.out _ _ ⟨v206, v209, v212, (v212), (by rw [ha.out]; exact putSel_upk 4 hb_ rfl rfl rfl), Q_BK202, Q_HB, fun _ h1_ => absurd ((hon 4 (by kernel_rfl)).symm.trans h1_) (by decide), Q_HO210, Q_HO213, fun _ => rfl⟩
     exact steps_nil
    rintro b a w17 hall ⟨v206, v209, v212, m5_, ha, Q_BK202, Q_HB, Q_HO207, Q_HO210, Q_HO213, Q_X5_⟩
    clear BK202 HB
    have hb1_ := hall 1 (by kernel_rfl)
    have hb2_ := hall 2 (by kernel_rfl)
    have hb3_ := hall 3 (by kernel_rfl)
    have hb4_ := hall 4 (by kernel_rfl)
    have hb5_ := hall 5 (by kernel_rfl)
    subst ha
    obtain rfl := Q_X5_ hb5_
    simp only [putSel, hb1_, hb2_, hb3_, hb4_, hb5_, if_true, Act.put, List.setIfInBounds_toArray, List.set_cons_zero, List.set_cons_succ]
    have BK202 := Aside0.mk Q_BK202
    clear Q_BK202
    have HB := Aside0.mk Q_HB
    clear Q_HB
    clear Q_HO207
    have HO210 := Aside0.mk (Q_HO210 hb3_)
    clear Q_HO210
    have HO213 := Aside0.mk (Q_HO213 hb4_)
    clear Q_HO213
    clear hall hb1_ hb2_ hb3_ hb4_ hb5_
    obtain ⟨Ao18, co18, eo18⟩ := Kd.R_slice HO213.out
    subst eo18
    try go_wp2_with (first | ((with_reducible refine gqC (f := 28) rfl ?_); refine GS.gL (some 25) Try.func28 #[.slice Ao18 y211.length co18] ?_; (with_reducible refine (seal_Check.calls _ _ y211 t214 t215 _ ?side1 ?side2 A7.out).mono ?_); (case side1 => repeat (first | exact (Kd.R_reads' HO213.out).2.2 | (with_reducible refine Kd.C_alloc ?_ _) | (with_reducible refine Kd.C_drewN ?_ _) | (with_reducible refine Kd.C_drew ?_))); (case side2 => exact (Kd.R_reads' HO213.out).2.1); rintro e w19 ⟨rfl, hb⟩; refine ⟨_, rfl, ?_⟩; have n0_ := Aside0.mk (Kd.R_below (GS.rR HO210.out) hb); have n1_ := Aside0.mk (Kd.R_below (GS.rR HO213.out) hb); have n2_ := Aside0.mk (bqB (GS.bqX BK202.out) hb); have n3_ := Aside0.mk (lqT (GS.lB HB.out) hb); clear HO210; clear HO213; clear BK202; clear HB; have HO210 := n0_; have HO213 := n1_; have BK202 := n2_; have HB := n3_; clear n0_ n1_ n2_ n3_; (try clear hb); (try clear hb2); (try clear hk); (try clear hi)))
    go_ret2
    exact ⟨_, by first | rfl | (simp [errW_none, errW_some] <;> rfl) | (simp [*, errW_none, errW_some] <;> rfl), by (with_reducible repeat (first | apply Kd.R_alloc | apply Kd.R_drewN | apply Kd.R_drew)); exact Kd.R_mono HO213.out (fun _ hk => trivial), GS.lB HB.out⟩
   ·rw [if_neg c8] at H
    have c8b0 : (t215 == 0) = false := beq_eq_false_iff_ne.mpr c8
    try simp only [beq_self_eq_true, Bool.not_true, Bool.false_or, Bool.true_and] at c8b0
    have c8b1 : (t215 != 0) = true := bne_iff_ne.mpr c8
    simp only [Option.some.injEq, Prod.mk.injEq] at H
    obtain ⟨rfl, rfl⟩ := H
    go_enter Try.func30, Try.ntmps30
    try go_wp2_with (first | ((with_reducible refine gqD (N := 3) rfl ?_); refine GS.bx (N := 3) (cs := #[.int .i64 a1_0, .int .i64 a1_1, .int .i64 a1_2, .int .i64 a1_3]) (t := 34) ?_; intro gb202 hg w20 hbox hb; have n0_ := Aside0.mk (lqT (GS.lB HB.out) hb); have n1_ := Aside0.mk (hbox); have n2_ := Aside0.mk ((by rw [hg]; exact (lqZ (GS.lB HB.out)) : w.heap.size ≤ gb202)); have n3_ := Aside0.mk ((by rw [hg]; exact (lqZ (GS.lB HB.out)) : w.heap.size ≤ gb202)); clear HB; have HB := n0_; have BK202 := n1_; have GW202 := n2_; have GE202 := n3_; clear n0_ n1_ n2_ n3_; clear hb hbox hg) | ((with_reducible refine gqC (f := 28) rfl ?_); refine GS.gL (some 13) Try.func28 #[.slice A0 l0.length c0] ?_; (with_reducible refine (seal_Check.calls _ _ l0 t203 t204 _ ?side1 ?side2 A3.out).mono ?_); (case side1 => exact GS.rC (Kd.C_below HR0.out HB.out)); (case side2 => exact HC0.out); rintro e w21 ⟨rfl, hb⟩; refine ⟨_, rfl, ?_⟩; have n0_ := Aside0.mk (bqB (GS.bqX BK202.out) hb); have n1_ := Aside0.mk (lqT (GS.lB HB.out) hb); clear BK202; clear HB; have BK202 := n0_; have HB := n1_; clear n0_ n1_; (try clear hb); (try clear hb2); (try clear hk); (try clear hi)))
    have n0_ := Aside0.mk (bqD BK202.out)
    have n1_ := Aside0.mk (lqD HB.out)
    clear BK202
    clear HB
    have BK202 := n0_
    have HB := n1_
    clear n0_ n1_
    refine start_ (n := 6) (S := fun w' => True) (ds := []) #[false, false, false, false, false, false] (by kernel_rfl) rfl rfl trivial (fun hHeld => ?_); refine with_tabW seal_Add.tab4 seal_Add.bits4 (fun HT_ HW_ => ?_)
    generalize w21.drew = w22 at BK202 HB hHeld ⊢
    refine GS.pu 0 (some 18) HT_.out ?_
    refine inv_at [1, 2, 3, 4, 5] (fun a0_ b a w' => ∃ (v206 : Value) (v209 : Value) (v212 : Value) (m5_ : Value), a = putSel a0_ b [(1, 19, v206), (2, 20, .agg #[.int .i64 a1_0, .int .i64 a1_1, .int .i64 a1_2, .int .i64 a1_3]), (3, 21, v209), (4, 22, v212), (5, 8, m5_)] ∧ (w'.heap[gb202]? = some (.cells #[.int .i64 a1_0, .int .i64 a1_1, .int .i64 a1_2, .int .i64 a1_3] 34 (0, 0))) ∧ (Below w.heap.size w w') ∧ (b 1 = true → b 4 = false → Kd.R k34 34 w' w.heap.size (fun k_ => (b 3 = true → some k_ ≠ (v209 : Value).ownBlock) ∧ k_ ≠ gb202) v206 t205) ∧ (b 3 = true → Kd.R k34 34 w' w.heap.size (fun k_ => k_ ≠ gb202) v209 y208) ∧ (b 4 = true → Kd.R k34 34 w' w.heap.size (fun k_ => k_ ≠ gb202) v212 y211) ∧ (b 5 = true → (m5_ : Value) = v212)) HT_.out HW_.out (by kernel_rfl) (by kernel_rfl) ?_ ?_ ?_
    ·exact ⟨.bool false, .bool false, .bool false, .bool false, by simp only [putSel, Bool.false_eq_true, if_false], BK202.out, HB.out, fun h_ => absurd h_ (by decide), fun h_ => absurd h_ (by decide), fun h_ => absurd h_ (by decide), fun h_ => absurd h_ (by decide)⟩
    ·skip
     clear BK202 HB
     refine steps_cons ?_ ?_
     ·rintro b a w' ⟨v206, v209, v212, m5_, ha, Q_BK202, Q_HB, Q_HO207, Q_HO210, Q_HO213, Q_X5_⟩ hb_ hon hoff
      refine ⟨_, rfl, fun K hK => ?_⟩
      have e18 : a.tmps[18]? = some (.slice A0 l0.length c0) := by rw [ha]; exact (putSel_off rfl).trans rfl
      replace ha := Aside0.mk ha
      have BK202 := Aside0.mk Q_BK202
      have HB := Aside0.mk Q_HB
      refine goes_ Try.func14 (by kernel_rfl) rfl #[.slice A0 l0.length c0] (by rfl) rfl rfl (by first | (simp only [List.map_toArray, List.map_cons, List.map_nil, Act.eval, Array.getD_eq_getD_getElem?, Option.getD_some, e18]; done) | (simp only [List.map_toArray, List.map_cons, List.map_nil, Act.eval, Array.getD_eq_getD_getElem?, Option.getD_some, e18]; rfl)) ?_
      with_reducible refine (clone34.calls _ _ l0 t205 _ ?side1 ?side2 A5.out).mono ?_
      (case side1 => exact GS.rC (Kd.C_below HR0.out HB.out))
      (case side2 => exact HC0.out)
      rintro e w23 ⟨v206, rfl, ho0, hb⟩
      refine ⟨_, rfl, ?_⟩
      have n0_ := Aside0.mk (Kd.R_lower (Kd.R_mono (Kd.R_bound (Kd.R_newB ho0 (GS.bqX BK202.out))) (fun k hk => (⟨fun h3 e => absurd (Kd.R_lt (Q_HO210 h3) k e.symm) (Nat.not_lt.2 hk.2.1), hk.1.2⟩ : (b 3 = true → some k ≠ (v209 : Value).ownBlock) ∧ k ≠ gb202))) (lqZ (GS.lB HB.out)))
      have n1_ := Aside0.mk (bqB (GS.bqX BK202.out) hb)
      have n2_ := Aside0.mk (lqT (GS.lB HB.out) hb)
      have z_HO210 := fun (h0_ : b 3 = true) => (show Kd.R k34 34 w23 w.heap.size (fun k_ => k_ ≠ gb202) v209 y208 from by first | exact (Kd.R_elder' (GS.rR (Q_HO210 h0_)) (Kd.R_base ho0) hb) | exact Kd.R_mono (Kd.R_elder' (GS.rR (Q_HO210 h0_)) (Kd.R_base ho0) hb) (fun _ hk => GS.cj hk))
      clear BK202
      clear HB
      have HO207 := n0_
      have BK202 := n1_
      have HB := n2_
      clear n0_ n1_ n2_
      (try clear hb)
      (try clear hb2)
      (try clear hk)
      (try clear hi)
      (try clear ho0)
      refine hK.out _ _ ⟨v206, v209, v212, m5_, (by rw [ha.out]; exact putSel_upk 0 hb_ rfl rfl rfl), (GS.bqX BK202.out), (GS.lB HB.out), fun _ _ => (GS.rR HO207.out), z_HO210, fun h0_ => absurd ((hoff 4 (by kernel_rfl)).symm.trans h0_) (by decide), fun h0_ => absurd ((hoff 5 (by kernel_rfl)).symm.trans h0_) (by decide)⟩
     refine steps_cons ?_ ?_
     ·rintro b a w' ⟨v206, v209, v212, m5_, ha, Q_BK202, Q_HB, Q_HO207, Q_HO210, Q_HO213, Q_X5_⟩ hb_ hon hoff
      refine ⟨_, rfl, fun K hK => ?_⟩
      have e3 : a.tmps[3]? = some (.pointer (some ⟨gb202, 0, none⟩)) := by rw [ha]; exact (putSel_off rfl).trans rfl
      replace ha := Aside0.mk ha
      have BK202 := Aside0.mk Q_BK202
      have HB := Aside0.mk Q_HB
      have hc0_ : w'.cell? ⟨gb202, 0, none⟩ = some (.int .i64 a1_0) := (bqC BK202.out 0).trans rfl
      have hc1_ : w'.cell? ⟨gb202, 1, none⟩ = some (.int .i64 a1_1) := (bqC BK202.out 1).trans rfl
      have hc2_ : w'.cell? ⟨gb202, 2, none⟩ = some (.int .i64 a1_2) := (bqC BK202.out 2).trans rfl
      have hc3_ : w'.cell? ⟨gb202, 3, none⟩ = some (.int .i64 a1_3) := (bqC BK202.out 3).trans rfl
      refine value_ (w1 := w') (v := .agg #[.int .i64 a1_0, .int .i64 a1_1, .int .i64 a1_2, .int .i64 a1_3]) (by rfl) rfl ?_ ?_
      ·go_simp
       (try simp only [i64_w])
       try rfl
      refine hK.out _ _ ⟨v206, v209, v212, m5_, (by rw [ha.out]; exact putSel_upk 1 hb_ rfl rfl rfl), Q_BK202, Q_HB, Q_HO207, fun h0_ => absurd ((hoff 3 (by kernel_rfl)).symm.trans h0_) (by decide), fun h0_ => absurd ((hoff 4 (by kernel_rfl)).symm.trans h0_) (by decide), fun h0_ => absurd ((hoff 5 (by kernel_rfl)).symm.trans h0_) (by decide)⟩
     refine steps_cons ?_ ?_
     ·rintro b a w' ⟨v206, v209, v212, m5_, ha, Q_BK202, Q_HB, Q_HO207, Q_HO210, Q_HO213, Q_X5_⟩ hb_ hon hoff
      refine ⟨_, rfl, fun K hK => ?_⟩
      have e20 : a.tmps[20]? = some (.agg #[.int .i64 a1_0, .int .i64 a1_1, .int .i64 a1_2, .int .i64 a1_3]) := by rw [ha]; exact putSel_on (e := (2, 20, .agg #[.int .i64 a1_0, .int .i64 a1_1, .int .i64 a1_2, .int .i64 a1_3])) 1 rfl rfl (hon 2 (by kernel_rfl)) rfl
      replace ha := Aside0.mk ha
      have BK202 := Aside0.mk Q_BK202
      have HB := Aside0.mk Q_HB
      refine Kd.R_lit_step k34 _ 34 ?hg (N := 21) ?hd (xs := ([(⟨a1_0, a1_1, a1_2, a1_3⟩ : S34)] : List (S34))) (inner := [.int .i64 a1_0, .int .i64 a1_1, .int .i64 a1_2, .int .i64 a1_3]) (ok := fun _ => True) (okp := fun _ => True) ?hr ?hp (fun _ hk => hk) trivial (Below.refl _ _) (Nat.le_refl _) (by simp) ?_; (case hd => rfl); (case hg => rfl); (case hr => first | (go_simp; done) | (go_simp; rfl)); (case hp => exact (Reps.c4 (show Kd.M k34 _ _ _ (⟨a1_0, a1_1, a1_2, a1_3⟩ : S34) [.int .i64 a1_0, .int .i64 a1_1, .int .i64 a1_2, .int .i64 a1_3] from (k34_mkM _ _ _ (⟨a1_0, a1_1, a1_2, a1_3⟩ : S34) )) (Reps.none _ _)))
      intro v209 w23 ho24 hb hg_ hnew_
      clear hg_ hnew_
      (first | rw [← Ny208.out] at ho24 | (simp only [Int.reduceToNat] at ho24; rw [← Ny208.out] at ho24))
      have n0_ := Aside0.mk (Kd.R_lower (Kd.R_newB ho24 (GS.bqX BK202.out)) (lqZ (GS.lB HB.out)))
      have n1_ := Aside0.mk (bqB (GS.bqX BK202.out) hb)
      have n2_ := Aside0.mk (lqT (GS.lB HB.out) hb)
      have z_HO207 := fun (h0_ : b 1 = true) (h1_ : b 4 = false) => (show Kd.R k34 34 w23 w.heap.size (fun k_ => (true = true → some k_ ≠ (v209 : Value).ownBlock) ∧ k_ ≠ gb202) v206 t205 from Kd.R_mono (Kd.R_elder' (GS.rR (Q_HO207 h0_ h1_)) (Kd.R_base ho24) hb) (fun _ hk => ⟨fun _ => hk.2, hk.1.2⟩))
      clear BK202
      clear HB
      have HO210 := n0_
      have BK202 := n1_
      have HB := n2_
      clear n0_ n1_ n2_
      clear hb ho24
      refine hK.out _ _ ⟨v206, v209, v212, m5_, (by rw [ha.out]; exact putSel_upk 2 hb_ rfl rfl rfl), (GS.bqX BK202.out), (GS.lB HB.out), z_HO207, fun _ => (GS.rR (Kd.R_mono HO210.out (fun _ hk => GS.cj hk))), fun h0_ => absurd ((hoff 4 (by kernel_rfl)).symm.trans h0_) (by decide), fun h0_ => absurd ((hoff 5 (by kernel_rfl)).symm.trans h0_) (by decide)⟩
     refine steps_cons ?_ ?_
     ·rintro b a w' ⟨v206, v209, v212, m5_, ha, Q_BK202, Q_HB, Q_HO207, Q_HO210, Q_HO213, Q_X5_⟩ hb_ hon hoff
      refine ⟨_, rfl, fun K hK => ?_⟩
      have e19 : a.tmps[19]? = some (v206) := by rw [ha]; exact putSel_on (e := (1, 19, v206)) 0 rfl rfl (hon 1 (by kernel_rfl)) rfl
      have e21 : a.tmps[21]? = some (v209) := by rw [ha]; exact putSel_on (e := (3, 21, v209)) 2 rfl rfl (hon 3 (by kernel_rfl)) rfl
      replace ha := Aside0.mk ha
      have BK202 := Aside0.mk Q_BK202
      have HB := Aside0.mk Q_HB
      have HO207 := Aside0.mk (Q_HO207 (hon 1 (by kernel_rfl)) hb_)
      have HO210 := Aside0.mk (Q_HO210 (hon 3 (by kernel_rfl)))
      obtain ⟨Ao28, co28, eo28⟩ := Kd.R_slice HO210.out
      (first | subst eo28 | (injection eo28 with f1_ f2_ f3_; have f4_ := f1_.symm; have f5_ := f3_.symm; clear f1_ f2_ f3_; subst f4_; subst f5_))
      refine Kd.R_append_rows_step k34 (w0 := w) w.heap.size (by rfl) (.tmp 19) (.tmp 21) 22 34 (.agg #[(.int .i64 0), (.int .i64 0), (.int .i64 0), (.int .i64 0)]) 32 rfl Try.underlying22 info34 rfl (by decide) (by omega) v206 t205 y208 Ao28 y208.length co28 (fun k_ => some k_ ≠ (.slice Ao28 y208.length co28 : Value).ownBlock ∧ k_ ≠ gb202) (fun _ => False) (by first | rfl | (go_simp; done) | (go_simp; rfl)) (by first | rfl | (go_simp; done) | (go_simp; rfl)) ?aO ?aR (fun _ _ h => h) (fun _ h => h.elim) ?aF ?aB ?aS ?aL ?_
      (case aR => repeat (first | exact (Kd.R_reads' HO210.out).2.2 | (with_reducible refine Kd.C_alloc ?_ _) | (with_reducible refine Kd.C_drewN ?_ _) | (with_reducible refine Kd.C_drew ?_)))
      (case aB => exact (GS.lB HB.out))
      (case aF => exact (fun k_ hk => ⟨Kd.fresh' (Kd.R_lt (GS.rR HO210.out)) k_ hk, Kd.freshB (GS.bqX BK202.out) k_ hk⟩))
      (case aO => exact (GS.rR (Kd.R_mono HO207.out (fun _ hk => ⟨hk.1 (hon 3 (by kernel_rfl)), hk.2⟩))))
      (case aS => exact (lqZ (GS.lB HB.out)))
      (case aL => have := LMc6.out; omega)
      intro v212 w27 ho hb hg hat
      rw [← Ny211.out] at ho
      have n0_ := Aside0.mk (blk_grown (GS.bqX BK202.out) hg (Kd.R_away HO207.out (fun _ hk => hk.2)))
      have n1_ := Aside0.mk (Kd.R_after (ok := (fun k_ => k_ ≠ gb202)) (GS.rR (Kd.R_mono (GW.R_sym (v' := v206) rfl HO210.out (fun k hk => (HO207.out.1 k hk).1 (hon 3 (by kernel_rfl)))) (fun _ hk => ⟨hk.2, hk.1⟩))) hg hat)
      have n2_ := Aside0.mk (hb)
      have n3_ := Aside0.mk (ho)
      clear BK202
      clear HO210
      clear HB
      clear HO207
      have BK202 := n0_
      have HO210 := n1_
      have HB := n2_
      have HO213 := n3_
      clear n0_ n1_ n2_ n3_
      clear ho hb hg hat
      refine hK.out _ _ ⟨v206, .slice Ao28 y208.length co28, v212, m5_, (by rw [ha.out]; exact putSel_upk 3 hb_ rfl rfl rfl), (GS.bqX BK202.out), (GS.lB HB.out), fun _ h1_ => absurd ((up_self b 4).symm.trans h1_) (by decide), fun _ => (GS.rR (Kd.R_mono HO210.out (fun _ hk => GS.cj hk))), fun _ => (GS.rR (Kd.R_mono HO213.out (fun _ hk => hk.2))), fun h0_ => absurd ((hoff 5 (by kernel_rfl)).symm.trans h0_) (by decide)⟩
     refine steps_cons ?_ ?_
     ·rintro b a w' ⟨v206, v209, v212, m5_, ha, Q_BK202, Q_HB, Q_HO207, Q_HO210, Q_HO213, Q_X5_⟩ hb_ hon hoff
      refine ⟨_, rfl, fun K hK => ?_⟩
      have e22 : a.tmps[22]? = some (v212) := by rw [ha]; exact putSel_on (e := (4, 22, v212)) 3 rfl rfl (hon 4 (by kernel_rfl)) rfl
      replace ha := Aside0.mk ha
      have BK202 := Aside0.mk Q_BK202
      have HB := Aside0.mk Q_HB
      have HO210 := Aside0.mk (Q_HO210 (hon 3 (by kernel_rfl)))
      have HO213 := Aside0.mk (Q_HO213 (hon 4 (by kernel_rfl)))
      refine value_ (w1 := w') (v := v212) (by rfl) rfl ?_ ?_
      ·go_simp
       (try simp only [i64_w])
       try rfl
      refine hK.out _ _ ⟨v206, v209, v212, (v212), (by rw [ha.out]; exact putSel_upk 4 hb_ rfl rfl rfl), Q_BK202, Q_HB, fun _ h1_ => absurd ((hon 4 (by kernel_rfl)).symm.trans h1_) (by decide), Q_HO210, Q_HO213, fun _ => rfl⟩
     exact steps_nil
    rintro b a w28 hall ⟨v206, v209, v212, m5_, ha, Q_BK202, Q_HB, Q_HO207, Q_HO210, Q_HO213, Q_X5_⟩
    clear BK202 HB
    have hb1_ := hall 1 (by kernel_rfl)
    have hb2_ := hall 2 (by kernel_rfl)
    have hb3_ := hall 3 (by kernel_rfl)
    have hb4_ := hall 4 (by kernel_rfl)
    have hb5_ := hall 5 (by kernel_rfl)
    subst ha
    obtain rfl := Q_X5_ hb5_
    simp only [putSel, hb1_, hb2_, hb3_, hb4_, hb5_, if_true, Act.put, List.setIfInBounds_toArray, List.set_cons_zero, List.set_cons_succ]
    have BK202 := Aside0.mk Q_BK202
    clear Q_BK202
    have HB := Aside0.mk Q_HB
    clear Q_HB
    clear Q_HO207
    have HO210 := Aside0.mk (Q_HO210 hb3_)
    clear Q_HO210
    have HO213 := Aside0.mk (Q_HO213 hb4_)
    clear Q_HO213
    clear hall hb1_ hb2_ hb3_ hb4_ hb5_
    obtain ⟨Ao29, co29, eo29⟩ := Kd.R_slice HO213.out
    subst eo29
    try go_wp2_with (first | ((with_reducible refine gqC (f := 28) rfl ?_); refine GS.gL (some 25) Try.func28 #[.slice Ao29 y211.length co29] ?_; (with_reducible refine (seal_Check.calls _ _ y211 t214 t215 _ ?side1 ?side2 A7.out).mono ?_); (case side1 => repeat (first | exact (Kd.R_reads' HO213.out).2.2 | (with_reducible refine Kd.C_alloc ?_ _) | (with_reducible refine Kd.C_drewN ?_ _) | (with_reducible refine Kd.C_drew ?_))); (case side2 => exact (Kd.R_reads' HO213.out).2.1); rintro e w30 ⟨rfl, hb⟩; refine ⟨_, rfl, ?_⟩; have n0_ := Aside0.mk (Kd.R_below (GS.rR HO210.out) hb); have n1_ := Aside0.mk (Kd.R_below (GS.rR HO213.out) hb); have n2_ := Aside0.mk (bqB (GS.bqX BK202.out) hb); have n3_ := Aside0.mk (lqT (GS.lB HB.out) hb); clear HO210; clear HO213; clear BK202; clear HB; have HO210 := n0_; have HO213 := n1_; have BK202 := n2_; have HB := n3_; clear n0_ n1_ n2_ n3_; (try clear hb); (try clear hb2); (try clear hk); (try clear hi)))
    go_ret2
    exact ⟨_, by first | rfl | (simp [errW_none, errW_some] <;> rfl) | (simp [*, errW_none, errW_some] <;> rfl), by first | exact Kd.R_nil _ _ _ _ _ | exact Kd.N_nil _ _ _ _ _ | exact Kd.V_nil _ _ _ _ _ | exact Kd.Q_nil _ _ _ _ _ | exact Kd.S_nil _ _ _ _ _, GS.lB HB.out⟩
  ·rw [if_neg c6] at H
   exact absurd H (by simp)
 ·rw [if_neg c4] at H
  have c4b0 : (t204 == 0) = false := beq_eq_false_iff_ne.mpr c4
  try simp only [beq_self_eq_true, Bool.not_true, Bool.false_or, Bool.true_and] at c4b0
  have c4b1 : (t204 != 0) = true := bne_iff_ne.mpr c4
  simp only [Option.some.injEq, Prod.mk.injEq] at H
  obtain ⟨rfl, rfl⟩ := H
  go_enter Try.func30, Try.ntmps30
  go_wp2_with (first | ((with_reducible refine gqD (N := 3) rfl ?_); refine GS.bx (N := 3) (cs := #[.int .i64 a1_0, .int .i64 a1_1, .int .i64 a1_2, .int .i64 a1_3]) (t := 34) ?_; intro gb202 hg w31 hbox hb; have n0_ := Aside0.mk (lqT (GS.lB HB.out) hb); have n1_ := Aside0.mk (hbox); have n2_ := Aside0.mk ((by rw [hg]; exact (lqZ (GS.lB HB.out)) : w.heap.size ≤ gb202)); have n3_ := Aside0.mk ((by rw [hg]; exact (lqZ (GS.lB HB.out)) : w.heap.size ≤ gb202)); clear HB; have HB := n0_; have BK202 := n1_; have GW202 := n2_; have GE202 := n3_; clear n0_ n1_ n2_ n3_; clear hb hbox hg) | ((with_reducible refine gqC (f := 28) rfl ?_); refine GS.gL (some 13) Try.func28 #[.slice A0 l0.length c0] ?_; (with_reducible refine (seal_Check.calls _ _ l0 t203 t204 _ ?side1 ?side2 A3.out).mono ?_); (case side1 => exact GS.rC (Kd.C_below HR0.out HB.out)); (case side2 => exact HC0.out); rintro e w32 ⟨rfl, hb⟩; refine ⟨_, rfl, ?_⟩; have n0_ := Aside0.mk (bqB (GS.bqX BK202.out) hb); have n1_ := Aside0.mk (lqT (GS.lB HB.out) hb); clear BK202; clear HB; have BK202 := n0_; have HB := n1_; clear n0_ n1_; (try clear hb); (try clear hb2); (try clear hk); (try clear hi)))
  go_ret2
  exact ⟨_, by first | rfl | (simp [errW_none, errW_some] <;> rfl) | (simp [*, errW_none, errW_some] <;> rfl), by first | exact Kd.R_nil _ _ _ _ _ | exact Kd.N_nil _ _ _ _ _ | exact Kd.V_nil _ _ _ _ _ | exact Kd.Q_nil _ _ _ _ _ | exact Kd.S_nil _ _ _ _ _, GS.lB HB.out⟩

/-! ### spilelaw39_example: function 35 -/
def spilelaw39_example.f  : Option ((List (S34))) := some (([(⟨10, 3, 7, 1⟩ : S34), (⟨12, 3, 7, 2⟩ : S34), (⟨15, 3, 7, 3⟩ : S34), (⟨15, 3, 8, 1⟩ : S34)] : List (S34)))
set_option maxHeartbeats 8000000 in
set_option maxRecDepth 100000 in
theorem spilelaw39_example.calls  (r : List (S34)) (w : World) (h : spilelaw39_example.f  = some r) :
  Calls Try.prog 35 #[] w fun e w' => ∃ v0_ : Value, e = .returned (v0_) ∧ Kd.R k34 34 w' w.heap.size (fun _ => True) v0_ r ∧ Below w.heap.size w w' := by
 have hu34 := Try.underlying34
 have HB := Aside0.mk (Below.refl w.heap.size w)
 have H : (some (([(⟨10, 3, 7, 1⟩ : S34), (⟨12, 3, 7, 2⟩ : S34), (⟨15, 3, 7, 3⟩ : S34), (⟨15, 3, 8, 1⟩ : S34)] : List (S34)))) = some r := h
 clear h
 obtain ⟨y216, hy216⟩ : ∃ y_ : List (S34), y_ = (([(⟨10, 3, 7, 1⟩ : S34), (⟨12, 3, 7, 2⟩ : S34), (⟨15, 3, 7, 3⟩ : S34), (⟨15, 3, 8, 1⟩ : S34)] : List (S34))) := ⟨_, rfl⟩
 replace H : (some y216) = some r := by first | (rw [hy216]; with_reducible exact H) | (have H2_ := (Option.bind_some _ _).symm.trans H; rw [hy216]; with_reducible exact H2_) | (have H2_ := (Option.bind_some _ _).symm.trans H; with_reducible exact H2_) | with_reducible exact H | (rw [hy216]; exact H) | exact H
 have Ny216 := Aside0.mk hy216
 clear hy216
 obtain rfl := Option.some.inj H
 go_enter Try.func35, Try.ntmps35
 go_wp2_with (first | ((with_reducible refine gqD (N := 5) rfl ?_); refine Kd.R_lit k34 _ 34 ?hg (N := 5) ?hd (xs := ([(⟨10, 3, 7, 1⟩ : S34), (⟨12, 3, 7, 2⟩ : S34), (⟨15, 3, 7, 3⟩ : S34), (⟨15, 3, 8, 1⟩ : S34)] : List (S34))) (inner := [.int .i64 10, .int .i64 3, .int .i64 7, .int .i64 1, .int .i64 12, .int .i64 3, .int .i64 7, .int .i64 2, .int .i64 15, .int .i64 3, .int .i64 7, .int .i64 3, .int .i64 15, .int .i64 3, .int .i64 8, .int .i64 1]) (ok := fun _ => True) (okp := fun _ => True) ?hr ?hp (fun _ hk => hk) trivial (Below.refl _ _) (Nat.le_refl _) (by simp) ?_; (case hd => rfl); (case hg => rfl); (case hr => first | (go_simp; done) | (go_simp; rfl)); (case hp => exact (Reps.c4 (show Kd.M k34 _ _ _ (⟨10, 3, 7, 1⟩ : S34) [.int .i64 10, .int .i64 3, .int .i64 7, .int .i64 1] from (k34_mkM _ _ _ (⟨10, 3, 7, 1⟩ : S34) )) (Reps.c4 (show Kd.M k34 _ _ _ (⟨12, 3, 7, 2⟩ : S34) [.int .i64 12, .int .i64 3, .int .i64 7, .int .i64 2] from (k34_mkM _ _ _ (⟨12, 3, 7, 2⟩ : S34) )) (Reps.c4 (show Kd.M k34 _ _ _ (⟨15, 3, 7, 3⟩ : S34) [.int .i64 15, .int .i64 3, .int .i64 7, .int .i64 3] from (k34_mkM _ _ _ (⟨15, 3, 7, 3⟩ : S34) )) (Reps.c4 (show Kd.M k34 _ _ _ (⟨15, 3, 8, 1⟩ : S34) [.int .i64 15, .int .i64 3, .int .i64 8, .int .i64 1] from (k34_mkM _ _ _ (⟨15, 3, 8, 1⟩ : S34) )) (Reps.none _ _)))))); intro v217 w1 ho2 hb hg_ hnew_; clear hg_ hnew_; (first | rw [← Ny216.out] at ho2 | (simp only [Int.reduceToNat] at ho2; rw [← Ny216.out] at ho2)); have n0_ := Aside0.mk (Kd.R_lower ho2 (lqZ (GS.lB HB.out))); have n1_ := Aside0.mk (lqT (GS.lB HB.out) hb); clear HB; have HO218 := n0_; have HB := n1_; clear n0_ n1_; clear hb ho2))
 go_ret
 exact ⟨_, by first | rfl | (simp [errW_none, errW_some] <;> rfl) | (simp [*, errW_none, errW_some] <;> rfl), by (with_reducible repeat (first | apply Kd.R_alloc | apply Kd.R_drewN | apply Kd.R_drew)); exact HO218.out, GS.lB HB.out⟩

/-! ### slices_Equal_int_int: function 36 -/
def slices_Equal_int_int.l0 : Nat → List Int → List Int → Int → Int → Option (Bool)
 | 0, _, _, _, _ => none
 | k + 1, x0, x1, x12, x13 => if x13 < x12 then (if 0 ≤ x13 then (if x13 < (x0.length : Int) then (if x13 < (x1.length : Int) then (if (rd x0 x13) = (rd x1 x13) then (slices_Equal_int_int.l0 k x0 x1 x12 (wrap64 (x13 + 1))) else (some false)) else (none)) else (none)) else (none)) else (some true)
def slices_Equal_int_int.f (k : Nat) (l0 : List Int) (l1 : List Int) : Option (Bool) := if (l0.length : Int) = (l1.length : Int) then (slices_Equal_int_int.l0 k l0 l1 (l0.length : Int) 0) else (some false)
theorem slices_Equal_int_int.mono_l : ∀ k, (∀ y0 y1 y2 y3, LeO (slices_Equal_int_int.l0 k y0 y1 y2 y3) (slices_Equal_int_int.l0 (k + 1) y0 y1 y2 y3))
 | 0 => fun _ _ _ _ r h => by simp [slices_Equal_int_int.l0] at h
 | k + 1 => by
  have ih0 := slices_Equal_int_int.mono_l k
  ·intro y0 y1 y2 y3
   unfold slices_Equal_int_int.l0
   repeat' first
   | (with_reducible exact ih0 _ _ _ _)
   | (with_reducible exact LeO.refl _)
   | (with_reducible exact LeO.none _)
   | (with_reducible refine LeO.ite ?_ ?_)
   | (with_reducible refine LeO.bind ?_ (fun _ => ?_))
   | exact ih0 _ _ _ _
   | exact LeO.none _
   | refine LeO.ite ?_ ?_
   | refine LeO.bind ?_ (fun _ => ?_)
theorem slices_Equal_int_int.mono : ∀ a0 a1 k, LeO (slices_Equal_int_int.f k a0 a1) (slices_Equal_int_int.f (k + 1) a0 a1) := by
 intro a0 a1 k
 have ih0 := slices_Equal_int_int.mono_l k
 unfold slices_Equal_int_int.f
 repeat' first
   | (with_reducible exact ih0 _ _ _ _)
   | (with_reducible exact LeO.refl _)
   | (with_reducible exact LeO.none _)
   | (with_reducible refine LeO.ite ?_ ?_)
   | (with_reducible refine LeO.bind ?_ (fun _ => ?_))
   | exact ih0 _ _ _ _
   | exact LeO.none _
   | refine LeO.ite ?_ ?_
   | refine LeO.bind ?_ (fun _ => ?_)
set_option maxHeartbeats 8000000 in
set_option maxRecDepth 100000 in
theorem slices_Equal_int_int.calls (k : Nat) (A0 : Option Addr) (c0 : Nat) (l0 : List Int) (A1 : Option Addr) (c1 : Nat) (l1 : List Int) (r : Bool) (w : World) (hr0 : Kd.C (Kd.int .i64) w A0 l0.length l0) (hc0 : l0.length ≤ c0) (hr1 : Kd.C (Kd.int .i64) w A1 l1.length l1) (hc1 : l1.length ≤ c1) (h : slices_Equal_int_int.f k l0 l1 = some r) :
  Calls Try.prog 36 #[.slice A0 l0.length c0, .slice A1 l1.length c1] w fun e w' => e = .returned (.bool r) ∧ Drawn0 w w' := by
 have HR0 := Aside0.mk hr0
 have HC0 := Aside0.mk hc0
 clear hr0 hc0
 have HR1 := Aside0.mk hr1
 have HC1 := Aside0.mk hc1
 clear hr1 hc1
 have H : (if (l0.length : Int) = (l1.length : Int) then (slices_Equal_int_int.l0 k l0 l1 (l0.length : Int) 0) else (some false)) = some r := h
 clear h
 by_cases c3 : (l0.length : Int) = (l1.length : Int)
 ·rw [if_pos c3] at H
  have c3b0 : ((l0.length : Int) == (l1.length : Int)) = true := beq_iff_eq.mpr c3
  try simp only [beq_self_eq_true, Bool.not_true, Bool.false_or, Bool.true_and] at c3b0
  have c3b1 : ((l0.length : Int) != (l1.length : Int)) = false := bne_eq_false_iff_eq.mpr c3
  have c3b2 : (l0.length == l1.length) = true := by first | simpa using c3 | (simp at c3 ⊢; omega)
  clear c3
  have H' := Aside0.mk H
  clear H
  go_enter Try.func36, Try.ntmps36
  go_wp2
  repeat (go_quiet (fail); try go_wp2)
  go_loopg [13] k (fun kq v13 w' => ∃ (x13_1 : Int), v13 = .int .i64 x13_1 ∧ Aside0 (slices_Equal_int_int.l0 kq l0 l1 (l0.length : Int) x13_1 = some r) ∧ Aside0 (kq ≤ k) ∧ Drawn0 w w')
  case atStart => exact ⟨(0), (by first | rfl | (simp; done) | (simp [*]; done)), H', ⟨Nat.le_refl _⟩, by repeat (first | exact Drawn0.refl _ | apply Drawn0.step)⟩
  case round =>
   clear H'
   try clear c1
   try clear p2
   try clear c3
   try clear c3b0
   try clear c3b1
   try clear c3b2
   obtain ⟨x13_1, rfl, HA, HK1, ⟨m1, rfl⟩⟩ := hrel
   cases gk with
   | zero => exact absurd HA.out (by simp [slices_Equal_int_int.l0])
   | succ k1 =>
    have H := HA.out
    clear HA
    simp only [slices_Equal_int_int.l0] at H
    by_cases c4 : x13_1 < (l0.length : Int)
    ·rw [if_pos c4] at H
     have c4b0 : decide (x13_1 < (l0.length : Int)) = true := decide_eq_true c4
     clear c4
     by_cases c5 : 0 ≤ x13_1
     ·rw [if_pos c5] at H
      have c5b0 : decide (0 ≤ x13_1) = true := decide_eq_true c5
      clear c5
      by_cases c6 : x13_1 < (l0.length : Int)
      ·rw [if_pos c6] at H
       have c6b0 : decide (x13_1 < (l0.length : Int)) = true := decide_eq_true c6
       clear c6
       by_cases c7 : x13_1 < (l1.length : Int)
       ·rw [if_pos c7] at H
        have c7b0 : decide (x13_1 < (l1.length : Int)) = true := decide_eq_true c7
        clear c7
        by_cases c8 : (rd l0 x13_1) = (rd l1 x13_1)
        ·rw [if_pos c8] at H
         have c8b0 : ((rd l0 x13_1) == (rd l1 x13_1)) = true := beq_iff_eq.mpr c8
         try simp only [beq_self_eq_true, Bool.not_true, Bool.false_or, Bool.true_and] at c8b0
         have c8b1 : ((rd l0 x13_1) != (rd l1 x13_1)) = false := bne_eq_false_iff_eq.mpr c8
         clear c8
         have H' := Aside0.mk H
         clear H
         have p219 : 0 ≤ (x13_1 : Int) := of_decide_eq_true (by first | (with_reducible assumption) | assumption)
         have q219 : x13_1 < (l0.length : Int) := of_decide_eq_true (by first | (with_reducible assumption) | assumption)
         obtain ⟨ad219, e219, hx219_0⟩ := Kd.at_int HR0.out x13_1 p219 q219
         cases e219
         replace p219 := eq_true p219
         replace q219 := eq_true q219
         have p220 : 0 ≤ (x13_1 : Int) := of_decide_eq_true (by first | (with_reducible assumption) | assumption)
         have q220 : x13_1 < (l1.length : Int) := of_decide_eq_true (by first | (with_reducible assumption) | assumption)
         obtain ⟨ad220, e220, hx220_0⟩ := Kd.at_int HR1.out x13_1 p220 q220
         cases e220
         replace p220 := eq_true p220
         replace q220 := eq_true q220
         go_wp2
         repeat (go_quiet (fail); try go_wp2)
         go_roundg k1
         case measure => have := HK1.out; omega
         case rel => exact ⟨(wrap64 (x13_1 + 1)), (by first | rfl | (simp; done) | (simp [*]; done)), H', ⟨by have := HK1.out; omega⟩, by repeat (first | exact Drawn0.refl _ | apply Drawn0.step)⟩
        ·rw [if_neg c8] at H
         have c8b0 : ((rd l0 x13_1) == (rd l1 x13_1)) = false := beq_eq_false_iff_ne.mpr c8
         try simp only [beq_self_eq_true, Bool.not_true, Bool.false_or, Bool.true_and] at c8b0
         have c8b1 : ((rd l0 x13_1) != (rd l1 x13_1)) = true := bne_iff_ne.mpr c8
         obtain rfl := Option.some.inj H
         have p219 : 0 ≤ (x13_1 : Int) := of_decide_eq_true (by first | (with_reducible assumption) | assumption)
         have q219 : x13_1 < (l0.length : Int) := of_decide_eq_true (by first | (with_reducible assumption) | assumption)
         obtain ⟨ad219, e219, hx219_0⟩ := Kd.at_int HR0.out x13_1 p219 q219
         cases e219
         replace p219 := eq_true p219
         replace q219 := eq_true q219
         have p220 : 0 ≤ (x13_1 : Int) := of_decide_eq_true (by first | (with_reducible assumption) | assumption)
         have q220 : x13_1 < (l1.length : Int) := of_decide_eq_true (by first | (with_reducible assumption) | assumption)
         obtain ⟨ad220, e220, hx220_0⟩ := Kd.at_int HR1.out x13_1 p220 q220
         cases e220
         replace p220 := eq_true p220
         replace q220 := eq_true q220
         go_wp2
         repeat (go_quiet (fail); try go_wp2)
         go_ret
         exact ⟨by first | rfl | (simp; done) | (simp [*]; done), by repeat (first | exact Drawn0.refl _ | apply Drawn0.step)⟩
       ·rw [if_neg c7] at H
        exact absurd H (by simp)
      ·rw [if_neg c6] at H
       exact absurd H (by simp)
     ·rw [if_neg c5] at H
      exact absurd H (by simp)
    ·rw [if_neg c4] at H
     have c4b0 : decide (x13_1 < (l0.length : Int)) = false := decide_eq_false c4
     clear c4
     obtain rfl := Option.some.inj H
     go_wp2
     repeat (go_quiet (fail); try go_wp2)
     go_ret
     exact ⟨by first | rfl | (simp; done) | (simp [*]; done), by repeat (first | exact Drawn0.refl _ | apply Drawn0.step)⟩
 ·rw [if_neg c3] at H
  have c3b0 : ((l0.length : Int) == (l1.length : Int)) = false := beq_eq_false_iff_ne.mpr c3
  try simp only [beq_self_eq_true, Bool.not_true, Bool.false_or, Bool.true_and] at c3b0
  have c3b1 : ((l0.length : Int) != (l1.length : Int)) = true := bne_iff_ne.mpr c3
  have c3b2 : (l0.length == l1.length) = false := by first | simpa using c3 | (simp at c3 ⊢; omega)
  obtain rfl := Option.some.inj H
  go_enter Try.func36, Try.ntmps36
  go_wp2
  repeat (go_quiet (fail); try go_wp2)
  go_ret
  exact ⟨by first | rfl | (simp; done) | (simp [*]; done), by repeat (first | exact Drawn0.refl _ | apply Drawn0.step)⟩

/-! ### spilelaw39_awake: function 10 -/
def spilelaw39_awake.f (k : Nat)  : Option (Bool) := (spilelaw39_example.f).bind fun t221 => ((seal_Intact.f t221 3 12).bind fun bt224 => ((spilelaw39_example.f).bind fun t228 => ((seal_Intact.f t228 3 15).bind fun bt231 => ((spilelaw39_example.f).bind fun t235 => ((seal_Unbroken.f t235 3 10 14).bind fun bt238 => ((spilelaw39_example.f).bind fun t240 => ((seal_Unbroken.f t240 3 14 15).bind fun bt243 => ((spilelaw39_example.f).bind fun t245 => ((seal_Open.f t245 3 9 15).bind fun bt248 => ((spilelaw39_example.f).bind fun t250 => ((seal_Add.f t250 16 3 7 2).bind fun bt253 => ((slices_Equal_int_int.f k bt224.1 (([7] : List Int))).bind fun t260 => (if t260 = true then ((slices_Equal_int_int.f k bt231.1 (([8] : List Int))).bind fun t264 => (if t264 = true then (if bt238.1 = true then (if bt243.1 = true then (none) else (if bt248.1 = 1 then (if bt253.2 = 11 then (some ((wrap64 ((wrap64 ((wrap64 ((wrap64 (bt224.2 + bt231.2)) + bt238.2)) + bt243.2)) + bt248.2)) == 0)) else (none)) else (none))) else (none)) else (none))) else (none))))))))))))))
theorem spilelaw39_awake.mono : ∀ k, LeO (spilelaw39_awake.f k ) (spilelaw39_awake.f (k + 1) ) := by
 intro  k
 unfold spilelaw39_awake.f
 repeat' first
   | (with_reducible exact slices_Equal_int_int.mono _ _ _)
   | (with_reducible exact LeO.refl _)
   | (with_reducible exact LeO.none _)
   | (with_reducible refine LeO.ite ?_ ?_)
   | (with_reducible refine LeO.bind ?_ (fun _ => ?_))
   | exact slices_Equal_int_int.mono _ _ _
   | exact LeO.none _
   | refine LeO.ite ?_ ?_
   | refine LeO.bind ?_ (fun _ => ?_)
set_option maxHeartbeats 8000000 in
set_option maxRecDepth 100000 in
theorem spilelaw39_awake.calls (k : Nat)  (r : Bool) (w : World) (h : spilelaw39_awake.f k  = some r) :
  Calls Try.prog 10 #[] w fun e w' => e = .returned (.bool r) ∧ Below w.heap.size w w' := by
 have hu34 := Try.underlying34
 have HB := Aside0.mk (Below.refl w.heap.size w)
 have H : ((spilelaw39_example.f).bind fun t221 => ((seal_Intact.f t221 3 12).bind fun bt224 => ((spilelaw39_example.f).bind fun t228 => ((seal_Intact.f t228 3 15).bind fun bt231 => ((spilelaw39_example.f).bind fun t235 => ((seal_Unbroken.f t235 3 10 14).bind fun bt238 => ((spilelaw39_example.f).bind fun t240 => ((seal_Unbroken.f t240 3 14 15).bind fun bt243 => ((spilelaw39_example.f).bind fun t245 => ((seal_Open.f t245 3 9 15).bind fun bt248 => ((spilelaw39_example.f).bind fun t250 => ((seal_Add.f t250 16 3 7 2).bind fun bt253 => ((slices_Equal_int_int.f k bt224.1 (([7] : List Int))).bind fun t260 => (if t260 = true then ((slices_Equal_int_int.f k bt231.1 (([8] : List Int))).bind fun t264 => (if t264 = true then (if bt238.1 = true then (if bt243.1 = true then (none) else (if bt248.1 = 1 then (if bt253.2 = 11 then (some ((wrap64 ((wrap64 ((wrap64 ((wrap64 (bt224.2 + bt231.2)) + bt238.2)) + bt243.2)) + bt248.2)) == 0)) else (none)) else (none))) else (none)) else (none))) else (none))))))))))))))) = some r := h
 clear h
 replace H := Option.bind_eq_some_iff.mp H
 obtain ⟨t221, A10, H⟩ := H
 replace H : ((seal_Intact.f t221 3 12).bind fun bt224 => ((spilelaw39_example.f).bind fun t228 => ((seal_Intact.f t228 3 15).bind fun bt231 => ((spilelaw39_example.f).bind fun t235 => ((seal_Unbroken.f t235 3 10 14).bind fun bt238 => ((spilelaw39_example.f).bind fun t240 => ((seal_Unbroken.f t240 3 14 15).bind fun bt243 => ((spilelaw39_example.f).bind fun t245 => ((seal_Open.f t245 3 9 15).bind fun bt248 => ((spilelaw39_example.f).bind fun t250 => ((seal_Add.f t250 16 3 7 2).bind fun bt253 => ((slices_Equal_int_int.f k bt224.1 (([7] : List Int))).bind fun t260 => (if t260 = true then ((slices_Equal_int_int.f k bt231.1 (([8] : List Int))).bind fun t264 => (if t264 = true then (if bt238.1 = true then (if bt243.1 = true then (none) else (if bt248.1 = 1 then (if bt253.2 = 11 then (some ((wrap64 ((wrap64 ((wrap64 ((wrap64 (bt224.2 + bt231.2)) + bt238.2)) + bt243.2)) + bt248.2)) == 0)) else (none)) else (none))) else (none)) else (none))) else (none)))))))))))))) = some r := H
 have A1 := Aside0.mk A10
 clear A10
 replace H := Option.bind_eq_some_iff.mp H
 obtain ⟨⟨t224, t225⟩, A20, H⟩ := H
 replace H : ((spilelaw39_example.f).bind fun t228 => ((seal_Intact.f t228 3 15).bind fun bt231 => ((spilelaw39_example.f).bind fun t235 => ((seal_Unbroken.f t235 3 10 14).bind fun bt238 => ((spilelaw39_example.f).bind fun t240 => ((seal_Unbroken.f t240 3 14 15).bind fun bt243 => ((spilelaw39_example.f).bind fun t245 => ((seal_Open.f t245 3 9 15).bind fun bt248 => ((spilelaw39_example.f).bind fun t250 => ((seal_Add.f t250 16 3 7 2).bind fun bt253 => ((slices_Equal_int_int.f k t224 (([7] : List Int))).bind fun t260 => (if t260 = true then ((slices_Equal_int_int.f k bt231.1 (([8] : List Int))).bind fun t264 => (if t264 = true then (if bt238.1 = true then (if bt243.1 = true then (none) else (if bt248.1 = 1 then (if bt253.2 = 11 then (some ((wrap64 ((wrap64 ((wrap64 ((wrap64 (t225 + bt231.2)) + bt238.2)) + bt243.2)) + bt248.2)) == 0)) else (none)) else (none))) else (none)) else (none))) else (none))))))))))))) = some r := H
 have A2 := Aside0.mk A20
 clear A20
 replace H := Option.bind_eq_some_iff.mp H
 obtain ⟨t228, A30, H⟩ := H
 replace H : ((seal_Intact.f t228 3 15).bind fun bt231 => ((spilelaw39_example.f).bind fun t235 => ((seal_Unbroken.f t235 3 10 14).bind fun bt238 => ((spilelaw39_example.f).bind fun t240 => ((seal_Unbroken.f t240 3 14 15).bind fun bt243 => ((spilelaw39_example.f).bind fun t245 => ((seal_Open.f t245 3 9 15).bind fun bt248 => ((spilelaw39_example.f).bind fun t250 => ((seal_Add.f t250 16 3 7 2).bind fun bt253 => ((slices_Equal_int_int.f k t224 (([7] : List Int))).bind fun t260 => (if t260 = true then ((slices_Equal_int_int.f k bt231.1 (([8] : List Int))).bind fun t264 => (if t264 = true then (if bt238.1 = true then (if bt243.1 = true then (none) else (if bt248.1 = 1 then (if bt253.2 = 11 then (some ((wrap64 ((wrap64 ((wrap64 ((wrap64 (t225 + bt231.2)) + bt238.2)) + bt243.2)) + bt248.2)) == 0)) else (none)) else (none))) else (none)) else (none))) else (none)))))))))))) = some r := H
 have A3 := Aside0.mk A30
 clear A30
 replace H := Option.bind_eq_some_iff.mp H
 obtain ⟨⟨t231, t232⟩, A40, H⟩ := H
 replace H : ((spilelaw39_example.f).bind fun t235 => ((seal_Unbroken.f t235 3 10 14).bind fun bt238 => ((spilelaw39_example.f).bind fun t240 => ((seal_Unbroken.f t240 3 14 15).bind fun bt243 => ((spilelaw39_example.f).bind fun t245 => ((seal_Open.f t245 3 9 15).bind fun bt248 => ((spilelaw39_example.f).bind fun t250 => ((seal_Add.f t250 16 3 7 2).bind fun bt253 => ((slices_Equal_int_int.f k t224 (([7] : List Int))).bind fun t260 => (if t260 = true then ((slices_Equal_int_int.f k t231 (([8] : List Int))).bind fun t264 => (if t264 = true then (if bt238.1 = true then (if bt243.1 = true then (none) else (if bt248.1 = 1 then (if bt253.2 = 11 then (some ((wrap64 ((wrap64 ((wrap64 ((wrap64 (t225 + t232)) + bt238.2)) + bt243.2)) + bt248.2)) == 0)) else (none)) else (none))) else (none)) else (none))) else (none))))))))))) = some r := H
 have A4 := Aside0.mk A40
 clear A40
 replace H := Option.bind_eq_some_iff.mp H
 obtain ⟨t235, A50, H⟩ := H
 replace H : ((seal_Unbroken.f t235 3 10 14).bind fun bt238 => ((spilelaw39_example.f).bind fun t240 => ((seal_Unbroken.f t240 3 14 15).bind fun bt243 => ((spilelaw39_example.f).bind fun t245 => ((seal_Open.f t245 3 9 15).bind fun bt248 => ((spilelaw39_example.f).bind fun t250 => ((seal_Add.f t250 16 3 7 2).bind fun bt253 => ((slices_Equal_int_int.f k t224 (([7] : List Int))).bind fun t260 => (if t260 = true then ((slices_Equal_int_int.f k t231 (([8] : List Int))).bind fun t264 => (if t264 = true then (if bt238.1 = true then (if bt243.1 = true then (none) else (if bt248.1 = 1 then (if bt253.2 = 11 then (some ((wrap64 ((wrap64 ((wrap64 ((wrap64 (t225 + t232)) + bt238.2)) + bt243.2)) + bt248.2)) == 0)) else (none)) else (none))) else (none)) else (none))) else (none)))))))))) = some r := H
 have A5 := Aside0.mk A50
 clear A50
 replace H := Option.bind_eq_some_iff.mp H
 obtain ⟨⟨t238, t239⟩, A60, H⟩ := H
 replace H : ((spilelaw39_example.f).bind fun t240 => ((seal_Unbroken.f t240 3 14 15).bind fun bt243 => ((spilelaw39_example.f).bind fun t245 => ((seal_Open.f t245 3 9 15).bind fun bt248 => ((spilelaw39_example.f).bind fun t250 => ((seal_Add.f t250 16 3 7 2).bind fun bt253 => ((slices_Equal_int_int.f k t224 (([7] : List Int))).bind fun t260 => (if t260 = true then ((slices_Equal_int_int.f k t231 (([8] : List Int))).bind fun t264 => (if t264 = true then (if t238 = true then (if bt243.1 = true then (none) else (if bt248.1 = 1 then (if bt253.2 = 11 then (some ((wrap64 ((wrap64 ((wrap64 ((wrap64 (t225 + t232)) + t239)) + bt243.2)) + bt248.2)) == 0)) else (none)) else (none))) else (none)) else (none))) else (none))))))))) = some r := H
 have A6 := Aside0.mk A60
 clear A60
 replace H := Option.bind_eq_some_iff.mp H
 obtain ⟨t240, A70, H⟩ := H
 replace H : ((seal_Unbroken.f t240 3 14 15).bind fun bt243 => ((spilelaw39_example.f).bind fun t245 => ((seal_Open.f t245 3 9 15).bind fun bt248 => ((spilelaw39_example.f).bind fun t250 => ((seal_Add.f t250 16 3 7 2).bind fun bt253 => ((slices_Equal_int_int.f k t224 (([7] : List Int))).bind fun t260 => (if t260 = true then ((slices_Equal_int_int.f k t231 (([8] : List Int))).bind fun t264 => (if t264 = true then (if t238 = true then (if bt243.1 = true then (none) else (if bt248.1 = 1 then (if bt253.2 = 11 then (some ((wrap64 ((wrap64 ((wrap64 ((wrap64 (t225 + t232)) + t239)) + bt243.2)) + bt248.2)) == 0)) else (none)) else (none))) else (none)) else (none))) else (none)))))))) = some r := H
 have A7 := Aside0.mk A70
 clear A70
 replace H := Option.bind_eq_some_iff.mp H
 obtain ⟨⟨t243, t244⟩, A80, H⟩ := H
 replace H : ((spilelaw39_example.f).bind fun t245 => ((seal_Open.f t245 3 9 15).bind fun bt248 => ((spilelaw39_example.f).bind fun t250 => ((seal_Add.f t250 16 3 7 2).bind fun bt253 => ((slices_Equal_int_int.f k t224 (([7] : List Int))).bind fun t260 => (if t260 = true then ((slices_Equal_int_int.f k t231 (([8] : List Int))).bind fun t264 => (if t264 = true then (if t238 = true then (if t243 = true then (none) else (if bt248.1 = 1 then (if bt253.2 = 11 then (some ((wrap64 ((wrap64 ((wrap64 ((wrap64 (t225 + t232)) + t239)) + t244)) + bt248.2)) == 0)) else (none)) else (none))) else (none)) else (none))) else (none))))))) = some r := H
 have A8 := Aside0.mk A80
 clear A80
 replace H := Option.bind_eq_some_iff.mp H
 obtain ⟨t245, A90, H⟩ := H
 replace H : ((seal_Open.f t245 3 9 15).bind fun bt248 => ((spilelaw39_example.f).bind fun t250 => ((seal_Add.f t250 16 3 7 2).bind fun bt253 => ((slices_Equal_int_int.f k t224 (([7] : List Int))).bind fun t260 => (if t260 = true then ((slices_Equal_int_int.f k t231 (([8] : List Int))).bind fun t264 => (if t264 = true then (if t238 = true then (if t243 = true then (none) else (if bt248.1 = 1 then (if bt253.2 = 11 then (some ((wrap64 ((wrap64 ((wrap64 ((wrap64 (t225 + t232)) + t239)) + t244)) + bt248.2)) == 0)) else (none)) else (none))) else (none)) else (none))) else (none)))))) = some r := H
 have A9 := Aside0.mk A90
 clear A90
 replace H := Option.bind_eq_some_iff.mp H
 obtain ⟨⟨t248, t249⟩, A100, H⟩ := H
 replace H : ((spilelaw39_example.f).bind fun t250 => ((seal_Add.f t250 16 3 7 2).bind fun bt253 => ((slices_Equal_int_int.f k t224 (([7] : List Int))).bind fun t260 => (if t260 = true then ((slices_Equal_int_int.f k t231 (([8] : List Int))).bind fun t264 => (if t264 = true then (if t238 = true then (if t243 = true then (none) else (if t248 = 1 then (if bt253.2 = 11 then (some ((wrap64 ((wrap64 ((wrap64 ((wrap64 (t225 + t232)) + t239)) + t244)) + t249)) == 0)) else (none)) else (none))) else (none)) else (none))) else (none))))) = some r := H
 have A10 := Aside0.mk A100
 clear A100
 replace H := Option.bind_eq_some_iff.mp H
 obtain ⟨t250, A110, H⟩ := H
 replace H : ((seal_Add.f t250 16 3 7 2).bind fun bt253 => ((slices_Equal_int_int.f k t224 (([7] : List Int))).bind fun t260 => (if t260 = true then ((slices_Equal_int_int.f k t231 (([8] : List Int))).bind fun t264 => (if t264 = true then (if t238 = true then (if t243 = true then (none) else (if t248 = 1 then (if bt253.2 = 11 then (some ((wrap64 ((wrap64 ((wrap64 ((wrap64 (t225 + t232)) + t239)) + t244)) + t249)) == 0)) else (none)) else (none))) else (none)) else (none))) else (none)))) = some r := H
 have A11 := Aside0.mk A110
 clear A110
 replace H := Option.bind_eq_some_iff.mp H
 obtain ⟨⟨t253, t256⟩, A120, H⟩ := H
 replace H : ((slices_Equal_int_int.f k t224 (([7] : List Int))).bind fun t260 => (if t260 = true then ((slices_Equal_int_int.f k t231 (([8] : List Int))).bind fun t264 => (if t264 = true then (if t238 = true then (if t243 = true then (none) else (if t248 = 1 then (if t256 = 11 then (some ((wrap64 ((wrap64 ((wrap64 ((wrap64 (t225 + t232)) + t239)) + t244)) + t249)) == 0)) else (none)) else (none))) else (none)) else (none))) else (none))) = some r := H
 have A12 := Aside0.mk A120
 clear A120
 obtain ⟨y257, hy257⟩ : ∃ y_ : List Int, y_ = (([7] : List Int)) := ⟨_, rfl⟩
 replace H : ((slices_Equal_int_int.f k t224 y257).bind fun t260 => (if t260 = true then ((slices_Equal_int_int.f k t231 (([8] : List Int))).bind fun t264 => (if t264 = true then (if t238 = true then (if t243 = true then (none) else (if t248 = 1 then (if t256 = 11 then (some ((wrap64 ((wrap64 ((wrap64 ((wrap64 (t225 + t232)) + t239)) + t244)) + t249)) == 0)) else (none)) else (none))) else (none)) else (none))) else (none))) = some r := by first | (rw [hy257]; with_reducible exact H) | (have H2_ := (Option.bind_some _ _).symm.trans H; rw [hy257]; with_reducible exact H2_) | (have H2_ := (Option.bind_some _ _).symm.trans H; with_reducible exact H2_) | with_reducible exact H | (rw [hy257]; exact H) | exact H
 have Ny257 := Aside0.mk hy257
 clear hy257
 replace H := Option.bind_eq_some_iff.mp H
 obtain ⟨t260, A130, H⟩ := H
 replace H : (if t260 = true then ((slices_Equal_int_int.f k t231 (([8] : List Int))).bind fun t264 => (if t264 = true then (if t238 = true then (if t243 = true then (none) else (if t248 = 1 then (if t256 = 11 then (some ((wrap64 ((wrap64 ((wrap64 ((wrap64 (t225 + t232)) + t239)) + t244)) + t249)) == 0)) else (none)) else (none))) else (none)) else (none))) else (none)) = some r := H
 have A13 := Aside0.mk A130
 clear A130
 by_cases c14 : t260 = true
 ·subst c14
  have H1 : ((slices_Equal_int_int.f k t231 (([8] : List Int))).bind fun t264 => (if t264 = true then (if t238 = true then (if t243 = true then (none) else (if t248 = 1 then (if t256 = 11 then (some ((wrap64 ((wrap64 ((wrap64 ((wrap64 (t225 + t232)) + t239)) + t244)) + t249)) == 0)) else (none)) else (none))) else (none)) else (none))) = some r := by rw [if_pos rfl] at H; exact H
  clear H
  have H := H1
  clear H1
  obtain ⟨y261, hy261⟩ : ∃ y_ : List Int, y_ = (([8] : List Int)) := ⟨_, rfl⟩
  replace H : ((slices_Equal_int_int.f k t231 y261).bind fun t264 => (if t264 = true then (if t238 = true then (if t243 = true then (none) else (if t248 = 1 then (if t256 = 11 then (some ((wrap64 ((wrap64 ((wrap64 ((wrap64 (t225 + t232)) + t239)) + t244)) + t249)) == 0)) else (none)) else (none))) else (none)) else (none))) = some r := by first | (rw [hy261]; with_reducible exact H) | (have H2_ := (Option.bind_some _ _).symm.trans H; rw [hy261]; with_reducible exact H2_) | (have H2_ := (Option.bind_some _ _).symm.trans H; with_reducible exact H2_) | with_reducible exact H | (rw [hy261]; exact H) | exact H
  have Ny261 := Aside0.mk hy261
  clear hy261
  replace H := Option.bind_eq_some_iff.mp H
  obtain ⟨t264, A150, H⟩ := H
  replace H : (if t264 = true then (if t238 = true then (if t243 = true then (none) else (if t248 = 1 then (if t256 = 11 then (some ((wrap64 ((wrap64 ((wrap64 ((wrap64 (t225 + t232)) + t239)) + t244)) + t249)) == 0)) else (none)) else (none))) else (none)) else (none)) = some r := H
  have A15 := Aside0.mk A150
  clear A150
  by_cases c16 : t264 = true
  ·subst c16
   have H1 : (if t238 = true then (if t243 = true then (none) else (if t248 = 1 then (if t256 = 11 then (some ((wrap64 ((wrap64 ((wrap64 ((wrap64 (t225 + t232)) + t239)) + t244)) + t249)) == 0)) else (none)) else (none))) else (none)) = some r := by rw [if_pos rfl] at H; exact H
   clear H
   have H := H1
   clear H1
   by_cases c17 : t238 = true
   ·subst c17
    have H1 : (if t243 = true then (none) else (if t248 = 1 then (if t256 = 11 then (some ((wrap64 ((wrap64 ((wrap64 ((wrap64 (t225 + t232)) + t239)) + t244)) + t249)) == 0)) else (none)) else (none))) = some r := by rw [if_pos rfl] at H; exact H
    clear H
    have H := H1
    clear H1
    by_cases c18 : t243 = true
    ·subst c18
     have H1 : (none) = some r := by rw [if_pos rfl] at H; exact H
     clear H
     have H := H1
     clear H1
     exact absurd H (by simp)
    ·replace c18 := Bool.eq_false_iff.mpr c18
     subst c18
     have H1 : (if t248 = 1 then (if t256 = 11 then (some ((wrap64 ((wrap64 ((wrap64 ((wrap64 (t225 + t232)) + t239)) + t244)) + t249)) == 0)) else (none)) else (none)) = some r := by rw [if_neg (show ¬ (false = true) by decide)] at H; exact H
     clear H
     have H := H1
     clear H1
     by_cases c19 : t248 = 1
     ·rw [if_pos c19] at H
      have c19b0 : (t248 == 1) = true := beq_iff_eq.mpr c19
      try simp only [beq_self_eq_true, Bool.not_true, Bool.false_or, Bool.true_and] at c19b0
      have c19b1 : (t248 != 1) = false := bne_eq_false_iff_eq.mpr c19
      clear c19
      by_cases c20 : t256 = 11
      ·rw [if_pos c20] at H
       have c20b0 : (t256 == 11) = true := beq_iff_eq.mpr c20
       try simp only [beq_self_eq_true, Bool.not_true, Bool.false_or, Bool.true_and] at c20b0
       have c20b1 : (t256 != 11) = false := bne_eq_false_iff_eq.mpr c20
       clear c20
       obtain rfl := Option.some.inj H
       go_enter Try.func10, Try.ntmps10
       go_wp2_with (first | ((with_reducible refine gqC (f := 35) rfl ?_); refine GS.gL (some 14) Try.func35 #[] ?_; (with_reducible refine (spilelaw39_example.calls  t221 _ A1.out).mono ?_); rintro e w21 ⟨v222, rfl, ho0, hb⟩; refine ⟨_, rfl, ?_⟩; have n0_ := Aside0.mk (Kd.R_lower ho0 (lqZ (GS.lB HB.out))); have n1_ := Aside0.mk (lqT (GS.lB HB.out) hb); clear HB; have HO223 := n0_; have HB := n1_; clear n0_ n1_; (try clear hb); (try clear hb2); (try clear hk); (try clear hi); (try clear ho0); obtain ⟨Ao22, co22, eo22⟩ := Kd.R_slice HO223.out; subst eo22) | ((with_reducible refine gqC (f := 13) rfl ?_); refine GS.gL (some 15) Try.func13 #[.slice Ao22 t221.length co22, .int .i64 3, .int .i64 12] ?_; (with_reducible refine (seal_Intact.calls _ _ t221 3 12 t224 t225 _ ?side1 ?side2 A2.out).mono ?_); (case side1 => repeat (first | exact (Kd.R_reads' HO223.out).2.2 | (with_reducible refine Kd.C_alloc ?_ _) | (with_reducible refine Kd.C_drewN ?_ _) | (with_reducible refine Kd.C_drew ?_))); (case side2 => exact (Kd.R_reads' HO223.out).2.1); rintro e w23 ⟨v226, rfl, ho0, hb⟩; refine ⟨_, rfl, ?_⟩; have n0_ := Aside0.mk (Kd.R_below (GS.rR HO223.out) hb); have n1_ := Aside0.mk (Kd.R_lower ho0 (lqZ (GS.lB HB.out))); have n2_ := Aside0.mk (lqT (GS.lB HB.out) hb); clear HO223; clear HB; have HO223 := n0_; have HO227 := n1_; have HB := n2_; clear n0_ n1_ n2_; (try clear hb); (try clear hb2); (try clear hk); (try clear hi); (try clear ho0)) | ((with_reducible refine gqC (f := 35) rfl ?_); refine GS.gL (some 19) Try.func35 #[] ?_; (with_reducible refine (spilelaw39_example.calls  t228 _ A3.out).mono ?_); rintro e w24 ⟨v229, rfl, ho0, hb⟩; refine ⟨_, rfl, ?_⟩; have n0_ := Aside0.mk (Kd.R_elder' (GS.rR HO223.out) (Kd.R_base ho0) hb); have n1_ := Aside0.mk (Kd.R_below (GS.rR HO227.out) hb); have n2_ := Aside0.mk (Kd.R_lower (Kd.R_new' ho0 (Kd.R_lt (GS.rR HO223.out))) (lqZ (GS.lB HB.out))); have n3_ := Aside0.mk (lqT (GS.lB HB.out) hb); clear HO223; clear HO227; clear HB; have HO223 := n0_; have HO227 := n1_; have HO230 := n2_; have HB := n3_; clear n0_ n1_ n2_ n3_; (try clear hb); (try clear hb2); (try clear hk); (try clear hi); (try clear ho0); obtain ⟨Ao25, co25, eo25⟩ := Kd.R_slice HO230.out; subst eo25) | ((with_reducible refine gqC (f := 13) rfl ?_); refine GS.gL (some 20) Try.func13 #[.slice Ao25 t228.length co25, .int .i64 3, .int .i64 15] ?_; (with_reducible refine (seal_Intact.calls _ _ t228 3 15 t231 t232 _ ?side1 ?side2 A4.out).mono ?_); (case side1 => repeat (first | exact (Kd.R_reads' HO230.out).2.2 | (with_reducible refine Kd.C_alloc ?_ _) | (with_reducible refine Kd.C_drewN ?_ _) | (with_reducible refine Kd.C_drew ?_))); (case side2 => exact (Kd.R_reads' HO230.out).2.1); rintro e w26 ⟨v233, rfl, ho0, hb⟩; refine ⟨_, rfl, ?_⟩; have n0_ := Aside0.mk (Kd.R_below (GS.rR HO223.out) hb); have n1_ := Aside0.mk (Kd.R_elder' (GS.rR HO227.out) (Kd.R_base ho0) hb); have n2_ := Aside0.mk (Kd.R_below (GS.rR HO230.out) hb); have n3_ := Aside0.mk (Kd.R_lower (Kd.R_new' ho0 (Kd.R_lt (GS.rR HO227.out))) (lqZ (GS.lB HB.out))); have n4_ := Aside0.mk (lqT (GS.lB HB.out) hb); clear HO223; clear HO227; clear HO230; clear HB; have HO223 := n0_; have HO227 := n1_; have HO230 := n2_; have HO234 := n3_; have HB := n4_; clear n0_ n1_ n2_ n3_ n4_; (try clear hb); (try clear hb2); (try clear hk); (try clear hi); (try clear ho0)) | ((with_reducible refine gqC (f := 35) rfl ?_); refine GS.gL (some 24) Try.func35 #[] ?_; (with_reducible refine (spilelaw39_example.calls  t235 _ A5.out).mono ?_); rintro e w27 ⟨v236, rfl, ho0, hb⟩; refine ⟨_, rfl, ?_⟩; have n0_ := Aside0.mk (Kd.R_elder' (GS.rR HO223.out) (Kd.R_base ho0) hb); have n1_ := Aside0.mk (Kd.R_below (GS.rR HO227.out) hb); have n2_ := Aside0.mk (Kd.R_elder' (GS.rR HO230.out) (Kd.R_base ho0) hb); have n3_ := Aside0.mk (Kd.R_below (GS.rR HO234.out) hb); have n4_ := Aside0.mk (Kd.R_lower (Kd.R_new' (Kd.R_new' ho0 (Kd.R_lt (GS.rR HO223.out))) (Kd.R_lt (GS.rR HO230.out))) (lqZ (GS.lB HB.out))); have n5_ := Aside0.mk (lqT (GS.lB HB.out) hb); clear HO223; clear HO227; clear HO230; clear HO234; clear HB; have HO223 := n0_; have HO227 := n1_; have HO230 := n2_; have HO234 := n3_; have HO237 := n4_; have HB := n5_; clear n0_ n1_ n2_ n3_ n4_ n5_; (try clear hb); (try clear hb2); (try clear hk); (try clear hi); (try clear ho0); obtain ⟨Ao28, co28, eo28⟩ := Kd.R_slice HO237.out; subst eo28) | ((with_reducible refine gqC (f := 16) rfl ?_); refine GS.gL (some 25) Try.func16 #[.slice Ao28 t235.length co28, .int .i64 3, .int .i64 10, .int .i64 14] ?_; (with_reducible refine (seal_Unbroken.calls _ _ t235 3 10 14 true t239 _ ?side1 ?side2 A6.out).mono ?_); (case side1 => repeat (first | exact (Kd.R_reads' HO237.out).2.2 | (with_reducible refine Kd.C_alloc ?_ _) | (with_reducible refine Kd.C_drewN ?_ _) | (with_reducible refine Kd.C_drew ?_))); (case side2 => exact (Kd.R_reads' HO237.out).2.1); rintro e w29 ⟨rfl, hb⟩; refine ⟨_, rfl, ?_⟩; have n0_ := Aside0.mk (Kd.R_below (GS.rR HO223.out) hb); have n1_ := Aside0.mk (Kd.R_below (GS.rR HO227.out) hb); have n2_ := Aside0.mk (Kd.R_below (GS.rR HO230.out) hb); have n3_ := Aside0.mk (Kd.R_below (GS.rR HO234.out) hb); have n4_ := Aside0.mk (Kd.R_below (GS.rR HO237.out) hb); have n5_ := Aside0.mk (lqT (GS.lB HB.out) hb); clear HO223; clear HO227; clear HO230; clear HO234; clear HO237; clear HB; have HO223 := n0_; have HO227 := n1_; have HO230 := n2_; have HO234 := n3_; have HO237 := n4_; have HB := n5_; clear n0_ n1_ n2_ n3_ n4_ n5_; (try clear hb); (try clear hb2); (try clear hk); (try clear hi)) | ((with_reducible refine gqC (f := 35) rfl ?_); refine GS.gL (some 29) Try.func35 #[] ?_; (with_reducible refine (spilelaw39_example.calls  t240 _ A7.out).mono ?_); rintro e w30 ⟨v241, rfl, ho0, hb⟩; refine ⟨_, rfl, ?_⟩; have n0_ := Aside0.mk (Kd.R_elder' (GS.rR HO223.out) (Kd.R_base ho0) hb); have n1_ := Aside0.mk (Kd.R_below (GS.rR HO227.out) hb); have n2_ := Aside0.mk (Kd.R_elder' (GS.rR HO230.out) (Kd.R_base ho0) hb); have n3_ := Aside0.mk (Kd.R_below (GS.rR HO234.out) hb); have n4_ := Aside0.mk (Kd.R_elder' (GS.rR HO237.out) (Kd.R_base ho0) hb); have n5_ := Aside0.mk (Kd.R_lower (Kd.R_new' (Kd.R_new' (Kd.R_new' ho0 (Kd.R_lt (GS.rR HO223.out))) (Kd.R_lt (GS.rR HO230.out))) (Kd.R_lt (GS.rR HO237.out))) (lqZ (GS.lB HB.out))); have n6_ := Aside0.mk (lqT (GS.lB HB.out) hb); clear HO223; clear HO227; clear HO230; clear HO234; clear HO237; clear HB; have HO223 := n0_; have HO227 := n1_; have HO230 := n2_; have HO234 := n3_; have HO237 := n4_; have HO242 := n5_; have HB := n6_; clear n0_ n1_ n2_ n3_ n4_ n5_ n6_; (try clear hb); (try clear hb2); (try clear hk); (try clear hi); (try clear ho0); obtain ⟨Ao31, co31, eo31⟩ := Kd.R_slice HO242.out; subst eo31) | ((with_reducible refine gqC (f := 16) rfl ?_); refine GS.gL (some 30) Try.func16 #[.slice Ao31 t240.length co31, .int .i64 3, .int .i64 14, .int .i64 15] ?_; (with_reducible refine (seal_Unbroken.calls _ _ t240 3 14 15 false t244 _ ?side1 ?side2 A8.out).mono ?_); (case side1 => repeat (first | exact (Kd.R_reads' HO242.out).2.2 | (with_reducible refine Kd.C_alloc ?_ _) | (with_reducible refine Kd.C_drewN ?_ _) | (with_reducible refine Kd.C_drew ?_))); (case side2 => exact (Kd.R_reads' HO242.out).2.1); rintro e w32 ⟨rfl, hb⟩; refine ⟨_, rfl, ?_⟩; have n0_ := Aside0.mk (Kd.R_below (GS.rR HO223.out) hb); have n1_ := Aside0.mk (Kd.R_below (GS.rR HO227.out) hb); have n2_ := Aside0.mk (Kd.R_below (GS.rR HO230.out) hb); have n3_ := Aside0.mk (Kd.R_below (GS.rR HO234.out) hb); have n4_ := Aside0.mk (Kd.R_below (GS.rR HO237.out) hb); have n5_ := Aside0.mk (Kd.R_below (GS.rR HO242.out) hb); have n6_ := Aside0.mk (lqT (GS.lB HB.out) hb); clear HO223; clear HO227; clear HO230; clear HO234; clear HO237; clear HO242; clear HB; have HO223 := n0_; have HO227 := n1_; have HO230 := n2_; have HO234 := n3_; have HO237 := n4_; have HO242 := n5_; have HB := n6_; clear n0_ n1_ n2_ n3_ n4_ n5_ n6_; (try clear hb); (try clear hb2); (try clear hk); (try clear hi)) | ((with_reducible refine gqC (f := 35) rfl ?_); refine GS.gL (some 34) Try.func35 #[] ?_; (with_reducible refine (spilelaw39_example.calls  t245 _ A9.out).mono ?_); rintro e w33 ⟨v246, rfl, ho0, hb⟩; refine ⟨_, rfl, ?_⟩; have n0_ := Aside0.mk (Kd.R_elder' (GS.rR HO223.out) (Kd.R_base ho0) hb); have n1_ := Aside0.mk (Kd.R_below (GS.rR HO227.out) hb); have n2_ := Aside0.mk (Kd.R_elder' (GS.rR HO230.out) (Kd.R_base ho0) hb); have n3_ := Aside0.mk (Kd.R_below (GS.rR HO234.out) hb); have n4_ := Aside0.mk (Kd.R_elder' (GS.rR HO237.out) (Kd.R_base ho0) hb); have n5_ := Aside0.mk (Kd.R_elder' (GS.rR HO242.out) (Kd.R_base ho0) hb); have n6_ := Aside0.mk (Kd.R_lower (Kd.R_new' (Kd.R_new' (Kd.R_new' (Kd.R_new' ho0 (Kd.R_lt (GS.rR HO223.out))) (Kd.R_lt (GS.rR HO230.out))) (Kd.R_lt (GS.rR HO237.out))) (Kd.R_lt (GS.rR HO242.out))) (lqZ (GS.lB HB.out))); have n7_ := Aside0.mk (lqT (GS.lB HB.out) hb); clear HO223; clear HO227; clear HO230; clear HO234; clear HO237; clear HO242; clear HB; have HO223 := n0_; have HO227 := n1_; have HO230 := n2_; have HO234 := n3_; have HO237 := n4_; have HO242 := n5_; have HO247 := n6_; have HB := n7_; clear n0_ n1_ n2_ n3_ n4_ n5_ n6_ n7_; (try clear hb); (try clear hb2); (try clear hk); (try clear hi); (try clear ho0); obtain ⟨Ao34, co34, eo34⟩ := Kd.R_slice HO247.out; subst eo34) | ((with_reducible refine gqC (f := 18) rfl ?_); refine GS.gL (some 35) Try.func18 #[.slice Ao34 t245.length co34, .int .i64 3, .int .i64 9, .int .i64 15] ?_; (with_reducible refine (seal_Open.calls _ _ t245 3 9 15 t248 t249 _ ?side1 ?side2 A10.out).mono ?_); (case side1 => repeat (first | exact (Kd.R_reads' HO247.out).2.2 | (with_reducible refine Kd.C_alloc ?_ _) | (with_reducible refine Kd.C_drewN ?_ _) | (with_reducible refine Kd.C_drew ?_))); (case side2 => exact (Kd.R_reads' HO247.out).2.1); rintro e w35 ⟨rfl, hb⟩; refine ⟨_, rfl, ?_⟩; have n0_ := Aside0.mk (Kd.R_below (GS.rR HO223.out) hb); have n1_ := Aside0.mk (Kd.R_below (GS.rR HO227.out) hb); have n2_ := Aside0.mk (Kd.R_below (GS.rR HO230.out) hb); have n3_ := Aside0.mk (Kd.R_below (GS.rR HO234.out) hb); have n4_ := Aside0.mk (Kd.R_below (GS.rR HO237.out) hb); have n5_ := Aside0.mk (Kd.R_below (GS.rR HO242.out) hb); have n6_ := Aside0.mk (Kd.R_below (GS.rR HO247.out) hb); have n7_ := Aside0.mk (lqT (GS.lB HB.out) hb); clear HO223; clear HO227; clear HO230; clear HO234; clear HO237; clear HO242; clear HO247; clear HB; have HO223 := n0_; have HO227 := n1_; have HO230 := n2_; have HO234 := n3_; have HO237 := n4_; have HO242 := n5_; have HO247 := n6_; have HB := n7_; clear n0_ n1_ n2_ n3_ n4_ n5_ n6_ n7_; (try clear hb); (try clear hb2); (try clear hk); (try clear hi)) | ((with_reducible refine gqC (f := 35) rfl ?_); refine GS.gL (some 39) Try.func35 #[] ?_; (with_reducible refine (spilelaw39_example.calls  t250 _ A11.out).mono ?_); rintro e w36 ⟨v251, rfl, ho0, hb⟩; refine ⟨_, rfl, ?_⟩; have n0_ := Aside0.mk (Kd.R_elder' (GS.rR HO223.out) (Kd.R_base ho0) hb); have n1_ := Aside0.mk (Kd.R_below (GS.rR HO227.out) hb); have n2_ := Aside0.mk (Kd.R_elder' (GS.rR HO230.out) (Kd.R_base ho0) hb); have n3_ := Aside0.mk (Kd.R_below (GS.rR HO234.out) hb); have n4_ := Aside0.mk (Kd.R_elder' (GS.rR HO237.out) (Kd.R_base ho0) hb); have n5_ := Aside0.mk (Kd.R_elder' (GS.rR HO242.out) (Kd.R_base ho0) hb); have n6_ := Aside0.mk (Kd.R_elder' (GS.rR HO247.out) (Kd.R_base ho0) hb); have n7_ := Aside0.mk (Kd.R_lower (Kd.R_new' (Kd.R_new' (Kd.R_new' (Kd.R_new' (Kd.R_new' ho0 (Kd.R_lt (GS.rR HO223.out))) (Kd.R_lt (GS.rR HO230.out))) (Kd.R_lt (GS.rR HO237.out))) (Kd.R_lt (GS.rR HO242.out))) (Kd.R_lt (GS.rR HO247.out))) (lqZ (GS.lB HB.out))); have n8_ := Aside0.mk (lqT (GS.lB HB.out) hb); clear HO223; clear HO227; clear HO230; clear HO234; clear HO237; clear HO242; clear HO247; clear HB; have HO223 := n0_; have HO227 := n1_; have HO230 := n2_; have HO234 := n3_; have HO237 := n4_; have HO242 := n5_; have HO247 := n6_; have HO252 := n7_; have HB := n8_; clear n0_ n1_ n2_ n3_ n4_ n5_ n6_ n7_ n8_; (try clear hb); (try clear hb2); (try clear hk); (try clear hi); (try clear ho0); obtain ⟨Ao37, co37, eo37⟩ := Kd.R_slice HO252.out; subst eo37) | ((with_reducible refine gqC (f := 30) rfl ?_); refine GS.gL (some 41) Try.func30 #[.slice Ao37 t250.length co37, .agg #[.int .i64 16, .int .i64 3, .int .i64 7, .int .i64 2]] ?_; (with_reducible refine (seal_Add.calls _ _ t250 16 3 7 2 t253 t256 _ ?side1 ?side2 A12.out).mono ?_); (case side1 => repeat (first | exact (Kd.R_reads' HO252.out).2.2 | (with_reducible refine Kd.C_alloc ?_ _) | (with_reducible refine Kd.C_drewN ?_ _) | (with_reducible refine Kd.C_drew ?_))); (case side2 => exact (Kd.R_reads' HO252.out).2.1); rintro e w38 ⟨v254, rfl, ho0, hb⟩; refine ⟨_, rfl, ?_⟩; have n0_ := Aside0.mk (Kd.R_elder' (GS.rR HO223.out) (Kd.R_base ho0) hb); have n1_ := Aside0.mk (Kd.R_below (GS.rR HO227.out) hb); have n2_ := Aside0.mk (Kd.R_elder' (GS.rR HO230.out) (Kd.R_base ho0) hb); have n3_ := Aside0.mk (Kd.R_below (GS.rR HO234.out) hb); have n4_ := Aside0.mk (Kd.R_elder' (GS.rR HO237.out) (Kd.R_base ho0) hb); have n5_ := Aside0.mk (Kd.R_elder' (GS.rR HO242.out) (Kd.R_base ho0) hb); have n6_ := Aside0.mk (Kd.R_elder' (GS.rR HO247.out) (Kd.R_base ho0) hb); have n7_ := Aside0.mk (Kd.R_elder' (GS.rR HO252.out) (Kd.R_base ho0) hb); have n8_ := Aside0.mk (Kd.R_lower (Kd.R_new' (Kd.R_new' (Kd.R_new' (Kd.R_new' (Kd.R_new' (Kd.R_new' ho0 (Kd.R_lt (GS.rR HO223.out))) (Kd.R_lt (GS.rR HO230.out))) (Kd.R_lt (GS.rR HO237.out))) (Kd.R_lt (GS.rR HO242.out))) (Kd.R_lt (GS.rR HO247.out))) (Kd.R_lt (GS.rR HO252.out))) (lqZ (GS.lB HB.out))); have n9_ := Aside0.mk (lqT (GS.lB HB.out) hb); clear HO223; clear HO227; clear HO230; clear HO234; clear HO237; clear HO242; clear HO247; clear HO252; clear HB; have HO223 := n0_; have HO227 := n1_; have HO230 := n2_; have HO234 := n3_; have HO237 := n4_; have HO242 := n5_; have HO247 := n6_; have HO252 := n7_; have HO255 := n8_; have HB := n9_; clear n0_ n1_ n2_ n3_ n4_ n5_ n6_ n7_ n8_ n9_; (try clear hb); (try clear hb2); (try clear hk); (try clear hi); (try clear ho0)) | ((with_reducible refine gqD (N := 45) rfl ?_); (try (refine gate_guard (by rfl) ?_; dsimp only)); refine Kd.R_lit (Kd.int .i64) _ 3 ?hg (N := 45) ?hd (xs := ([7] : List Int)) (inner := [.int .i64 7]) (ok := fun _ => True) (okp := fun _ => True) ?hr ?hp (fun _ hk => hk) trivial (Below.refl _ _) (Nat.le_refl _) (by simp) ?_; (case hd => rfl); (case hg => rfl); (case hr => first | (go_simp; done) | (go_simp; rfl)); (case hp => exact (Reps.one (show Kd.M (Kd.int .i64) _ _ _ 7 [.int .i64 7] from rfl) (Reps.none _ _))); intro v258 w39 ho40 hb hg_ hnew_; clear hg_ hnew_; (first | rw [← Ny257.out] at ho40 | (simp only [Int.reduceToNat] at ho40; rw [← Ny257.out] at ho40)); have n0_ := Aside0.mk (Kd.R_below (GS.rR HO223.out) hb); have n1_ := Aside0.mk (Kd.R_elder' (GS.rR HO227.out) (Kd.R_base ho40) hb); have n2_ := Aside0.mk (Kd.R_below (GS.rR HO230.out) hb); have n3_ := Aside0.mk (Kd.R_elder' (GS.rR HO234.out) (Kd.R_base ho40) hb); have n4_ := Aside0.mk (Kd.R_below (GS.rR HO237.out) hb); have n5_ := Aside0.mk (Kd.R_below (GS.rR HO242.out) hb); have n6_ := Aside0.mk (Kd.R_below (GS.rR HO247.out) hb); have n7_ := Aside0.mk (Kd.R_below (GS.rR HO252.out) hb); have n8_ := Aside0.mk (Kd.R_below (GS.rR HO255.out) hb); have n9_ := Aside0.mk (Kd.R_lower (Kd.R_new' (Kd.R_new' ho40 (Kd.R_lt (GS.rR HO227.out))) (Kd.R_lt (GS.rR HO234.out))) (lqZ (GS.lB HB.out))); have n10_ := Aside0.mk (lqT (GS.lB HB.out) hb); clear HO223; clear HO227; clear HO230; clear HO234; clear HO237; clear HO242; clear HO247; clear HO252; clear HO255; clear HB; have HO223 := n0_; have HO227 := n1_; have HO230 := n2_; have HO234 := n3_; have HO237 := n4_; have HO242 := n5_; have HO247 := n6_; have HO252 := n7_; have HO255 := n8_; have HO259 := n9_; have HB := n10_; clear n0_ n1_ n2_ n3_ n4_ n5_ n6_ n7_ n8_ n9_ n10_; clear hb ho40; obtain ⟨Ao41, co41, eo41⟩ := Kd.R_slice HO227.out; subst eo41; obtain ⟨Ao42, co42, eo42⟩ := Kd.R_slice HO259.out; subst eo42) | ((with_reducible refine gqC (f := 36) rfl ?_); refine GS.gL (some 46) Try.func36 #[.slice Ao41 t224.length co41, .slice Ao42 y257.length co42] ?_; (with_reducible refine (slices_Equal_int_int.calls k _ _ t224 _ _ y257 true _ ?side1 ?side2 ?side3 ?side4 A13.out).mono ?_); (case side1 => repeat (first | exact (Kd.R_reads' HO227.out).2.2 | (with_reducible refine Kd.C_alloc ?_ _) | (with_reducible refine Kd.C_drewN ?_ _) | (with_reducible refine Kd.C_drew ?_))); (case side2 => exact (Kd.R_reads' HO227.out).2.1); (case side3 => repeat (first | exact (Kd.R_reads' HO259.out).2.2 | (with_reducible refine Kd.C_alloc ?_ _) | (with_reducible refine Kd.C_drewN ?_ _) | (with_reducible refine Kd.C_drew ?_))); (case side4 => exact (Kd.R_reads' HO259.out).2.1); rintro e w' ⟨rfl, ⟨nd, rfl⟩⟩; refine ⟨_, rfl, ?_⟩) | ((with_reducible refine gqD (N := 49) rfl ?_); (try (refine gate_guard (by rfl) ?_; dsimp only)); refine Kd.R_lit (Kd.int .i64) _ 3 ?hg (N := 49) ?hd (xs := ([8] : List Int)) (inner := [.int .i64 8]) (ok := fun _ => True) (okp := fun _ => True) ?hr ?hp (fun _ hk => hk) trivial (Below.refl _ _) (Nat.le_refl _) (by simp) ?_; (case hd => rfl); (case hg => rfl); (case hr => first | (go_simp; done) | (go_simp; rfl)); (case hp => exact (Reps.one (show Kd.M (Kd.int .i64) _ _ _ 8 [.int .i64 8] from rfl) (Reps.none _ _))); intro v262 w43 ho44 hb hg_ hnew_; clear hg_ hnew_; (first | rw [← Ny261.out] at ho44 | (simp only [Int.reduceToNat] at ho44; rw [← Ny261.out] at ho44)); have n0_ := Aside0.mk (Kd.R_below (GS.rR HO223.out) hb); have n1_ := Aside0.mk (Kd.R_elder' (GS.rR HO227.out) (Kd.R_base ho44) hb); have n2_ := Aside0.mk (Kd.R_below (GS.rR HO230.out) hb); have n3_ := Aside0.mk (Kd.R_elder' (GS.rR HO234.out) (Kd.R_base ho44) hb); have n4_ := Aside0.mk (Kd.R_below (GS.rR HO237.out) hb); have n5_ := Aside0.mk (Kd.R_below (GS.rR HO242.out) hb); have n6_ := Aside0.mk (Kd.R_below (GS.rR HO247.out) hb); have n7_ := Aside0.mk (Kd.R_below (GS.rR HO252.out) hb); have n8_ := Aside0.mk (Kd.R_below (GS.rR HO255.out) hb); have n9_ := Aside0.mk (Kd.R_elder' (GS.rR HO259.out) (Kd.R_base ho44) hb); have n10_ := Aside0.mk (Kd.R_lower (Kd.R_new' (Kd.R_new' (Kd.R_new' ho44 (Kd.R_lt (GS.rR HO227.out))) (Kd.R_lt (GS.rR HO234.out))) (Kd.R_lt (GS.rR HO259.out))) (lqZ (GS.lB HB.out))); have n11_ := Aside0.mk (lqT (GS.lB HB.out) hb); clear HO223; clear HO227; clear HO230; clear HO234; clear HO237; clear HO242; clear HO247; clear HO252; clear HO255; clear HO259; clear HB; have HO223 := n0_; have HO227 := n1_; have HO230 := n2_; have HO234 := n3_; have HO237 := n4_; have HO242 := n5_; have HO247 := n6_; have HO252 := n7_; have HO255 := n8_; have HO259 := n9_; have HO263 := n10_; have HB := n11_; clear n0_ n1_ n2_ n3_ n4_ n5_ n6_ n7_ n8_ n9_ n10_ n11_; clear hb ho44; obtain ⟨Ao45, co45, eo45⟩ := Kd.R_slice HO234.out; subst eo45; obtain ⟨Ao46, co46, eo46⟩ := Kd.R_slice HO263.out; subst eo46) | (go_at_call 36; (with_reducible refine (slices_Equal_int_int.calls k _ _ t231 _ _ y261 true _ ?side1 ?side2 ?side3 ?side4 A15.out).mono ?_); (case side1 => repeat (first | exact (Kd.R_reads' HO234.out).2.2 | (with_reducible refine Kd.C_alloc ?_ _) | (with_reducible refine Kd.C_drewN ?_ _) | (with_reducible refine Kd.C_drew ?_))); (case side2 => exact (Kd.R_reads' HO234.out).2.1); (case side3 => repeat (first | exact (Kd.R_reads' HO263.out).2.2 | (with_reducible refine Kd.C_alloc ?_ _) | (with_reducible refine Kd.C_drewN ?_ _) | (with_reducible refine Kd.C_drew ?_))); (case side4 => exact (Kd.R_reads' HO263.out).2.1); rintro e w' ⟨rfl, ⟨nd, rfl⟩⟩))
       go_ret
       exact ⟨by first | rfl | (simp [errW_none, errW_some] <;> rfl) | (simp [*, errW_none, errW_some] <;> rfl), GS.lB HB.out⟩
      ·rw [if_neg c20] at H
       exact absurd H (by simp)
     ·rw [if_neg c19] at H
      exact absurd H (by simp)
   ·replace c17 := Bool.eq_false_iff.mpr c17
    subst c17
    have H1 : (none) = some r := by rw [if_neg (show ¬ (false = true) by decide)] at H; exact H
    clear H
    have H := H1
    clear H1
    exact absurd H (by simp)
  ·replace c16 := Bool.eq_false_iff.mpr c16
   subst c16
   have H1 : (none) = some r := by rw [if_neg (show ¬ (false = true) by decide)] at H; exact H
   clear H
   have H := H1
   clear H1
   exact absurd H (by simp)
 ·replace c14 := Bool.eq_false_iff.mpr c14
  subst c14
  have H1 : (none) = some r := by rw [if_neg (show ¬ (false = true) by decide)] at H; exact H
  clear H
  have H := H1
  clear H1
  exact absurd H (by simp)

/-! ### spileref39_Few: function 11 -/
def spileref39_Few.f (l0 : List (S34)) : Option (Bool) := if (l0.length : Int) ≤ 20 then (some true) else (some ((l0.length : Int) == 129))
set_option maxHeartbeats 8000000 in
set_option maxRecDepth 100000 in
theorem spileref39_Few.calls (A0 : Option Addr) (c0 : Nat) (l0 : List (S34)) (r : Bool) (w : World) (hr0 : Kd.C k34 w A0 l0.length l0) (hc0 : l0.length ≤ c0) (h : spileref39_Few.f l0 = some r) :
  Calls Try.prog 11 #[.slice A0 l0.length c0] w fun e w' => e = .returned (.bool r) ∧ Drawn0 w w' := by
 have HR0 := Aside0.mk hr0
 have HC0 := Aside0.mk hc0
 clear hr0 hc0
 have H : (if (l0.length : Int) ≤ 20 then (some true) else (some ((l0.length : Int) == 129))) = some r := h
 clear h
 by_cases c2 : (l0.length : Int) ≤ 20
 ·rw [if_pos c2] at H
  have c2b0 : decide ((l0.length : Int) ≤ 20) = true := decide_eq_true c2
  have c2b1 : decide (l0.length ≤ 20) = true := decide_eq_true (by omega)
  clear c2
  obtain rfl := Option.some.inj H
  go_enter Try.func11, Try.ntmps11
  go_wp2
  go_ret
  exact ⟨by first | rfl | (simp; done) | (simp [*]; done), by repeat (first | exact Drawn0.refl _ | apply Drawn0.step)⟩
 ·rw [if_neg c2] at H
  have c2b0 : decide ((l0.length : Int) ≤ 20) = false := decide_eq_false c2
  have c2b1 : decide (l0.length ≤ 20) = false := decide_eq_false (by omega)
  clear c2
  obtain rfl := Option.some.inj H
  go_enter Try.func11, Try.ntmps11
  go_wp2
  go_ret
  exact ⟨by first | rfl | (simp; done) | (simp [*]; done), by repeat (first | exact Drawn0.refl _ | apply Drawn0.step)⟩

/-! ### spilelaw39_short: function 12 -/
def spilelaw39_short.f (a0_0 : Int) (a0_1 : Int) (a0_2 : Int) : Option (Bool) := if a0_2 ≤ a0_1 then (some true) else (if a0_1 < 0 then (some true) else (if a0_2 > 100000 then (some true) else (some (decide ((wrap64 (a0_2 - a0_1)) ≤ 60)))))
set_option maxHeartbeats 8000000 in
set_option maxRecDepth 100000 in
theorem spilelaw39_short.calls (a0_0 : Int) (a0_1 : Int) (a0_2 : Int) (r : Bool) (w : World) (h : spilelaw39_short.f a0_0 a0_1 a0_2 = some r) :
  Calls Try.prog 12 #[.agg #[.int .i64 a0_0, .int .i64 a0_1, .int .i64 a0_2]] w fun e w' => e = .returned (.bool r) ∧ Below w.heap.size w w' := by
 have hu24 := Try.underlying24
 have HB := Aside0.mk (Below.refl w.heap.size w)
 have H : (if a0_2 ≤ a0_1 then (some true) else (if a0_1 < 0 then (some true) else (if a0_2 > 100000 then (some true) else (some (decide ((wrap64 (a0_2 - a0_1)) ≤ 60)))))) = some r := h
 clear h
 by_cases c2 : a0_2 ≤ a0_1
 ·rw [if_pos c2] at H
  have c2b0 : decide (a0_2 ≤ a0_1) = true := decide_eq_true c2
  clear c2
  obtain rfl := Option.some.inj H
  go_enter Try.func12, Try.ntmps12
  go_wp2_with (first | ((with_reducible refine gqD (N := 1) rfl ?_); refine GS.bx (N := 1) (cs := #[.int .i64 a0_0, .int .i64 a0_1, .int .i64 a0_2]) (t := 24) ?_; intro gb265 hg w3 hbox hb; have n0_ := Aside0.mk (lqT (GS.lB HB.out) hb); have n1_ := Aside0.mk (hbox); have n2_ := Aside0.mk ((by rw [hg]; exact (lqZ (GS.lB HB.out)) : w.heap.size ≤ gb265)); have n3_ := Aside0.mk ((by rw [hg]; exact (lqZ (GS.lB HB.out)) : w.heap.size ≤ gb265)); clear HB; have HB := n0_; have BK265 := n1_; have GW265 := n2_; have GE265 := n3_; clear n0_ n1_ n2_ n3_; clear hb hbox hg; obtain ⟨hcz4_0, hcz4_1, hcz4_2, hfz4_0, hfz4_1, hfz4_2⟩ := GS.c3 BK265.out))
  go_ret
  exact ⟨by first | rfl | (simp [errW_none, errW_some] <;> rfl) | (simp [*, errW_none, errW_some] <;> rfl), GS.lB HB.out⟩
 ·rw [if_neg c2] at H
  have c2b0 : decide (a0_2 ≤ a0_1) = false := decide_eq_false c2
  clear c2
  by_cases c5 : a0_1 < 0
  ·rw [if_pos c5] at H
   have c5b0 : decide (a0_1 < 0) = true := decide_eq_true c5
   clear c5
   obtain rfl := Option.some.inj H
   go_enter Try.func12, Try.ntmps12
   go_wp2_with (first | ((with_reducible refine gqD (N := 1) rfl ?_); refine GS.bx (N := 1) (cs := #[.int .i64 a0_0, .int .i64 a0_1, .int .i64 a0_2]) (t := 24) ?_; intro gb265 hg w6 hbox hb; have n0_ := Aside0.mk (lqT (GS.lB HB.out) hb); have n1_ := Aside0.mk (hbox); have n2_ := Aside0.mk ((by rw [hg]; exact (lqZ (GS.lB HB.out)) : w.heap.size ≤ gb265)); have n3_ := Aside0.mk ((by rw [hg]; exact (lqZ (GS.lB HB.out)) : w.heap.size ≤ gb265)); clear HB; have HB := n0_; have BK265 := n1_; have GW265 := n2_; have GE265 := n3_; clear n0_ n1_ n2_ n3_; clear hb hbox hg; obtain ⟨hcz7_0, hcz7_1, hcz7_2, hfz7_0, hfz7_1, hfz7_2⟩ := GS.c3 BK265.out))
   go_ret
   exact ⟨by first | rfl | (simp [errW_none, errW_some] <;> rfl) | (simp [*, errW_none, errW_some] <;> rfl), GS.lB HB.out⟩
  ·rw [if_neg c5] at H
   have c5b0 : decide (a0_1 < 0) = false := decide_eq_false c5
   clear c5
   by_cases c8 : a0_2 > 100000
   ·rw [if_pos c8] at H
    have c8b0 : decide (100000 < a0_2) = true := decide_eq_true c8
    clear c8
    obtain rfl := Option.some.inj H
    go_enter Try.func12, Try.ntmps12
    go_wp2_with (first | ((with_reducible refine gqD (N := 1) rfl ?_); refine GS.bx (N := 1) (cs := #[.int .i64 a0_0, .int .i64 a0_1, .int .i64 a0_2]) (t := 24) ?_; intro gb265 hg w9 hbox hb; have n0_ := Aside0.mk (lqT (GS.lB HB.out) hb); have n1_ := Aside0.mk (hbox); have n2_ := Aside0.mk ((by rw [hg]; exact (lqZ (GS.lB HB.out)) : w.heap.size ≤ gb265)); have n3_ := Aside0.mk ((by rw [hg]; exact (lqZ (GS.lB HB.out)) : w.heap.size ≤ gb265)); clear HB; have HB := n0_; have BK265 := n1_; have GW265 := n2_; have GE265 := n3_; clear n0_ n1_ n2_ n3_; clear hb hbox hg; obtain ⟨hcz10_0, hcz10_1, hcz10_2, hfz10_0, hfz10_1, hfz10_2⟩ := GS.c3 BK265.out))
    go_ret
    exact ⟨by first | rfl | (simp [errW_none, errW_some] <;> rfl) | (simp [*, errW_none, errW_some] <;> rfl), GS.lB HB.out⟩
   ·rw [if_neg c8] at H
    have c8b0 : decide (100000 < a0_2) = false := decide_eq_false c8
    clear c8
    obtain rfl := Option.some.inj H
    go_enter Try.func12, Try.ntmps12
    go_wp2_with (first | ((with_reducible refine gqD (N := 1) rfl ?_); refine GS.bx (N := 1) (cs := #[.int .i64 a0_0, .int .i64 a0_1, .int .i64 a0_2]) (t := 24) ?_; intro gb265 hg w11 hbox hb; have n0_ := Aside0.mk (lqT (GS.lB HB.out) hb); have n1_ := Aside0.mk (hbox); have n2_ := Aside0.mk ((by rw [hg]; exact (lqZ (GS.lB HB.out)) : w.heap.size ≤ gb265)); have n3_ := Aside0.mk ((by rw [hg]; exact (lqZ (GS.lB HB.out)) : w.heap.size ≤ gb265)); clear HB; have HB := n0_; have BK265 := n1_; have GW265 := n2_; have GE265 := n3_; clear n0_ n1_ n2_ n3_; clear hb hbox hg; obtain ⟨hcz12_0, hcz12_1, hcz12_2, hfz12_0, hfz12_1, hfz12_2⟩ := GS.c3 BK265.out))
    go_ret
    exact ⟨by first | rfl | (simp [errW_none, errW_some] <;> rfl) | (simp [*, errW_none, errW_some] <;> rfl), GS.lB HB.out⟩

/-! ### spileref39_id: function 43 -/
def spileref39_id.f (a0 : Int) : Option (Bool) := if a0 ≥ 1 then (some (decide (a0 ≤ 1073741824))) else (some false)
set_option maxHeartbeats 8000000 in
set_option maxRecDepth 100000 in
theorem spileref39_id.calls (a0 : Int) (r : Bool) (w : World) (h : spileref39_id.f a0 = some r) :
  Calls Try.prog 43 #[.int .i64 a0] w fun e w' => e = .returned (.bool r) ∧ Drawn0 w w' := by
 have H : (if a0 ≥ 1 then (some (decide (a0 ≤ 1073741824))) else (some false)) = some r := h
 clear h
 by_cases c2 : a0 ≥ 1
 ·rw [if_pos c2] at H
  have c2b0 : decide (1 ≤ a0) = true := decide_eq_true c2
  clear c2
  obtain rfl := Option.some.inj H
  go_enter Try.func43, Try.ntmps43
  go_wp2
  go_ret
  exact ⟨by first | rfl | (simp; done) | (simp [*]; done), by repeat (first | exact Drawn0.refl _ | apply Drawn0.step)⟩
 ·rw [if_neg c2] at H
  have c2b0 : decide (1 ≤ a0) = false := decide_eq_false c2
  clear c2
  obtain rfl := Option.some.inj H
  go_enter Try.func43, Try.ntmps43
  go_wp2
  go_ret
  exact ⟨by first | rfl | (simp; done) | (simp [*]; done), by repeat (first | exact Drawn0.refl _ | apply Drawn0.step)⟩

end Go.Proofs.Ytfjenooajbdcmaa.K
