import Derived.Test.YtefjmcljkmppoaaK0
import Derived.Test.YtefjmcljkmppoaaGPu
import Derived.Test.YtefjmcljkmppoaaGShort
import Derived.Test.YtefjmcljkmppoaaGSym
import Derived.Test.YtefjmcljkmppoaaK4
namespace Go.Proofs.Ytefjmcljkmppoaa.K
open Go.RowKit Go.Proofs.YtefjmcljkmppoaaW.PrintWords Go.Proofs.YtefjmcljkmppoaaW.PrintLast Go.Proofs.YtefjmcljkmppoaaW.PrintMore
attribute [local go_sem] max2_int min2_int max_two min_two max_three min_three max_four min_four   -- for this text's walks alone
set_option linter.unusedVariables false
set_option linter.unusedSimpArgs false
def segment_circle_strip.f (k : Nat) (a0_0 : Int) (a0_1 : Int) (a1 : Int) (a2 : Int) : Option (Int × Int) := (segment_circle_chord.f k a0_0 a0_1 a1).bind fun bt136 => ((segment_circle_chord.f k a0_0 a0_1 a2).bind fun bt138 => (if a1 ≤ a0_1 then (if a0_1 ≤ a2 then (some (wrap64 ((wrap64 (a2 - a1)) * (mn bt136.1 bt138.1)), wrap64 ((wrap64 (a2 - a1)) * (wrap64 (2 * a0_0))))) else (some (wrap64 ((wrap64 (a2 - a1)) * (mn bt136.1 bt138.1)), wrap64 ((wrap64 (a2 - a1)) * (mx bt136.2 bt138.2))))) else (some (wrap64 ((wrap64 (a2 - a1)) * (mn bt136.1 bt138.1)), wrap64 ((wrap64 (a2 - a1)) * (mx bt136.2 bt138.2))))))
def segment_circle_strip.T1 : Bool × List (List Nat × List Nat) := (true, [([], []), ([], []), ([0, 1], [0, 1]), ([], []), ([], []), ([3, 4, 2], [3, 4]), ([], []), ([], []), ([6, 2, 5, 0, 1, 2, 6, 7], [2, 6]), ([7, 5, 8, 0, 1, 2, 3, 4, 5, 6, 7, 8], [5, 7])])
def segment_circle_strip.B1 : List Nat := [0, 0, 3, 0, 0, 31, 0, 0, 255, 511]
theorem segment_circle_strip.tab1 : rtab .any (opsOf Try.f61 1) = segment_circle_strip.T1 := by kernel_rfl
theorem segment_circle_strip.bits1 : waitsOk segment_circle_strip.T1.2 segment_circle_strip.B1 = true := by kernel_rfl
set_option maxHeartbeats 8000000 in
set_option maxRecDepth 100000 in
theorem segment_circle_strip.calls (k : Nat) (a0_0 : Int) (a0_1 : Int) (a1 : Int) (a2 : Int) (r1 : Int) (r2 : Int) (w : World) (h : segment_circle_strip.f k a0_0 a0_1 a1 a2 = some (r1, r2)) :
  Calls Try.prog 61 #[.agg #[.int .i64 a0_0, .int .i64 a0_1], .int .i64 a1, .int .i64 a2] w fun e w' => e = .returned (.agg #[.int .i64 r1, .int .i64 r2]) ∧ Below w.heap.size w w' := by
 have hu86 := Try.underlying86
 have hu28 := Try.underlying28
 have HB := Aside0.mk (Below.refl w.heap.size w)
 have H : ((segment_circle_chord.f k a0_0 a0_1 a1).bind fun bt136 => ((segment_circle_chord.f k a0_0 a0_1 a2).bind fun bt138 => (if a1 ≤ a0_1 then (if a0_1 ≤ a2 then (some (wrap64 ((wrap64 (a2 - a1)) * (mn bt136.1 bt138.1)), wrap64 ((wrap64 (a2 - a1)) * (wrap64 (2 * a0_0))))) else (some (wrap64 ((wrap64 (a2 - a1)) * (mn bt136.1 bt138.1)), wrap64 ((wrap64 (a2 - a1)) * (mx bt136.2 bt138.2))))) else (some (wrap64 ((wrap64 (a2 - a1)) * (mn bt136.1 bt138.1)), wrap64 ((wrap64 (a2 - a1)) * (mx bt136.2 bt138.2))))))) = some (r1, r2) := h
 clear h
 replace H := Option.bind_eq_some_iff.mp H
 obtain ⟨⟨t136, t137⟩, A40, H⟩ := H
 try (set_option simprocs false in dsimp only at H)
 have A4 := Aside0.mk A40
 clear A40
 replace H := Option.bind_eq_some_iff.mp H
 obtain ⟨⟨t138, t139⟩, A50, H⟩ := H
 try (set_option simprocs false in dsimp only at H)
 have A5 := Aside0.mk A50
 clear A50
 obtain ⟨ji6, hji6⟩ : ∃ j_ : Int, (mx t137 t139) = j_ := ⟨_, rfl⟩
 replace H : (if a1 ≤ a0_1 then (if a0_1 ≤ a2 then (some (wrap64 ((wrap64 (a2 - a1)) * (mn t136 t138)), wrap64 ((wrap64 (a2 - a1)) * (wrap64 (2 * a0_0))))) else (some (wrap64 ((wrap64 (a2 - a1)) * (mn t136 t138)), wrap64 ((wrap64 (a2 - a1)) * (ji6))))) else (some (wrap64 ((wrap64 (a2 - a1)) * (mn t136 t138)), wrap64 ((wrap64 (a2 - a1)) * (ji6))))) = some (r1, r2) := by first | (rw [hji6] at H; exact H) | (simp only [hji6] at H ⊢; exact H)
 have hji6_ : (if t137 < t139 then t139 else t137) = ji6 := hji6
 obtain ⟨ji9, hji9⟩ : ∃ j_ : Int, (mn t136 t138) = j_ := ⟨_, rfl⟩
 have hji9_ : (if t138 < t136 then t138 else t136) = ji9 := hji9
 replace H := Aside0.mk H
 go_enter Try.func61, Try.ntmps61
 try go_wp2_with (first | ((with_reducible refine gqD (N := 3) rfl ?_); refine GS.bx (N := 3) (cs := #[.int .i64 a0_0, .int .i64 a0_1]) (t := 86) ?_; intro gb134 hg w10 hbox hb; have q_ := GS.q4 (GS.kH HB hb) (Aside0.mk hbox) (GS.kZ hg HB) (GS.kZ hg HB); clear HB; obtain ⟨HB, BK134, GW134, GE134⟩ := q_; clear hb hbox hg) | ((with_reducible refine gqD (N := 6) rfl ?_); refine GS.bx (N := 6) (cs := #[.int .i64 0, .int .i64 0]) (t := 28) ?_; intro gb135 hg w11 hbox hb; have q_ := GS.q7 (GS.kB BK134 hb) (GS.kH HB hb) (Aside0.mk hbox) (GS.kZ hg HB) (GS.kZ hg HB) (Aside0.mk ((by rw [hg]; exact Nat.ne_of_lt (blk_lt (GS.bqX BK134.out)) : gb134 ≠ gb135))) (Aside0.mk ((by rw [hg]; exact Nat.ne_of_gt (blk_lt (GS.bqX BK134.out)) : gb135 ≠ gb134))); clear BK134 HB; obtain ⟨BK134, HB, BK135, GW135, GE135, NB134_135, NB135_134⟩ := q_; clear hb hbox hg))
 have q_ := GS.q3 (Aside0.mk (bqD BK134.out)) (Aside0.mk (bqD BK135.out)) (Aside0.mk (lqD HB.out))
 clear BK134 BK135 HB
 obtain ⟨BK134, BK135, HB⟩ := q_
 refine start_ (n := 10) (S := fun w' => True) (ds := []) #[false, false, false, false, false, false, false, false, false, false] (by kernel_rfl) rfl rfl trivial (fun hHeld => ?_); refine with_tabW segment_circle_strip.tab1 segment_circle_strip.bits1 (fun HT_ HW_ => ?_)
 generalize w11.drew = w12 at BK134 BK135 HB hHeld ⊢
 refine GS.pu 1 (some 11) HT_.out ?_
 refine GS.pu 4 (some 14) HT_.out ?_
 refine inv_at [0, 2, 3, 5, 6, 7, 8, 9] (fun a0_ b a w' => ∃ (gb140 : Nat) (gb141 : Nat) (m6_ : Value) (m7_ : Value), a = putSel a0_ b [(0, 10, .agg #[.int .i64 a0_0, .int .i64 a0_1]), (2, 12, .agg #[.int .i64 t136, .int .i64 t137]), (3, 13, .agg #[.int .i64 a0_0, .int .i64 a0_1]), (5, 15, .agg #[.int .i64 t138, .int .i64 t139]), (6, 7, m6_), (7, 8, m7_)] ∧ (w'.heap[gb134]? = some (.cells #[.int .i64 a0_0, .int .i64 a0_1] 86 (0, 0))) ∧ (w'.heap[gb135]? = some (.cells #[.int .i64 0, .int .i64 0] 28 (0, 0))) ∧ (Below w.heap.size w w') ∧ (b 6 = true → b 7 = true → gb141 ≠ gb140) ∧ (b 6 = true → b 7 = true → gb140 ≠ gb141) ∧ (b 6 = true → b 8 = false → w'.heap[gb140]? = some (.cells #[.int .i64 0, .int .i64 0] 28 (0, 0))) ∧ (b 6 = true → w.heap.size ≤ gb140) ∧ (b 6 = true → w.heap.size ≤ gb140) ∧ (b 6 = true → gb134 ≠ gb140) ∧ (b 6 = true → gb140 ≠ gb134) ∧ (b 6 = true → gb135 ≠ gb140) ∧ (b 6 = true → gb140 ≠ gb135) ∧ (b 7 = true → b 9 = false → w'.heap[gb141]? = some (.cells #[.int .i64 0, .int .i64 0] 28 (0, 0))) ∧ (b 7 = true → w.heap.size ≤ gb141) ∧ (b 7 = true → w.heap.size ≤ gb141) ∧ (b 7 = true → gb134 ≠ gb141) ∧ (b 7 = true → gb141 ≠ gb134) ∧ (b 7 = true → gb135 ≠ gb141) ∧ (b 7 = true → gb141 ≠ gb135) ∧ (b 8 = true → w'.heap[gb140]? = some (.cells #[.int .i64 t136, .int .i64 t137] 28 (0, 0))) ∧ (b 9 = true → w'.heap[gb141]? = some (.cells #[.int .i64 t138, .int .i64 t139] 28 (0, 0))) ∧ (b 6 = true → (m6_ : Value) = .pointer (some ⟨gb140, 0, none⟩)) ∧ (b 7 = true → (m7_ : Value) = .pointer (some ⟨gb141, 0, none⟩))) HT_.out HW_.out (by kernel_rfl) (by kernel_rfl) ?_ ?_ ?_
 ·exact ⟨0, 0, .bool false, .bool false, by simp only [putSel, Bool.false_eq_true, if_false], BK134.out, BK135.out, HB.out, fun h_ => absurd h_ (by decide), fun h_ => absurd h_ (by decide), fun h_ => absurd h_ (by decide), fun h_ => absurd h_ (by decide), fun h_ => absurd h_ (by decide), fun h_ => absurd h_ (by decide), fun h_ => absurd h_ (by decide), fun h_ => absurd h_ (by decide), fun h_ => absurd h_ (by decide), fun h_ => absurd h_ (by decide), fun h_ => absurd h_ (by decide), fun h_ => absurd h_ (by decide), fun h_ => absurd h_ (by decide), fun h_ => absurd h_ (by decide), fun h_ => absurd h_ (by decide), fun h_ => absurd h_ (by decide), fun h_ => absurd h_ (by decide), fun h_ => absurd h_ (by decide), fun h_ => absurd h_ (by decide), fun h_ => absurd h_ (by decide)⟩
 ·skip
  clear BK134 BK135 HB
  refine steps_cons ?_ ?_
  ·rintro b a w' ⟨gb140, gb141, m6_, m7_, ha, Q_BK134, Q_BK135, Q_HB, Q_NB141_140, Q_NB140_141, Q_BK140, Q_GW140, Q_GE140, Q_NB134_140, Q_NB140_134, Q_NB135_140, Q_NB140_135, Q_BK141, Q_GW141, Q_GE141, Q_NB134_141, Q_NB141_134, Q_NB135_141, Q_NB141_135, Q_BK140_e8, Q_BK141_e9, Q_X6_, Q_X7_⟩ hb_ hon hoff
   refine ⟨_, rfl, fun K hK => ?_⟩
   have e3 : a.tmps[3]? = some (.pointer (some ⟨gb134, 0, none⟩)) := by rw [ha]; exact (putSel_off rfl).trans rfl
   replace ha := Aside0.mk ha
   have BK134 := Aside0.mk Q_BK134
   have BK135 := Aside0.mk Q_BK135
   have HB := Aside0.mk Q_HB
   have hc0_ : w'.cell? ⟨gb134, 0, none⟩ = some (.int .i64 a0_0) := (bqC BK134.out 0).trans rfl
   have hc1_ : w'.cell? ⟨gb134, 1, none⟩ = some (.int .i64 a0_1) := (bqC BK134.out 1).trans rfl
   refine value_ (w1 := w') (v := .agg #[.int .i64 a0_0, .int .i64 a0_1]) (by rfl) rfl ?_ ?_
   ·go_simp
    (try simp only [i64_w])
    try rfl
   refine hK.out _ _ ⟨gb140, gb141, m6_, m7_, (by rw [ha.out]; exact putSel_upk 0 hb_ rfl rfl rfl), Q_BK134, Q_BK135, Q_HB, Q_NB141_140, Q_NB140_141, Q_BK140, Q_GW140, Q_GE140, Q_NB134_140, Q_NB140_134, Q_NB135_140, Q_NB140_135, Q_BK141, Q_GW141, Q_GE141, Q_NB134_141, Q_NB141_134, Q_NB135_141, Q_NB141_135, fun h0_ => absurd ((hoff 8 (by kernel_rfl)).symm.trans h0_) (by decide), fun h0_ => absurd ((hoff 9 (by kernel_rfl)).symm.trans h0_) (by decide), Q_X6_, Q_X7_⟩
  refine steps_cons ?_ ?_
  ·rintro b a w' ⟨gb140, gb141, m6_, m7_, ha, Q_BK134, Q_BK135, Q_HB, Q_NB141_140, Q_NB140_141, Q_BK140, Q_GW140, Q_GE140, Q_NB134_140, Q_NB140_134, Q_NB135_140, Q_NB140_135, Q_BK141, Q_GW141, Q_GE141, Q_NB134_141, Q_NB141_134, Q_NB135_141, Q_NB141_135, Q_BK140_e8, Q_BK141_e9, Q_X6_, Q_X7_⟩ hb_ hon hoff
   refine ⟨_, rfl, fun K hK => ?_⟩
   have e10 : a.tmps[10]? = some (.agg #[.int .i64 a0_0, .int .i64 a0_1]) := by rw [ha]; exact putSel_on (e := (0, 10, .agg #[.int .i64 a0_0, .int .i64 a0_1])) 0 rfl rfl (hon 0 (by kernel_rfl)) rfl
   have e11 : a.tmps[11]? = some (.int .i64 a1) := by rw [ha]; exact (putSel_off rfl).trans rfl
   replace ha := Aside0.mk ha
   have BK134 := Aside0.mk Q_BK134
   have BK135 := Aside0.mk Q_BK135
   have HB := Aside0.mk Q_HB
   refine goes_ Try.func88 (by kernel_rfl) rfl #[.agg #[.int .i64 a0_0, .int .i64 a0_1], .int .i64 a1] (by rfl) rfl rfl (by first | (simp only [List.map_toArray, List.map_cons, List.map_nil, Act.eval, Array.getD_eq_getD_getElem?, Option.getD_some, e10, e11]; done) | (simp only [List.map_toArray, List.map_cons, List.map_nil, Act.eval, Array.getD_eq_getD_getElem?, Option.getD_some, e10, e11]; rfl)) ?_
   with_reducible refine (segment_circle_chord.calls k a0_0 a0_1 a1 t136 t137 _ A4.out).mono ?_
   rintro e w13 ⟨rfl, hb⟩
   refine ⟨_, rfl, ?_⟩
   have n0_ := Aside0.mk (bqB (GS.bqX BK134.out) hb)
   have n1_ := Aside0.mk (bqB (GS.bqX BK135.out) hb)
   have n2_ := Aside0.mk (lqT (GS.lB HB.out) hb)
   have z_BK140 := fun (h0_ : b 6 = true) (h1_ : b 8 = false) => (show w13.heap[gb140]? = some (.cells #[.int .i64 0, .int .i64 0] 28 (0, 0)) from by first | exact (bqB (GS.bqX (Q_BK140 h0_ h1_)) hb))
   have z_BK141 := fun (h0_ : b 7 = true) (h1_ : b 9 = false) => (show w13.heap[gb141]? = some (.cells #[.int .i64 0, .int .i64 0] 28 (0, 0)) from by first | exact (bqB (GS.bqX (Q_BK141 h0_ h1_)) hb))
   clear BK134
   clear BK135
   clear HB
   have BK134 := n0_
   have BK135 := n1_
   have HB := n2_
   clear n0_ n1_ n2_
   (try clear hb)
   refine hK.out _ _ ⟨gb140, gb141, m6_, m7_, (by rw [ha.out]; exact putSel_upk 1 hb_ rfl rfl rfl), (GS.bqX BK134.out), (GS.bqX BK135.out), (GS.lB HB.out), Q_NB141_140, Q_NB140_141, z_BK140, Q_GW140, Q_GE140, Q_NB134_140, Q_NB140_134, Q_NB135_140, Q_NB140_135, z_BK141, Q_GW141, Q_GE141, Q_NB134_141, Q_NB141_134, Q_NB135_141, Q_NB141_135, fun h0_ => absurd ((hoff 8 (by kernel_rfl)).symm.trans h0_) (by decide), fun h0_ => absurd ((hoff 9 (by kernel_rfl)).symm.trans h0_) (by decide), Q_X6_, Q_X7_⟩
  refine steps_cons ?_ ?_
  ·rintro b a w' ⟨gb140, gb141, m6_, m7_, ha, Q_BK134, Q_BK135, Q_HB, Q_NB141_140, Q_NB140_141, Q_BK140, Q_GW140, Q_GE140, Q_NB134_140, Q_NB140_134, Q_NB135_140, Q_NB140_135, Q_BK141, Q_GW141, Q_GE141, Q_NB134_141, Q_NB141_134, Q_NB135_141, Q_NB141_135, Q_BK140_e8, Q_BK141_e9, Q_X6_, Q_X7_⟩ hb_ hon hoff
   refine ⟨_, rfl, fun K hK => ?_⟩
   have e3 : a.tmps[3]? = some (.pointer (some ⟨gb134, 0, none⟩)) := by rw [ha]; exact (putSel_off rfl).trans rfl
   replace ha := Aside0.mk ha
   have BK134 := Aside0.mk Q_BK134
   have BK135 := Aside0.mk Q_BK135
   have HB := Aside0.mk Q_HB
   have hc0_ : w'.cell? ⟨gb134, 0, none⟩ = some (.int .i64 a0_0) := (bqC BK134.out 0).trans rfl
   have hc1_ : w'.cell? ⟨gb134, 1, none⟩ = some (.int .i64 a0_1) := (bqC BK134.out 1).trans rfl
   refine value_ (w1 := w') (v := .agg #[.int .i64 a0_0, .int .i64 a0_1]) (by rfl) rfl ?_ ?_
   ·go_simp
    (try simp only [i64_w])
    try rfl
   refine hK.out _ _ ⟨gb140, gb141, m6_, m7_, (by rw [ha.out]; exact putSel_upk 2 hb_ rfl rfl rfl), Q_BK134, Q_BK135, Q_HB, Q_NB141_140, Q_NB140_141, Q_BK140, Q_GW140, Q_GE140, Q_NB134_140, Q_NB140_134, Q_NB135_140, Q_NB140_135, Q_BK141, Q_GW141, Q_GE141, Q_NB134_141, Q_NB141_134, Q_NB135_141, Q_NB141_135, fun h0_ => absurd ((hoff 8 (by kernel_rfl)).symm.trans h0_) (by decide), fun h0_ => absurd ((hoff 9 (by kernel_rfl)).symm.trans h0_) (by decide), Q_X6_, Q_X7_⟩
  refine steps_cons ?_ ?_
  ·rintro b a w' ⟨gb140, gb141, m6_, m7_, ha, Q_BK134, Q_BK135, Q_HB, Q_NB141_140, Q_NB140_141, Q_BK140, Q_GW140, Q_GE140, Q_NB134_140, Q_NB140_134, Q_NB135_140, Q_NB140_135, Q_BK141, Q_GW141, Q_GE141, Q_NB134_141, Q_NB141_134, Q_NB135_141, Q_NB141_135, Q_BK140_e8, Q_BK141_e9, Q_X6_, Q_X7_⟩ hb_ hon hoff
   refine ⟨_, rfl, fun K hK => ?_⟩
   have e13 : a.tmps[13]? = some (.agg #[.int .i64 a0_0, .int .i64 a0_1]) := by rw [ha]; exact putSel_on (e := (3, 13, .agg #[.int .i64 a0_0, .int .i64 a0_1])) 2 rfl rfl (hon 3 (by kernel_rfl)) rfl
   have e14 : a.tmps[14]? = some (.int .i64 a2) := by rw [ha]; exact (putSel_off rfl).trans rfl
   replace ha := Aside0.mk ha
   have BK134 := Aside0.mk Q_BK134
   have BK135 := Aside0.mk Q_BK135
   have HB := Aside0.mk Q_HB
   refine goes_ Try.func88 (by kernel_rfl) rfl #[.agg #[.int .i64 a0_0, .int .i64 a0_1], .int .i64 a2] (by rfl) rfl rfl (by first | (simp only [List.map_toArray, List.map_cons, List.map_nil, Act.eval, Array.getD_eq_getD_getElem?, Option.getD_some, e13, e14]; done) | (simp only [List.map_toArray, List.map_cons, List.map_nil, Act.eval, Array.getD_eq_getD_getElem?, Option.getD_some, e13, e14]; rfl)) ?_
   with_reducible refine (segment_circle_chord.calls k a0_0 a0_1 a2 t138 t139 _ A5.out).mono ?_
   rintro e w15 ⟨rfl, hb⟩
   refine ⟨_, rfl, ?_⟩
   have n0_ := Aside0.mk (bqB (GS.bqX BK134.out) hb)
   have n1_ := Aside0.mk (bqB (GS.bqX BK135.out) hb)
   have n2_ := Aside0.mk (lqT (GS.lB HB.out) hb)
   have z_BK140 := fun (h0_ : b 6 = true) (h1_ : b 8 = false) => (show w15.heap[gb140]? = some (.cells #[.int .i64 0, .int .i64 0] 28 (0, 0)) from by first | exact (bqB (GS.bqX (Q_BK140 h0_ h1_)) hb))
   have z_BK141 := fun (h0_ : b 7 = true) (h1_ : b 9 = false) => (show w15.heap[gb141]? = some (.cells #[.int .i64 0, .int .i64 0] 28 (0, 0)) from by first | exact (bqB (GS.bqX (Q_BK141 h0_ h1_)) hb))
   clear BK134
   clear BK135
   clear HB
   have BK134 := n0_
   have BK135 := n1_
   have HB := n2_
   clear n0_ n1_ n2_
   (try clear hb)
   refine hK.out _ _ ⟨gb140, gb141, m6_, m7_, (by rw [ha.out]; exact putSel_upk 3 hb_ rfl rfl rfl), (GS.bqX BK134.out), (GS.bqX BK135.out), (GS.lB HB.out), Q_NB141_140, Q_NB140_141, z_BK140, Q_GW140, Q_GE140, Q_NB134_140, Q_NB140_134, Q_NB135_140, Q_NB140_135, z_BK141, Q_GW141, Q_GE141, Q_NB134_141, Q_NB141_134, Q_NB135_141, Q_NB141_135, fun h0_ => absurd ((hoff 8 (by kernel_rfl)).symm.trans h0_) (by decide), fun h0_ => absurd ((hoff 9 (by kernel_rfl)).symm.trans h0_) (by decide), Q_X6_, Q_X7_⟩
  refine steps_cons ?_ ?_
  ·rintro b a w' ⟨gb140, gb141, m6_, m7_, ha, Q_BK134, Q_BK135, Q_HB, Q_NB141_140, Q_NB140_141, Q_BK140, Q_GW140, Q_GE140, Q_NB134_140, Q_NB140_134, Q_NB135_140, Q_NB140_135, Q_BK141, Q_GW141, Q_GE141, Q_NB134_141, Q_NB141_134, Q_NB135_141, Q_NB141_135, Q_BK140_e8, Q_BK141_e9, Q_X6_, Q_X7_⟩ hb_ hon hoff
   refine ⟨_, rfl, fun K hK => ?_⟩
   replace ha := Aside0.mk ha
   have BK134 := Aside0.mk Q_BK134
   have BK135 := Aside0.mk Q_BK135
   have HB := Aside0.mk Q_HB
   refine box_step ?hg (N := 7) ?hd (cs := #[.int .i64 0, .int .i64 0]) (t := 28) ?hr ?_; (case hd => rfl); (case hg => rfl); (case hr => first | (go_simp; done) | (go_simp; rfl))
   intro gb140 hg w13 hbox hb
   have n0_ := Aside0.mk (bqB (GS.bqX BK134.out) hb)
   have n1_ := Aside0.mk (bqB (GS.bqX BK135.out) hb)
   have n2_ := Aside0.mk (lqT (GS.lB HB.out) hb)
   have n3_ := Aside0.mk (hbox)
   have n4_ := Aside0.mk ((by rw [hg]; exact (lqZ (GS.lB HB.out)) : w.heap.size ≤ gb140))
   have n5_ := Aside0.mk ((by rw [hg]; exact (lqZ (GS.lB HB.out)) : w.heap.size ≤ gb140))
   have n6_ := Aside0.mk ((by rw [hg]; exact Nat.ne_of_lt (blk_lt (GS.bqX BK134.out)) : gb134 ≠ gb140))
   have n7_ := Aside0.mk ((by rw [hg]; exact Nat.ne_of_gt (blk_lt (GS.bqX BK134.out)) : gb140 ≠ gb134))
   have n8_ := Aside0.mk ((by rw [hg]; exact Nat.ne_of_lt (blk_lt (GS.bqX BK135.out)) : gb135 ≠ gb140))
   have n9_ := Aside0.mk ((by rw [hg]; exact Nat.ne_of_gt (blk_lt (GS.bqX BK135.out)) : gb140 ≠ gb135))
   have z_NB141_140 := fun (h0_ : up b 6 6 = true) (h1_ : up b 6 7 = true) => (show gb141 ≠ gb140 from ((by rw [hg]; exact Nat.ne_of_lt (blk_lt (GS.bqX (Q_BK141 h1_ (hoff 9 (by kernel_rfl))))) : gb141 ≠ gb140)))
   have z_NB140_141 := fun (h0_ : up b 6 6 = true) (h1_ : up b 6 7 = true) => (show gb140 ≠ gb141 from ((by rw [hg]; exact Nat.ne_of_gt (blk_lt (GS.bqX (Q_BK141 h1_ (hoff 9 (by kernel_rfl))))) : gb140 ≠ gb141)))
   have z_BK141 := fun (h0_ : b 7 = true) (h1_ : b 9 = false) => (show w13.heap[gb141]? = some (.cells #[.int .i64 0, .int .i64 0] 28 (0, 0)) from by first | exact (bqB (GS.bqX (Q_BK141 h0_ h1_)) hb))
   clear BK134
   clear BK135
   clear HB
   have BK134 := n0_
   have BK135 := n1_
   have HB := n2_
   have BK140 := n3_
   have GW140 := n4_
   have GE140 := n5_
   have NB134_140 := n6_
   have NB140_134 := n7_
   have NB135_140 := n8_
   have NB140_135 := n9_
   clear n0_ n1_ n2_ n3_ n4_ n5_ n6_ n7_ n8_ n9_
   clear hb hbox hg
   refine hK.out _ _ ⟨gb140, gb141, (.pointer (some ⟨gb140, 0, none⟩)), m7_, (by rw [ha.out]; exact putSel_upk 4 hb_ rfl rfl rfl), (GS.bqX BK134.out), (GS.bqX BK135.out), (GS.lB HB.out), z_NB141_140, z_NB140_141, fun _ _ => (GS.bqX BK140.out), fun _ => GW140.out, fun _ => GE140.out, fun _ => NB134_140.out, fun _ => NB140_134.out, fun _ => NB135_140.out, fun _ => NB140_135.out, z_BK141, Q_GW141, Q_GE141, Q_NB134_141, Q_NB141_134, Q_NB135_141, Q_NB141_135, fun h0_ => absurd ((hoff 8 (by kernel_rfl)).symm.trans h0_) (by decide), fun h0_ => absurd ((hoff 9 (by kernel_rfl)).symm.trans h0_) (by decide), fun _ => rfl, Q_X7_⟩
  refine steps_cons ?_ ?_
  ·rintro b a w' ⟨gb140, gb141, m6_, m7_, ha, Q_BK134, Q_BK135, Q_HB, Q_NB141_140, Q_NB140_141, Q_BK140, Q_GW140, Q_GE140, Q_NB134_140, Q_NB140_134, Q_NB135_140, Q_NB140_135, Q_BK141, Q_GW141, Q_GE141, Q_NB134_141, Q_NB141_134, Q_NB135_141, Q_NB141_135, Q_BK140_e8, Q_BK141_e9, Q_X6_, Q_X7_⟩ hb_ hon hoff
   refine ⟨_, rfl, fun K hK => ?_⟩
   replace ha := Aside0.mk ha
   have BK134 := Aside0.mk Q_BK134
   have BK135 := Aside0.mk Q_BK135
   have HB := Aside0.mk Q_HB
   refine box_step ?hg (N := 8) ?hd (cs := #[.int .i64 0, .int .i64 0]) (t := 28) ?hr ?_; (case hd => rfl); (case hg => rfl); (case hr => first | (go_simp; done) | (go_simp; rfl))
   intro gb141 hg w13 hbox hb
   have n0_ := Aside0.mk (bqB (GS.bqX BK134.out) hb)
   have n1_ := Aside0.mk (bqB (GS.bqX BK135.out) hb)
   have n2_ := Aside0.mk (lqT (GS.lB HB.out) hb)
   have n3_ := Aside0.mk (hbox)
   have n4_ := Aside0.mk ((by rw [hg]; exact (lqZ (GS.lB HB.out)) : w.heap.size ≤ gb141))
   have n5_ := Aside0.mk ((by rw [hg]; exact (lqZ (GS.lB HB.out)) : w.heap.size ≤ gb141))
   have n6_ := Aside0.mk ((by rw [hg]; exact Nat.ne_of_lt (blk_lt (GS.bqX BK134.out)) : gb134 ≠ gb141))
   have n7_ := Aside0.mk ((by rw [hg]; exact Nat.ne_of_gt (blk_lt (GS.bqX BK134.out)) : gb141 ≠ gb134))
   have n8_ := Aside0.mk ((by rw [hg]; exact Nat.ne_of_lt (blk_lt (GS.bqX BK135.out)) : gb135 ≠ gb141))
   have n9_ := Aside0.mk ((by rw [hg]; exact Nat.ne_of_gt (blk_lt (GS.bqX BK135.out)) : gb141 ≠ gb135))
   have z_NB141_140 := fun (h0_ : up b 7 6 = true) (h1_ : up b 7 7 = true) => (show gb141 ≠ gb140 from ((by rw [hg]; exact Nat.ne_of_gt (blk_lt (GS.bqX (Q_BK140 h0_ (hoff 8 (by kernel_rfl))))) : gb141 ≠ gb140)))
   have z_NB140_141 := fun (h0_ : up b 7 6 = true) (h1_ : up b 7 7 = true) => (show gb140 ≠ gb141 from ((by rw [hg]; exact Nat.ne_of_lt (blk_lt (GS.bqX (Q_BK140 h0_ (hoff 8 (by kernel_rfl))))) : gb140 ≠ gb141)))
   have z_BK140 := fun (h0_ : b 6 = true) (h1_ : b 8 = false) => (show w13.heap[gb140]? = some (.cells #[.int .i64 0, .int .i64 0] 28 (0, 0)) from by first | exact (bqB (GS.bqX (Q_BK140 h0_ h1_)) hb))
   clear BK134
   clear BK135
   clear HB
   have BK134 := n0_
   have BK135 := n1_
   have HB := n2_
   have BK141 := n3_
   have GW141 := n4_
   have GE141 := n5_
   have NB134_141 := n6_
   have NB141_134 := n7_
   have NB135_141 := n8_
   have NB141_135 := n9_
   clear n0_ n1_ n2_ n3_ n4_ n5_ n6_ n7_ n8_ n9_
   clear hb hbox hg
   refine hK.out _ _ ⟨gb140, gb141, m6_, (.pointer (some ⟨gb141, 0, none⟩)), (by rw [ha.out]; exact putSel_upk 5 hb_ rfl rfl rfl), (GS.bqX BK134.out), (GS.bqX BK135.out), (GS.lB HB.out), z_NB141_140, z_NB140_141, z_BK140, Q_GW140, Q_GE140, Q_NB134_140, Q_NB140_134, Q_NB135_140, Q_NB140_135, fun _ _ => (GS.bqX BK141.out), fun _ => GW141.out, fun _ => GE141.out, fun _ => NB134_141.out, fun _ => NB141_134.out, fun _ => NB135_141.out, fun _ => NB141_135.out, fun h0_ => absurd ((hoff 8 (by kernel_rfl)).symm.trans h0_) (by decide), fun h0_ => absurd ((hoff 9 (by kernel_rfl)).symm.trans h0_) (by decide), Q_X6_, fun _ => rfl⟩
  refine steps_cons ?_ ?_
  ·rintro b a w' ⟨gb140, gb141, m6_, m7_, ha, Q_BK134, Q_BK135, Q_HB, Q_NB141_140, Q_NB140_141, Q_BK140, Q_GW140, Q_GE140, Q_NB134_140, Q_NB140_134, Q_NB135_140, Q_NB140_135, Q_BK141, Q_GW141, Q_GE141, Q_NB134_141, Q_NB141_134, Q_NB135_141, Q_NB141_135, Q_BK140_e8, Q_BK141_e9, Q_X6_, Q_X7_⟩ hb_ hon hoff
   refine ⟨_, rfl, fun K hK => ?_⟩
   have e7 : a.tmps[7]? = some (m6_) := by rw [ha]; exact putSel_on (e := (6, 7, m6_)) 4 rfl rfl (hon 6 (by kernel_rfl)) rfl
   rw [Q_X6_ (hon 6 (by kernel_rfl))] at e7
   have e12 : a.tmps[12]? = some (.agg #[.int .i64 t136, .int .i64 t137]) := by rw [ha]; exact putSel_on (e := (2, 12, .agg #[.int .i64 t136, .int .i64 t137])) 1 rfl rfl (hon 2 (by kernel_rfl)) rfl
   replace ha := Aside0.mk ha
   have BK134 := Aside0.mk Q_BK134
   have BK135 := Aside0.mk Q_BK135
   have HB := Aside0.mk Q_HB
   have NB141_140 := Aside0.mk (Q_NB141_140 (hon 6 (by kernel_rfl)) (hon 7 (by kernel_rfl)))
   have NB140_141 := Aside0.mk (Q_NB140_141 (hon 6 (by kernel_rfl)) (hon 7 (by kernel_rfl)))
   have BK140 := Aside0.mk (Q_BK140 (hon 6 (by kernel_rfl)) hb_)
   have GW140 := Aside0.mk (Q_GW140 (hon 6 (by kernel_rfl)))
   have GE140 := Aside0.mk (Q_GE140 (hon 6 (by kernel_rfl)))
   have NB134_140 := Aside0.mk (Q_NB134_140 (hon 6 (by kernel_rfl)))
   have NB140_134 := Aside0.mk (Q_NB140_134 (hon 6 (by kernel_rfl)))
   have NB135_140 := Aside0.mk (Q_NB135_140 (hon 6 (by kernel_rfl)))
   have NB140_135 := Aside0.mk (Q_NB140_135 (hon 6 (by kernel_rfl)))
   have BK141 := Aside0.mk (Q_BK141 (hon 7 (by kernel_rfl)) (hoff 9 (by kernel_rfl)))
   have GW141 := Aside0.mk (Q_GW141 (hon 7 (by kernel_rfl)))
   have GE141 := Aside0.mk (Q_GE141 (hon 7 (by kernel_rfl)))
   have NB134_141 := Aside0.mk (Q_NB134_141 (hon 7 (by kernel_rfl)))
   have NB141_134 := Aside0.mk (Q_NB141_134 (hon 7 (by kernel_rfl)))
   have NB135_141 := Aside0.mk (Q_NB135_141 (hon 7 (by kernel_rfl)))
   have NB141_135 := Aside0.mk (Q_NB141_135 (hon 7 (by kernel_rfl)))
   have hs18 : w'.cell? ⟨gb140, 0, none⟩ = some (.int .i64 0) := (bqC BK140.out 0).trans rfl
   have hfs18 := bqF BK140.out 0
   have hns18_0 := NB134_140.out
   have hns18_1 := NB135_140.out
   have hns18_3 := NB141_140.out
   have hms18_0 := NB140_134.out
   have hms18_1 := NB140_135.out
   have hms18_3 := NB140_141.out
   have hs19 : w'.cell? ⟨gb140, 1, none⟩ = some (.int .i64 0) := (bqC BK140.out 1).trans rfl
   have hfs19 := bqF BK140.out 1
   have hns19_0 := NB134_140.out
   have hns19_1 := NB135_140.out
   have hns19_3 := NB141_140.out
   have hms19_0 := NB140_134.out
   have hms19_1 := NB140_135.out
   have hms19_3 := NB140_141.out
   refine skip_ (w1 := ?_) (by rfl) rfl ?_ ?_
   rotate_left
   ·go_simp
    rfl
   refine hK.out _ _ ⟨gb140, gb141, m6_, m7_, (by rw [ha.out]; exact putSel_none (v := undef) rfl), (GS.bqX BK134.out), (GS.bqX BK135.out), (GS.lB HB.out), fun _ _ => NB141_140.out, fun _ _ => NB140_141.out, fun _ h1_ => absurd ((up_self b 8).symm.trans h1_) (by decide), fun _ => GW140.out, fun _ => GE140.out, fun _ => NB134_140.out, fun _ => NB140_134.out, fun _ => NB135_140.out, fun _ => NB140_135.out, fun _ _ => (GS.bqX BK141.out), fun _ => GW141.out, fun _ => GE141.out, fun _ => NB134_141.out, fun _ => NB141_134.out, fun _ => NB135_141.out, fun _ => NB141_135.out, fun _ => (GS.bqZ BK140.out), fun h0_ => absurd ((hoff 9 (by kernel_rfl)).symm.trans h0_) (by decide), Q_X6_, Q_X7_⟩
  refine steps_cons ?_ ?_
  ·rintro b a w' ⟨gb140, gb141, m6_, m7_, ha, Q_BK134, Q_BK135, Q_HB, Q_NB141_140, Q_NB140_141, Q_BK140, Q_GW140, Q_GE140, Q_NB134_140, Q_NB140_134, Q_NB135_140, Q_NB140_135, Q_BK141, Q_GW141, Q_GE141, Q_NB134_141, Q_NB141_134, Q_NB135_141, Q_NB141_135, Q_BK140_e8, Q_BK141_e9, Q_X6_, Q_X7_⟩ hb_ hon hoff
   refine ⟨_, rfl, fun K hK => ?_⟩
   have e8 : a.tmps[8]? = some (m7_) := by rw [ha]; exact putSel_on (e := (7, 8, m7_)) 5 rfl rfl (hon 7 (by kernel_rfl)) rfl
   rw [Q_X7_ (hon 7 (by kernel_rfl))] at e8
   have e15 : a.tmps[15]? = some (.agg #[.int .i64 t138, .int .i64 t139]) := by rw [ha]; exact putSel_on (e := (5, 15, .agg #[.int .i64 t138, .int .i64 t139])) 3 rfl rfl (hon 5 (by kernel_rfl)) rfl
   replace ha := Aside0.mk ha
   have BK134 := Aside0.mk Q_BK134
   have BK135 := Aside0.mk Q_BK135
   have HB := Aside0.mk Q_HB
   have NB141_140 := Aside0.mk (Q_NB141_140 (hon 6 (by kernel_rfl)) (hon 7 (by kernel_rfl)))
   have NB140_141 := Aside0.mk (Q_NB140_141 (hon 6 (by kernel_rfl)) (hon 7 (by kernel_rfl)))
   have GW140 := Aside0.mk (Q_GW140 (hon 6 (by kernel_rfl)))
   have GE140 := Aside0.mk (Q_GE140 (hon 6 (by kernel_rfl)))
   have NB134_140 := Aside0.mk (Q_NB134_140 (hon 6 (by kernel_rfl)))
   have NB140_134 := Aside0.mk (Q_NB140_134 (hon 6 (by kernel_rfl)))
   have NB135_140 := Aside0.mk (Q_NB135_140 (hon 6 (by kernel_rfl)))
   have NB140_135 := Aside0.mk (Q_NB140_135 (hon 6 (by kernel_rfl)))
   have BK141 := Aside0.mk (Q_BK141 (hon 7 (by kernel_rfl)) hb_)
   have GW141 := Aside0.mk (Q_GW141 (hon 7 (by kernel_rfl)))
   have GE141 := Aside0.mk (Q_GE141 (hon 7 (by kernel_rfl)))
   have NB134_141 := Aside0.mk (Q_NB134_141 (hon 7 (by kernel_rfl)))
   have NB141_134 := Aside0.mk (Q_NB141_134 (hon 7 (by kernel_rfl)))
   have NB135_141 := Aside0.mk (Q_NB135_141 (hon 7 (by kernel_rfl)))
   have NB141_135 := Aside0.mk (Q_NB141_135 (hon 7 (by kernel_rfl)))
   have BK140 := Aside0.mk (Q_BK140_e8 (hon 8 (by kernel_rfl)))
   have hs20 : w'.cell? ⟨gb141, 0, none⟩ = some (.int .i64 0) := (bqC BK141.out 0).trans rfl
   have hfs20 := bqF BK141.out 0
   have hns20_0 := NB134_141.out
   have hns20_1 := NB135_141.out
   have hns20_2 := NB140_141.out
   have hms20_0 := NB141_134.out
   have hms20_1 := NB141_135.out
   have hms20_2 := NB141_140.out
   have hs21 : w'.cell? ⟨gb141, 1, none⟩ = some (.int .i64 0) := (bqC BK141.out 1).trans rfl
   have hfs21 := bqF BK141.out 1
   have hns21_0 := NB134_141.out
   have hns21_1 := NB135_141.out
   have hns21_2 := NB140_141.out
   have hms21_0 := NB141_134.out
   have hms21_1 := NB141_135.out
   have hms21_2 := NB141_140.out
   refine skip_ (w1 := ?_) (by rfl) rfl ?_ ?_
   rotate_left
   ·go_simp
    rfl
   refine hK.out _ _ ⟨gb140, gb141, m6_, m7_, (by rw [ha.out]; exact putSel_none (v := undef) rfl), (GS.bqX BK134.out), (GS.bqX BK135.out), (GS.lB HB.out), fun _ _ => NB141_140.out, fun _ _ => NB140_141.out, fun _ h1_ => absurd ((hon 8 (by kernel_rfl)).symm.trans h1_) (by decide), fun _ => GW140.out, fun _ => GE140.out, fun _ => NB134_140.out, fun _ => NB140_134.out, fun _ => NB135_140.out, fun _ => NB140_135.out, fun _ h1_ => absurd ((up_self b 9).symm.trans h1_) (by decide), fun _ => GW141.out, fun _ => GE141.out, fun _ => NB134_141.out, fun _ => NB141_134.out, fun _ => NB135_141.out, fun _ => NB141_135.out, fun _ => (GS.bqX BK140.out), fun _ => (GS.bqZ BK141.out), Q_X6_, Q_X7_⟩
  exact steps_nil
 rintro b a w21 hall ⟨gb140, gb141, m6_, m7_, ha, Q_BK134, Q_BK135, Q_HB, Q_NB141_140, Q_NB140_141, Q_BK140, Q_GW140, Q_GE140, Q_NB134_140, Q_NB140_134, Q_NB135_140, Q_NB140_135, Q_BK141, Q_GW141, Q_GE141, Q_NB134_141, Q_NB141_134, Q_NB135_141, Q_NB141_135, Q_BK140_e8, Q_BK141_e9, Q_X6_, Q_X7_⟩
 clear BK134 BK135 HB
 have hb0_ := hall 0 (by kernel_rfl)
 have hb2_ := hall 2 (by kernel_rfl)
 have hb3_ := hall 3 (by kernel_rfl)
 have hb5_ := hall 5 (by kernel_rfl)
 have hb6_ := hall 6 (by kernel_rfl)
 have hb7_ := hall 7 (by kernel_rfl)
 have hb8_ := hall 8 (by kernel_rfl)
 have hb9_ := hall 9 (by kernel_rfl)
 subst ha
 obtain rfl := Q_X6_ hb6_
 obtain rfl := Q_X7_ hb7_
 simp only [putSel, hb0_, hb2_, hb3_, hb5_, hb6_, hb7_, hb8_, hb9_, if_true, Act.put, List.setIfInBounds_toArray, List.set_cons_zero, List.set_cons_succ]
 have BK134 := Aside0.mk Q_BK134
 clear Q_BK134
 have BK135 := Aside0.mk Q_BK135
 clear Q_BK135
 have HB := Aside0.mk Q_HB
 clear Q_HB
 have NB141_140 := Aside0.mk (Q_NB141_140 hb6_ hb7_)
 clear Q_NB141_140
 have NB140_141 := Aside0.mk (Q_NB140_141 hb6_ hb7_)
 clear Q_NB140_141
 clear Q_BK140
 have GW140 := Aside0.mk (Q_GW140 hb6_)
 clear Q_GW140
 have GE140 := Aside0.mk (Q_GE140 hb6_)
 clear Q_GE140
 have NB134_140 := Aside0.mk (Q_NB134_140 hb6_)
 clear Q_NB134_140
 have NB140_134 := Aside0.mk (Q_NB140_134 hb6_)
 clear Q_NB140_134
 have NB135_140 := Aside0.mk (Q_NB135_140 hb6_)
 clear Q_NB135_140
 have NB140_135 := Aside0.mk (Q_NB140_135 hb6_)
 clear Q_NB140_135
 clear Q_BK141
 have GW141 := Aside0.mk (Q_GW141 hb7_)
 clear Q_GW141
 have GE141 := Aside0.mk (Q_GE141 hb7_)
 clear Q_GE141
 have NB134_141 := Aside0.mk (Q_NB134_141 hb7_)
 clear Q_NB134_141
 have NB141_134 := Aside0.mk (Q_NB141_134 hb7_)
 clear Q_NB141_134
 have NB135_141 := Aside0.mk (Q_NB135_141 hb7_)
 clear Q_NB135_141
 have NB141_135 := Aside0.mk (Q_NB141_135 hb7_)
 clear Q_NB141_135
 have BK140 := Aside0.mk (Q_BK140_e8 hb8_)
 clear Q_BK140_e8
 have BK141 := Aside0.mk (Q_BK141_e9 hb9_)
 clear Q_BK141_e9
 clear hall hb0_ hb2_ hb3_ hb5_ hb6_ hb7_ hb8_ hb9_
 have hnb22 := NB140_134.out
 have hnc22 := NB134_140.out
 have hnb23 := NB140_135.out
 have hnc23 := NB135_140.out
 have hnb24 := NB140_141.out
 have hnc24 := NB141_140.out
 obtain ⟨hcz25_0, hcz25_1, hfz25_0, hfz25_1⟩ := GS.c2 BK140.out
 have hnb26 := NB141_134.out
 have hnc26 := NB134_141.out
 have hnb27 := NB141_135.out
 have hnc27 := NB135_141.out
 obtain ⟨hcz28_0, hcz28_1, hfz28_0, hfz28_1⟩ := GS.c2 BK141.out
 have hnb29 := NB134_135.out
 have hnc29 := NB135_134.out
 obtain ⟨hcz30_0, hcz30_1, hfz30_0, hfz30_1⟩ := GS.c2 BK134.out
 obtain ⟨hcz31_0, hcz31_1, hfz31_0, hfz31_1⟩ := GS.c2 BK135.out
 have H := H.out
 by_cases c7 : a1 ≤ a0_1
 ·rw [if_pos c7] at H
  have c7b0 : decide (a1 ≤ a0_1) = true := decide_eq_true c7
  clear c7
  by_cases c8 : a0_1 ≤ a2
  ·rw [if_pos c8] at H
   have c8b0 : decide (a0_1 ≤ a2) = true := decide_eq_true c8
   clear c8
   simp only [hji9, hji6, Option.some.injEq, Prod.mk.injEq] at H
   obtain ⟨rfl, rfl⟩ := H
   try go_wp2
   refine bodyPost_ret (results_cell_row rfl _ _ gb135 28 #[.int .i64 (wrap64 ((wrap64 (a2 - a1)) * (ji9))), .int .i64 (wrap64 ((wrap64 (a2 - a1)) * (wrap64 (2 * a0_0))))] (0, 0) _ rfl (GS.bqZ BK135.out) Try.underlying28 rfl (by kernel_rfl)) rfl ?_
   exact ⟨by first | rfl | (simp [errW_none, errW_some] <;> rfl) | (simp only [← hji6, ← hji9]; first | rfl | (simp [errW_none, errW_some] <;> rfl)) | (simp [*, errW_none, errW_some] <;> rfl), GS.lB HB.out⟩
  ·rw [if_neg c8] at H
   have c8b0 : decide (a0_1 ≤ a2) = false := decide_eq_false c8
   clear c8
   simp only [hji9, hji6, Option.some.injEq, Prod.mk.injEq] at H
   obtain ⟨rfl, rfl⟩ := H
   try go_wp2
   refine bodyPost_ret (results_cell_row rfl _ _ gb135 28 #[.int .i64 (wrap64 ((wrap64 (a2 - a1)) * (ji9))), .int .i64 (wrap64 ((wrap64 (a2 - a1)) * (ji6)))] (0, 0) _ rfl (GS.bqZ BK135.out) Try.underlying28 rfl (by kernel_rfl)) rfl ?_
   exact ⟨by first | rfl | (simp [errW_none, errW_some] <;> rfl) | (simp only [← hji6, ← hji9]; first | rfl | (simp [errW_none, errW_some] <;> rfl)) | (simp [*, errW_none, errW_some] <;> rfl), GS.lB HB.out⟩
 ·rw [if_neg c7] at H
  have c7b0 : decide (a1 ≤ a0_1) = false := decide_eq_false c7
  clear c7
  simp only [hji9, hji6, Option.some.injEq, Prod.mk.injEq] at H
  obtain ⟨rfl, rfl⟩ := H
  try go_wp2
  refine bodyPost_ret (results_cell_row rfl _ _ gb135 28 #[.int .i64 (wrap64 ((wrap64 (a2 - a1)) * (ji9))), .int .i64 (wrap64 ((wrap64 (a2 - a1)) * (ji6)))] (0, 0) _ rfl (GS.bqZ BK135.out) Try.underlying28 rfl (by kernel_rfl)) rfl ?_
  exact ⟨by first | rfl | (simp [errW_none, errW_some] <;> rfl) | (simp only [← hji6, ← hji9]; first | rfl | (simp [errW_none, errW_some] <;> rfl)) | (simp [*, errW_none, errW_some] <;> rfl), GS.lB HB.out⟩
end Go.Proofs.Ytefjmcljkmppoaa.K
