import Derived.Test.YtefjmcljkmppoaaK0
import Derived.Test.YtefjmcljkmppoaaGPu
import Derived.Test.YtefjmcljkmppoaaGShort
import Derived.Test.YtefjmcljkmppoaaK1
import Derived.Test.YtefjmcljkmppoaaK2
import Derived.Test.YtefjmcljkmppoaaK7
import Derived.Test.YtefjmcljkmppoaaK8
import Derived.Test.YtefjmcljkmppoaaGBetw
namespace Go.Proofs.Ytefjmcljkmppoaa.K
open Go.RowKit Go.Proofs.YtefjmcljkmppoaaW.PrintWords Go.Proofs.YtefjmcljkmppoaaW.PrintLast Go.Proofs.YtefjmcljkmppoaaW.PrintMore
attribute [local go_sem] max2_int min2_int max_two min_two max_three min_three max_four min_four   -- for this text's walks alone
set_option linter.unusedVariables false
set_option linter.unusedSimpArgs false
attribute [local go_sem high] eqA28
def lying_Strips.l0 : Nat → List Int → List Int → List (S28) → Int → ByteArray → Int → List (S39) → Int → Option ((List (S28)) × Int)
 | 0, _, _, _, _, _, _, _, _ => none
 | k + 1, x1, x2, x10, x11, x209000, x209001, x209002, x209003 => if x11 < (x2.length : Int) then (if 0 ≤ (wrap64 (x11 - 1)) then (if (wrap64 (x11 - 1)) ≤ (wrap64 (x11 + 1)) then (if (wrap64 (x11 + 1)) ≤ (x2.length : Int) then ((betw57.f x209000 x209001 x209002 x209003 x1 ((x2.take ((wrap64 (x11 + 1)) : Int).toNat).drop ((wrap64 (x11 - 1)) : Int).toNat)).bind fun bt214 => (if x10.length < 8796093022208 then (lying_Strips.l0 k x1 x2 (x10 ++ [(⟨bt214.1, bt214.2⟩ : S28)]) (wrap64 (x11 + 1)) x209000 x209001 x209002 x209003) else (none))) else (none)) else (none)) else (none)) else (some (x10, 0))
def lying_Strips.f (k : Nat) (a0_0 : ByteArray) (a0_1 : Int) (l0_2 : List (S39)) (a0_3 : Int) (l1 : List Int) (l2 : List Int) : Option ((List (S28)) × Int) := (lying_Between.f k a0_0 a0_1 l0_2 a0_3 l1 l2).bind fun bt209 => (if bt209.2.2 = 0 then (lying_Strips.l0 k l1 l2 ([] : List (S28)) 1 a0_0 a0_1 l0_2 a0_3) else (some (([] : List (S28)), bt209.2.2)))
def lying_Strips.T8 : Bool × List (List Nat × List Nat) := (true, [([], []), ([], []), ([], []), ([], []), ([], []), ([4], [4]), ([], []), ([6], [6]), ([3, 5, 7], [3, 5, 7]), ([1, 2, 8], [1, 2, 8]), ([9], [9]), ([0, 10, 9], [0, 10]), ([11, 11, 0, 1, 2, 3, 4, 5, 6, 7, 8, 9, 10, 11], [0, 11])])
def lying_Strips.B8 : List Nat := [0, 0, 0, 0, 0, 16, 0, 64, 248, 510, 1022, 2047, 4095]
theorem lying_Strips.tab8 : rtab .any (opsOf Try.f26 8) = lying_Strips.T8 := by kernel_rfl
theorem lying_Strips.bits8 : waitsOk lying_Strips.T8.2 lying_Strips.B8 = true := by kernel_rfl
set_option maxHeartbeats 8000000 in
set_option maxRecDepth 100000 in
theorem lying_Strips.calls (k : Nat) (a0_0 : ByteArray) (a0_1 : Int) (A0_2 : Option Addr) (c0_2 : Nat) (l0_2 : List (S39)) (a0_3 : Int) (A1 : Option Addr) (c1 : Nat) (l1 : List Int) (A2 : Option Addr) (c2 : Nat) (l2 : List Int) (r1 : List (S28)) (r2 : Int) (w : World) (hr0_2 : Kd.C k39 w A0_2 l0_2.length l0_2) (hc0_2 : l0_2.length ≤ c0_2) (hr1 : Kd.C (Kd.int .i64) w A1 l1.length l1) (hc1 : l1.length ≤ c1) (hr2 : Kd.C (Kd.int .i64) w A2 l2.length l2) (hc2 : l2.length ≤ c2) (h : lying_Strips.f k a0_0 a0_1 l0_2 a0_3 l1 l2 = some (r1, r2)) :
  Calls Try.prog 26 #[.agg #[.string a0_0, .int .i64 a0_1, .slice A0_2 l0_2.length c0_2, .int .i64 a0_3], .slice A1 l1.length c1, .slice A2 l2.length c2] w fun e w' => ∃ v0_ : Value, e = .returned (.tuple #[v0_, .int .i64 r2]) ∧ Kd.R k28 28 w' w.heap.size (fun _ => True) v0_ r1 ∧ Below w.heap.size w w' := by
 have hu24 := Try.underlying24
 have hu28 := Try.underlying28
 have HR0_2 := Aside0.mk hr0_2
 have HC0_2 := Aside0.mk hc0_2
 clear hr0_2 hc0_2
 have HR1 := Aside0.mk hr1
 have HC1 := Aside0.mk hc1
 clear hr1 hc1
 have HR2 := Aside0.mk hr2
 have HC2 := Aside0.mk hc2
 clear hr2 hc2
 have HB := Aside0.mk (Below.refl w.heap.size w)
 have H : ((lying_Between.f k a0_0 a0_1 l0_2 a0_3 l1 l2).bind fun bt209 => (if bt209.2.2 = 0 then (lying_Strips.l0 k l1 l2 ([] : List (S28)) 1 a0_0 a0_1 l0_2 a0_3) else (some (([] : List (S28)), bt209.2.2)))) = some (r1, r2) := h
 clear h
 replace H := Option.bind_eq_some_iff.mp H
 obtain ⟨⟨t209, t210, t211⟩, A40, H⟩ := H
 try (set_option simprocs false in dsimp only at H)
 have A4 := Aside0.mk A40
 clear A40
 by_cases c5 : t211 = 0
 ·rw [if_pos c5] at H
  have c5b0 : (t211 == 0) = true := beq_iff_eq.mpr c5
  have c5b1 : (t211 != 0) = false := bne_eq_false_iff_eq.mpr c5
  clear c5
  have H' := Aside0.mk H
  clear H
  go_enter Try.func26, Try.ntmps26
  go_wp2_with (first | ((with_reducible refine gqD (N := 3) rfl ?_); refine GS.bx (N := 3) (cs := #[.string a0_0, .int .i64 a0_1, .slice A0_2 l0_2.length c0_2, .int .i64 a0_3]) (t := 24) ?_; intro gb208 hg w6 hbox hb; have q_ := GS.q4 (GS.kH HB hb) (Aside0.mk hbox) (GS.kZ hg HB) (GS.kZ hg HB); clear HB; obtain ⟨HB, BK208, GW208, GE208⟩ := q_; clear hb hbox hg; obtain ⟨hcz7_0, hcz7_1, hcz7_2, hcz7_3, hfz7_0, hfz7_1, hfz7_2, hfz7_3⟩ := GS.c4 BK208.out) | ((with_reducible refine gqC (f := 24) rfl ?_); refine GS.gL (some 16) Try.func24 #[.agg #[.string a0_0, .int .i64 a0_1, .slice A0_2 l0_2.length c0_2, .int .i64 a0_3], .slice A1 l1.length c1, .slice A2 l2.length c2] ?_; (with_reducible refine (lying_Between.calls k a0_0 a0_1 _ _ l0_2 a0_3 _ _ l1 _ _ l2 t209 t210 t211 _ ?side1 ?side2 ?side3 ?side4 ?side5 ?side6 A4.out).mono ?_); (case side1 => exact GS.rC (Kd.C_below HR0_2.out HB.out)); (case side2 => exact HC0_2.out); (case side3 => exact GS.rC (Kd.C_below HR1.out HB.out)); (case side4 => exact HC1.out); (case side5 => exact GS.rC (Kd.C_below HR2.out HB.out)); (case side6 => exact HC2.out); rintro e w8 ⟨rfl, hb⟩; refine ⟨_, rfl, ?_⟩; have q_ := GS.q2 (GS.kB BK208 hb) (GS.kH HB hb); clear BK208 HB; obtain ⟨BK208, HB⟩ := q_; (try clear hb); (try clear hb2); (try clear hk); (try clear hi)) | ((with_reducible refine gqD (N := 8) rfl ?_); refine GS.bx (N := 8) (cs := #[.int .i64 0, .int .i64 0]) (t := 28) ?_; intro gb212 hg w9 hbox hb; have q_ := GS.q7 (GS.kB BK208 hb) (GS.kH HB hb) (Aside0.mk hbox) (GS.kZ hg HB) (GS.kZ hg HB) (Aside0.mk ((by rw [hg]; exact Nat.ne_of_lt (blk_lt (GS.bqX BK208.out)) : gb208 ≠ gb212))) (Aside0.mk ((by rw [hg]; exact Nat.ne_of_gt (blk_lt (GS.bqX BK208.out)) : gb212 ≠ gb208))); clear BK208 HB; obtain ⟨BK208, HB, BK212, GW212, GE212, NB208_212, NB212_208⟩ := q_; clear hb hbox hg; have hnb10 := NB212_208.out; have hnc10 := NB208_212.out; obtain ⟨hcz11_0, hcz11_1, hfz11_0, hfz11_1⟩ := GS.c2 BK212.out))
  go_loopg [10, 11] k (fun kq v10 v11 w' => ∃ (x10_1 : List (S28)) (x11_1 : Int), v11 = .int .i64 x11_1 ∧ Aside0 (lying_Strips.l0 kq l1 l2 x10_1 x11_1 a0_0 a0_1 l0_2 a0_3 = some (r1, r2)) ∧ Aside0 (kq ≤ k) ∧ Aside0 (Kd.R k28 28 w' w.heap.size (fun k_ => k_ ≠ gb212) v10 x10_1) ∧ Aside0 (w'.heap[gb208]? = some (.cells #[.string a0_0, .int .i64 a0_1, (.slice A0_2 l0_2.length c0_2), .int .i64 a0_3] 24 (0, 0))) ∧ Aside0 (w'.heap[gb212]? = some (.cells #[.int .i64 t209, .int .i64 t210] 28 (0, 0))) ∧ Aside0 (Below w.heap.size w w'))
  case atStart => exact ⟨(([] : List (S28))), (1), (by first | rfl | (simp; done) | (simp [*]; done)), H', ⟨Nat.le_refl _⟩, ⟨by first | exact Kd.R_nil _ _ _ _ _ | exact Kd.N_nil _ _ _ _ _ | exact Kd.V_nil _ _ _ _ _ | exact Kd.Q_nil _ _ _ _ _ | exact Kd.S_nil _ _ _ _ _⟩, ⟨GS.bqX BK208.out⟩, ⟨GS.bqZ BK212.out⟩, ⟨GS.lB HB.out⟩⟩
  case round =>
   clear H'
   try clear c5b0
   try clear c5b1
   try clear hcz11_0
   try clear hcz11_1
   try clear hcz7_0
   try clear hcz7_1
   try clear hcz7_2
   try clear hcz7_3
   try clear hfz11_0
   try clear hfz11_1
   try clear hfz7_0
   try clear hfz7_1
   try clear hfz7_2
   try clear hfz7_3
   obtain ⟨x10_1, x11_1, rfl, HA, HK1, HO_10, BK208, BK212, HB⟩ := hrel
   cases gk with
   | zero => exact absurd HA.out (by simp [lying_Strips.l0])
   | succ k1 =>
    have H := HA.out
    clear HA
    simp only [lying_Strips.l0] at H
    by_cases c12 : x11_1 < (l2.length : Int)
    ·rw [if_pos c12] at H
     have c12b0 : decide (x11_1 < (l2.length : Int)) = true := decide_eq_true c12
     clear c12
     obtain ⟨ji13, hji13⟩ : ∃ j_ : Int, (wrap64 (x11_1 - 1)) = j_ := ⟨_, rfl⟩
     replace H : (if 0 ≤ (ji13) then (if (ji13) ≤ (wrap64 (x11_1 + 1)) then (if (wrap64 (x11_1 + 1)) ≤ (l2.length : Int) then ((betw57.f a0_0 a0_1 l0_2 a0_3 l1 ((l2.take ((wrap64 (x11_1 + 1)) : Int).toNat).drop ((ji13) : Int).toNat)).bind fun bt214 => (if x10_1.length < 8796093022208 then (lying_Strips.l0 k1 l1 l2 (x10_1 ++ [(⟨bt214.1, bt214.2⟩ : S28)]) (wrap64 (x11_1 + 1)) a0_0 a0_1 l0_2 a0_3) else (none))) else (none)) else (none)) else (none)) = some (r1, r2) := by first | (rw [hji13] at H; exact H) | (simp only [hji13] at H ⊢; exact H)
     have hji13w : (IntKind.i64.wrap (x11_1 - 1)) = ji13 := (i64_w _).trans hji13
     by_cases c14 : 0 ≤ (ji13)
     ·rw [if_pos c14] at H
      have c14b0 := eq_true c14
      have c14b1 : decide (0 ≤ (ji13)) = true := decide_eq_true c14
      clear c14
      by_cases c15 : (ji13) ≤ (wrap64 (x11_1 + 1))
      ·rw [if_pos c15] at H
       have c15b0 := eq_true c15
       have c15b1 : decide ((ji13) ≤ (wrap64 (x11_1 + 1))) = true := decide_eq_true c15
       by_cases c16 : (wrap64 (x11_1 + 1)) ≤ (l2.length : Int)
       ·rw [if_pos c16] at H
        have c16b0 := eq_true c16
        have c16b1 : decide ((wrap64 (x11_1 + 1)) ≤ (l2.length : Int)) = true := decide_eq_true c16
        replace H := Option.bind_eq_some_iff.mp H
        obtain ⟨⟨t214, t215⟩, A170, H⟩ := H
        try (set_option simprocs false in dsimp only at H)
        have A17 := Aside0.mk A170
        clear A170
        by_cases c18 : x10_1.length < 8796093022208
        ·rw [if_pos c18] at H
         have LMc18 := Aside0.mk c18
         clear c18
         obtain ⟨y216, hy216⟩ : ∃ y_ : List (S28), y_ = (x10_1 ++ [(⟨t214, t215⟩ : S28)]) := ⟨_, rfl⟩
         replace H : (lying_Strips.l0 k1 l1 l2 y216 (wrap64 (x11_1 + 1)) a0_0 a0_1 l0_2 a0_3) = some (r1, r2) := by first | (rw [hy216]; with_reducible exact H) | (have H2_ := (Option.bind_some _ _).symm.trans H; rw [hy216]; with_reducible exact H2_) | (have H2_ := (Option.bind_some _ _).symm.trans H; with_reducible exact H2_) | with_reducible exact H | (rw [hy216]; exact H) | exact H
         have Ny216 := Aside0.mk hy216
         clear hy216
         have H' := Aside0.mk H
         clear H
         try go_wp2
         have q_ := GS.q4 (Aside0.mk (Kd.R_drew HO_10.out)) (Aside0.mk (bqD BK208.out)) (Aside0.mk (bqD BK212.out)) (Aside0.mk (lqD HB.out))
         clear HO_10 BK208 BK212 HB
         obtain ⟨HO_10, BK208, BK212, HB⟩ := q_
         obtain ⟨i020, hi020, _, hsz20, _⟩ := info_parts info3
         obtain ⟨A20, hcut20, hA20, hC20⟩ := print_mid_of (P := Try.prog) (Value.int .i64) 0 34 3 .i64 .i64 Try.underlying34 hi020 hsz20 A2 c2 l2 (ji13) (wrap64 (x11_1 + 1)) (of_decide_eq_true (by first | (with_reducible assumption) | assumption)) (by first | omega | exact of_decide_eq_true (by first | (with_reducible assumption) | assumption)) (of_decide_eq_true (by first | (with_reducible assumption) | assumption)) HC2.out
         have HR213 := Aside0.mk (Kd.C_of_reads (h1 := fun _ => rfl) (hA20 _ (Kd.reads_of_C HR2.out)))
         have HC213 := Aside0.mk hC20
         clear hA20 hC20 hi020 hsz20
         refine start_ (n := 13) (S := fun w' => w'.cell? ⟨gb208, 0, none⟩ = some (.string a0_0) ∧ w'.cell? ⟨gb208, 1, none⟩ = some (.int .i64 a0_1) ∧ w'.cell? ⟨gb208, 2, none⟩ = some (.slice A0_2 l0_2.length c0_2) ∧ w'.cell? ⟨gb208, 3, none⟩ = some (.int .i64 a0_3)) (ds := []) #[false, false, false, false, false, false, false, false, false, false, false, false, false] (by kernel_rfl) rfl rfl ⟨(bqC BK208.out 0).trans rfl, (bqC BK208.out 1).trans rfl, (bqC BK208.out 2).trans rfl, (bqC BK208.out 3).trans rfl⟩ (fun hHeld => ?_); refine with_tabW lying_Strips.tab8 lying_Strips.bits8 (fun HT_ HW_ => ?_)
         generalize wr.drew = w19 at HO_10 BK208 BK212 HB HR213 hHeld ⊢
         refine GS.pu 0 (some 28) HT_.out ?_
         refine GS.pu 2 (some 30) HT_.out ?_
         refine GS.pu 3 (some 31) HT_.out ?_
         refine GS.pu 4 (some 32) HT_.out ?_
         refine GS.pu 5 (some 33) HT_.out ?_
         refine GS.pu 6 (some 34) HT_.out ?_
         refine GS.pu 7 (some 35) HT_.out ?_
         refine GS.pu 8 (some 36) HT_.out ?_
         refine GS.tk 1 (some 29) HT_.out HW_.out hHeld ?_
         refine one_ (i := 9) (N := some 37) #[true, true, true, true, true, true, true, true, true, true, false, false, false] rfl rfl (one_of HT_.out (by kernel_rfl)) (by decide) (fun K hK => ?_)
         refine goes_ Try.func57 (by kernel_rfl) rfl #[.agg #[.string a0_0, .int .i64 a0_1, .slice A0_2 l0_2.length c0_2, .int .i64 a0_3], .slice A1 l1.length c1, .slice A20 ((l2.take ((wrap64 (x11_1 + 1)) : Int).toNat).drop ((ji13) : Int).toNat).length (c2 - (ji13).toNat)] (by rfl) rfl rfl (by (try simp only [List.map_toArray, List.map_cons, List.map_nil]); first | done | (rw [show ((l2.take ((wrap64 (x11_1 + 1)) : Int).toNat).drop ((ji13) : Int).toNat).length = ((wrap64 (x11_1 + 1)).toNat - (ji13).toNat) from (by rw [List.length_drop, List.length_take]; have h_ : ((wrap64 (x11_1 + 1)) : Int) ≤ (l2.length : Int) := of_decide_eq_true (by first | (with_reducible assumption) | assumption); omega)] <;> rfl) | (simp only [hji13]; rfl) | rfl | (simp only [List.length_drop, List.length_take]; rfl)) ?_
         with_reducible refine (betw57.calls a0_0 a0_1 _ _ l0_2 a0_3 _ _ l1 _ _ ((l2.take ((wrap64 (x11_1 + 1)) : Int).toNat).drop ((ji13) : Int).toNat) t214 t215 _ ?side1 ?side2 ?side3 ?side4 ?side5 ?side6 A17.out).mono ?_
         (case side1 => exact GS.rC (Kd.C_below HR0_2.out HB.out))
         (case side2 => exact HC0_2.out)
         (case side3 => exact GS.rC (Kd.C_below HR1.out HB.out))
         (case side4 => exact HC1.out)
         (case side5 => exact GS.rC (Kd.C_below HR213.out HB.out))
         (case side6 => exact HC213.out)
         rintro e w21 ⟨rfl, hb⟩
         refine ⟨_, rfl, ?_⟩
         have q_ := GS.q4 (GS.kR HO_10 hb) (GS.kB BK208 hb) (GS.kB BK212 hb) (GS.kH HB hb)
         clear HO_10 BK208 BK212 HB
         obtain ⟨HO_10, BK208, BK212, HB⟩ := q_
         (try clear hb)
         refine hK.out _ _ ⟨(bqC BK208.out 0).trans rfl, (bqC BK208.out 1).trans rfl, (bqC BK208.out 2).trans rfl, (bqC BK208.out 3).trans rfl⟩ (fun hHeld => ?_)
         clear hK K
         refine norm_ (a' := ?_) ?_ ?_
         rotate_left
         ·show Act.put _ (some 37) _ = _
          simp only [Act.put, List.setIfInBounds_toArray, List.set_cons_zero, List.set_cons_succ, i64_w, i32_w]
          rfl
         refine one_ (i := 10) (N := some 38) #[true, true, true, true, true, true, true, true, true, true, true, false, false] rfl rfl (one_of HT_.out (by kernel_rfl)) (by decide) (fun K hK => ?_)
         refine value_ (w1 := ?_) (v := ?_) (by rfl) rfl ?_ ?_
         rotate_left 2
         ·go_simp
          constructor
          ·rfl
          ·rfl
         refine hK.out _ _ ⟨(bqC (bqA BK208.out _) 0).trans rfl, (bqC (bqA BK208.out _) 1).trans rfl, (bqC (bqA BK208.out _) 2).trans rfl, (bqC (bqA BK208.out _) 3).trans rfl⟩ (fun hHeld => ?_)
         clear hK K
         refine norm_ (a' := ?_) ?_ ?_
         rotate_left
         ·show Act.put _ (some 38) _ = _
          simp only [Act.put, List.setIfInBounds_toArray, List.set_cons_zero, List.set_cons_succ, i64_w, i32_w]
          rfl
         refine one_ (i := 11) (N := some 39) #[true, true, true, true, true, true, true, true, true, true, true, true, false] rfl rfl (one_of HT_.out (by kernel_rfl)) (by decide) (fun K hK => ?_)
         refine Kd.R_append_step k28 (w0 := w) w.heap.size (by rfl) (.tmp 28) (.tmp 38) 45 28 (.agg #[(.int .i64 0), (.int .i64 0)]) 16 rfl Try.underlying45 info28 rfl (by decide) (by omega) u10 x10_1 (⟨t214, t215⟩ : S28) [.int .i64 t214, .int .i64 t215] (fun k_ => k_ ≠ gb212) (fun _ => False) rfl rfl ?aP (fun _ hk => hk.elim) ?aF ?aO ?aB ?aS ?aL ?_
         (case aP => exact k28_mkM _ _ _ (⟨t214, t215⟩ : S28))
         (case aB => exact (GS.lB HB.out))
         (case aF => exact (fun k_ hk => Kd.freshB (GS.bqX BK212.out) k_ hk))
         (case aO => exact (GS.rR HO_10.out))
         (case aS => exact (lqZ (GS.lB HB.out)))
         (case aL => have := LMc18.out; omega)
         intro v217 w22 ho hb hg hat
         rw [← Ny216.out] at ho
         have q_ := GS.q4 (Aside0.mk (blk_grown (GS.bqX BK208.out) hg (Kd.R_ne HO_10.out BK208.out (by decide)))) (Aside0.mk (blk_grown (GS.bqX BK212.out) hg (Kd.R_away HO_10.out (fun _ hk => hk)))) (Aside0.mk hb) (Aside0.mk ho)
         clear BK208 BK212 HB HO_10
         obtain ⟨BK208, BK212, HB, HO218⟩ := q_
         clear ho hb hg hat
         refine hK.out _ _ ⟨(bqC BK208.out 0).trans rfl, (bqC BK208.out 1).trans rfl, (bqC BK208.out 2).trans rfl, (bqC BK208.out 3).trans rfl⟩ (fun hHeld => ?_)
         clear hK K
         refine norm_ (a' := ?_) ?_ ?_
         rotate_left
         ·show Act.put _ (some 39) _ = _
          simp only [Act.put, List.setIfInBounds_toArray, List.set_cons_zero, List.set_cons_succ, i64_w, i32_w]
          rfl
         refine GS.pu 12 (some 10) HT_.out ?_
         refine done_ (done_of HT_.out (by kernel_rfl)) ?_
         try go_wp2
         go_roundg k1
         case measure => have := HK1.out; omega
         case rel => exact ⟨(y216), (wrap64 (x11_1 + 1)), (by first | rfl | (simp; done) | (simp [*]; done)), H', ⟨by have := HK1.out; omega⟩, ⟨by (with_reducible repeat (first | apply Kd.R_alloc | apply Kd.R_drewN | apply Kd.R_drew)); exact HO218.out⟩, ⟨GS.bqX BK208.out⟩, ⟨GS.bqX BK212.out⟩, ⟨GS.lB HB.out⟩⟩
        ·rw [if_neg c18] at H
         exact absurd H (by simp)
       ·rw [if_neg c16] at H
        exact absurd H (by simp)
      ·rw [if_neg c15] at H
       exact absurd H (by simp)
     ·rw [if_neg c14] at H
      exact absurd H (by simp)
    ·rw [if_neg c12] at H
     have c12b0 : decide (x11_1 < (l2.length : Int)) = false := decide_eq_false c12
     clear c12
     simp only [Option.some.injEq, Prod.mk.injEq] at H
     obtain ⟨rfl, rfl⟩ := H
     go_wp2
     go_ret2
     exact ⟨_, by first | rfl | (simp [errW_none, errW_some] <;> rfl) | (simp [*, errW_none, errW_some] <;> rfl), by (with_reducible repeat (first | apply Kd.R_alloc | apply Kd.R_drewN | apply Kd.R_drew)); exact Kd.R_mono HO_10.out (fun _ hk => trivial), GS.lB HB.out⟩
 ·rw [if_neg c5] at H
  have c5b0 : (t211 == 0) = false := beq_eq_false_iff_ne.mpr c5
  have c5b1 : (t211 != 0) = true := bne_iff_ne.mpr c5
  simp only [Option.some.injEq, Prod.mk.injEq] at H
  obtain ⟨rfl, rfl⟩ := H
  go_enter Try.func26, Try.ntmps26
  go_wp2_with (first | ((with_reducible refine gqD (N := 3) rfl ?_); refine GS.bx (N := 3) (cs := #[.string a0_0, .int .i64 a0_1, .slice A0_2 l0_2.length c0_2, .int .i64 a0_3]) (t := 24) ?_; intro gb208 hg w23 hbox hb; have q_ := GS.q4 (GS.kH HB hb) (Aside0.mk hbox) (GS.kZ hg HB) (GS.kZ hg HB); clear HB; obtain ⟨HB, BK208, GW208, GE208⟩ := q_; clear hb hbox hg; obtain ⟨hcz24_0, hcz24_1, hcz24_2, hcz24_3, hfz24_0, hfz24_1, hfz24_2, hfz24_3⟩ := GS.c4 BK208.out) | ((with_reducible refine gqC (f := 24) rfl ?_); refine GS.gL (some 16) Try.func24 #[.agg #[.string a0_0, .int .i64 a0_1, .slice A0_2 l0_2.length c0_2, .int .i64 a0_3], .slice A1 l1.length c1, .slice A2 l2.length c2] ?_; (with_reducible refine (lying_Between.calls k a0_0 a0_1 _ _ l0_2 a0_3 _ _ l1 _ _ l2 t209 t210 t211 _ ?side1 ?side2 ?side3 ?side4 ?side5 ?side6 A4.out).mono ?_); (case side1 => exact GS.rC (Kd.C_below HR0_2.out HB.out)); (case side2 => exact HC0_2.out); (case side3 => exact GS.rC (Kd.C_below HR1.out HB.out)); (case side4 => exact HC1.out); (case side5 => exact GS.rC (Kd.C_below HR2.out HB.out)); (case side6 => exact HC2.out); rintro e w25 ⟨rfl, hb⟩; refine ⟨_, rfl, ?_⟩; have q_ := GS.q2 (GS.kB BK208 hb) (GS.kH HB hb); clear BK208 HB; obtain ⟨BK208, HB⟩ := q_; (try clear hb); (try clear hb2); (try clear hk); (try clear hi)) | ((with_reducible refine gqD (N := 8) rfl ?_); refine GS.bx (N := 8) (cs := #[.int .i64 0, .int .i64 0]) (t := 28) ?_; intro gb212 hg w26 hbox hb; have q_ := GS.q7 (GS.kB BK208 hb) (GS.kH HB hb) (Aside0.mk hbox) (GS.kZ hg HB) (GS.kZ hg HB) (Aside0.mk ((by rw [hg]; exact Nat.ne_of_lt (blk_lt (GS.bqX BK208.out)) : gb208 ≠ gb212))) (Aside0.mk ((by rw [hg]; exact Nat.ne_of_gt (blk_lt (GS.bqX BK208.out)) : gb212 ≠ gb208))); clear BK208 HB; obtain ⟨BK208, HB, BK212, GW212, GE212, NB208_212, NB212_208⟩ := q_; clear hb hbox hg; have hnb27 := NB212_208.out; have hnc27 := NB208_212.out; obtain ⟨hcz28_0, hcz28_1, hfz28_0, hfz28_1⟩ := GS.c2 BK212.out))
  go_ret2
  exact ⟨_, by first | rfl | (simp [errW_none, errW_some] <;> rfl) | (simp [*, errW_none, errW_some] <;> rfl), by first | exact Kd.R_nil _ _ _ _ _ | exact Kd.N_nil _ _ _ _ _ | exact Kd.V_nil _ _ _ _ _ | exact Kd.Q_nil _ _ _ _ _ | exact Kd.S_nil _ _ _ _ _, GS.lB HB.out⟩
def api_Bounds.l0 : Nat → List (S28) → List (S28) → Int → Int → Option (Bool)
 | 0, _, _, _, _ => none
 | k + 1, x0, x1, x12, x13 => if x13 < x12 then (if 0 ≤ x13 then (if x13 < (x0.length : Int) then (if x13 < (x1.length : Int) then (if (!(((rd_T28 x0 x13).f0) == ((rd_T28 x1 x13).f0)) || (!(((rd_T28 x0 x13).f1) == ((rd_T28 x1 x13).f1)))) = true then (some false) else (api_Bounds.l0 k x0 x1 x12 (wrap64 (x13 + 1)))) else (none)) else (none)) else (none)) else (some true)
def api_Bounds.f (k : Nat) (l0 : List (S28)) (l1 : List (S28)) : Option (Bool) := if (l0.length : Int) = (l1.length : Int) then (api_Bounds.l0 k l0 l1 (l0.length : Int) 0) else (some false)
set_option maxHeartbeats 8000000 in
set_option maxRecDepth 100000 in
theorem api_Bounds.calls (k : Nat) (A0 : Option Addr) (c0 : Nat) (l0 : List (S28)) (A1 : Option Addr) (c1 : Nat) (l1 : List (S28)) (r : Bool) (w : World) (hr0 : Kd.C k28 w A0 l0.length l0) (hc0 : l0.length ≤ c0) (hr1 : Kd.C k28 w A1 l1.length l1) (hc1 : l1.length ≤ c1) (h : api_Bounds.f k l0 l1 = some r) :
  Calls Try.prog 28 #[.slice A0 l0.length c0, .slice A1 l1.length c1] w fun e w' => e = .returned (.bool r) ∧ Drawn0 w w' := by
 have hu28 := Try.underlying28
 have HR0 := Aside0.mk hr0
 have HC0 := Aside0.mk hc0
 clear hr0 hc0
 have HR1 := Aside0.mk hr1
 have HC1 := Aside0.mk hc1
 clear hr1 hc1
 have H : (if (l0.length : Int) = (l1.length : Int) then (api_Bounds.l0 k l0 l1 (l0.length : Int) 0) else (some false)) = some r := h
 clear h
 by_cases c3 : (l0.length : Int) = (l1.length : Int)
 ·rw [if_pos c3] at H
  have c3b0 : ((l0.length : Int) == (l1.length : Int)) = true := beq_iff_eq.mpr c3
  have c3b1 : ((l0.length : Int) != (l1.length : Int)) = false := bne_eq_false_iff_eq.mpr c3
  have c3b2 : (l0.length == l1.length) = true := by first | simpa using c3 | (simp at c3 ⊢; omega)
  clear c3
  have H' := Aside0.mk H
  clear H
  go_enter Try.func28, Try.ntmps28
  go_wp2
  repeat (go_quiet (fail); try go_wp2)
  go_loopg [13] k (fun kq v13 w' => ∃ (x13_1 : Int), v13 = .int .i64 x13_1 ∧ Aside0 (api_Bounds.l0 kq l0 l1 (l0.length : Int) x13_1 = some r) ∧ Aside0 (kq ≤ k) ∧ Drawn0 w w')
  case atStart => exact ⟨(0), (by first | rfl | (simp; done) | (simp [*]; done)), H', ⟨Nat.le_refl _⟩, by repeat (first | exact Drawn0.refl _ | apply Drawn0.step)⟩
  case round =>
   clear H'
   try clear c3b0
   try clear c3b1
   try clear c3b2
   obtain ⟨x13_1, rfl, HA, HK1, ⟨m1, rfl⟩⟩ := hrel
   cases gk with
   | zero => exact absurd HA.out (by simp [api_Bounds.l0])
   | succ k1 =>
    have H := HA.out
    clear HA
    simp only [api_Bounds.l0] at H
    by_cases c4 : x13_1 < (l0.length : Int)
    ·rw [if_pos c4] at H
     have c4b0 : decide (x13_1 < (l0.length : Int)) = true := decide_eq_true c4
     clear c4
     by_cases c5 : 0 ≤ x13_1
     ·rw [if_pos c5] at H
      have c5b0 : decide (0 ≤ x13_1) = true := decide_eq_true c5
      clear c5
      by_cases c6 : x13_1 < (l0.length : Int)
      ·rw [if_pos c6] at H
       have c6b0 : decide (x13_1 < (l0.length : Int)) = true := decide_eq_true c6
       clear c6
       by_cases c7 : x13_1 < (l1.length : Int)
       ·rw [if_pos c7] at H
        have c7b0 : decide (x13_1 < (l1.length : Int)) = true := decide_eq_true c7
        clear c7
        by_cases c8 : (!(((rd_T28 l0 x13_1).f0) == ((rd_T28 l1 x13_1).f0)) || (!(((rd_T28 l0 x13_1).f1) == ((rd_T28 l1 x13_1).f1)))) = true
        ·rw [if_pos c8] at H
         have c8b0 : (!(((rd_T28 l0 x13_1).f0) == ((rd_T28 l1 x13_1).f0)) || (!(((rd_T28 l0 x13_1).f1) == ((rd_T28 l1 x13_1).f1)))) = true := c8
         clear c8
         obtain rfl := Option.some.inj H
         have p219 : 0 ≤ (x13_1 : Int) := of_decide_eq_true (by first | (with_reducible assumption) | assumption)
         have q219 : x13_1 < (l0.length : Int) := of_decide_eq_true (by first | (with_reducible assumption) | assumption)
         obtain ⟨ad219, e219, hx219_0, hx219_1⟩ := at_T28 HR0.out x13_1 p219 q219
         cases e219
         replace p219 := eq_true p219
         replace q219 := eq_true q219
         have p220 : 0 ≤ (x13_1 : Int) := of_decide_eq_true (by first | (with_reducible assumption) | assumption)
         have q220 : x13_1 < (l1.length : Int) := of_decide_eq_true (by first | (with_reducible assumption) | assumption)
         obtain ⟨ad220, e220, hx220_0, hx220_1⟩ := at_T28 HR1.out x13_1 p220 q220
         cases e220
         replace p220 := eq_true p220
         replace q220 := eq_true q220
         go_wp2
         repeat (go_quiet (fail); try go_wp2)
         go_ret
         exact ⟨by first | rfl | (simp; done) | (simp [*]; done), by repeat (first | exact Drawn0.refl _ | apply Drawn0.step)⟩
        ·rw [if_neg c8] at H
         have c8b0 : (!(((rd_T28 l0 x13_1).f0) == ((rd_T28 l1 x13_1).f0)) || (!(((rd_T28 l0 x13_1).f1) == ((rd_T28 l1 x13_1).f1)))) = false := by simpa using c8
         clear c8
         have H' := Aside0.mk H
         clear H
         have p219 : 0 ≤ (x13_1 : Int) := of_decide_eq_true (by first | (with_reducible assumption) | assumption)
         have q219 : x13_1 < (l0.length : Int) := of_decide_eq_true (by first | (with_reducible assumption) | assumption)
         obtain ⟨ad219, e219, hx219_0, hx219_1⟩ := at_T28 HR0.out x13_1 p219 q219
         cases e219
         replace p219 := eq_true p219
         replace q219 := eq_true q219
         have p220 : 0 ≤ (x13_1 : Int) := of_decide_eq_true (by first | (with_reducible assumption) | assumption)
         have q220 : x13_1 < (l1.length : Int) := of_decide_eq_true (by first | (with_reducible assumption) | assumption)
         obtain ⟨ad220, e220, hx220_0, hx220_1⟩ := at_T28 HR1.out x13_1 p220 q220
         cases e220
         replace p220 := eq_true p220
         replace q220 := eq_true q220
         go_wp2
         repeat (go_quiet (fail); try go_wp2)
         go_roundg k1
         case measure => have := HK1.out; omega
         case rel => exact ⟨(wrap64 (x13_1 + 1)), (by first | rfl | (simp; done) | (simp [*]; done)), H', ⟨by have := HK1.out; omega⟩, by repeat (first | exact Drawn0.refl _ | apply Drawn0.step)⟩
       ·rw [if_neg c7] at H
        exact absurd H (by simp)
      ·rw [if_neg c6] at H
       exact absurd H (by simp)
     ·rw [if_neg c5] at H
      exact absurd H (by simp)
    ·rw [if_neg c4] at H
     have c4b0 : decide (x13_1 < (l0.length : Int)) = false := decide_eq_false c4
     clear c4
     obtain rfl := Option.some.inj H
     go_wp2
     repeat (go_quiet (fail); try go_wp2)
     go_ret
     exact ⟨by first | rfl | (simp; done) | (simp [*]; done), by repeat (first | exact Drawn0.refl _ | apply Drawn0.step)⟩
 ·rw [if_neg c3] at H
  have c3b0 : ((l0.length : Int) == (l1.length : Int)) = false := beq_eq_false_iff_ne.mpr c3
  have c3b1 : ((l0.length : Int) != (l1.length : Int)) = true := bne_iff_ne.mpr c3
  have c3b2 : (l0.length == l1.length) = false := by first | simpa using c3 | (simp at c3 ⊢; omega)
  obtain rfl := Option.some.inj H
  go_enter Try.func28, Try.ntmps28
  go_wp2
  repeat (go_quiet (fail); try go_wp2)
  go_ret
  exact ⟨by first | rfl | (simp; done) | (simp [*]; done), by repeat (first | exact Drawn0.refl _ | apply Drawn0.step)⟩
def spilelaw11_Drum.f  : Option (ByteArray × Int × (List (S39)) × Int) := some ((⟨#[100]⟩ : ByteArray), 1, (([(⟨0, 5⟩ : S39), (⟨10, 5⟩ : S39)] : List (S39))), 0)
set_option maxHeartbeats 8000000 in
set_option maxRecDepth 100000 in
theorem spilelaw11_Drum.calls  (r1 : ByteArray) (r2 : Int) (r3 : List (S39)) (r4 : Int) (w : World) (h : spilelaw11_Drum.f  = some (r1, r2, r3, r4)) :
  Calls Try.prog 38 #[] w fun e w' => ∃ v2_ : Value, e = .returned (.agg #[.string r1, .int .i64 r2, v2_, .int .i64 r4]) ∧ Kd.R k39 39 w' w.heap.size (fun _ => True) v2_ r3 ∧ Below w.heap.size w w' := by
 have hu24 := Try.underlying24
 have hu39 := Try.underlying39
 have HB := Aside0.mk (Below.refl w.heap.size w)
 have H : (some ((⟨#[100]⟩ : ByteArray), 1, (([(⟨0, 5⟩ : S39), (⟨10, 5⟩ : S39)] : List (S39))), 0)) = some (r1, r2, r3, r4) := h
 clear h
 obtain ⟨y222, hy222⟩ : ∃ y_ : List (S39), y_ = (([(⟨0, 5⟩ : S39), (⟨10, 5⟩ : S39)] : List (S39))) := ⟨_, rfl⟩
 replace H : (some ((⟨#[100]⟩ : ByteArray), 1, y222, 0)) = some (r1, r2, r3, r4) := by first | (rw [hy222]; with_reducible exact H) | (have H2_ := (Option.bind_some _ _).symm.trans H; rw [hy222]; with_reducible exact H2_) | (have H2_ := (Option.bind_some _ _).symm.trans H; with_reducible exact H2_) | with_reducible exact H | (rw [hy222]; exact H) | exact H
 have Ny222 := Aside0.mk hy222
 clear hy222
 simp only [Option.some.injEq, Prod.mk.injEq] at H
 obtain ⟨rfl, rfl, rfl, rfl⟩ := H
 go_enter Try.func38, Try.ntmps38
 go_wp2_with (first | ((with_reducible refine gqD (N := 0) rfl ?_); refine box_event ?hg (N := 0) ?hd (cs := #[.string (⟨#[]⟩ : ByteArray), .int .i64 0, .slice none 0 0, .int .i64 0]) (t := 24) ?hr ?_; (case hd => rfl); (case hg => rfl); (case hr => first | (go_simp; done) | (go_simp; rfl)); intro gb221 hg w1 hbox hb; have q_ := GS.q4 (GS.kH HB hb) (Aside0.mk hbox) (GS.kZ hg HB) (GS.kZ hg HB); clear HB; obtain ⟨HB, BK221, GW221, GE221⟩ := q_; clear hb hbox hg) | ((with_reducible refine gqD (N := 3) rfl ?_); refine Kd.R_lit k39 _ 39 ?hg (N := 3) ?hd (xs := ([(⟨0, 5⟩ : S39), (⟨10, 5⟩ : S39)] : List (S39))) (inner := [.int .i64 0, .int .i64 5, .int .i64 10, .int .i64 5]) (ok := fun _ => True) (okp := fun _ => True) ?hr ?hp (fun _ hk => hk) trivial (Below.refl _ _) (Nat.le_refl _) (by simp) ?_; (case hd => rfl); (case hg => rfl); (case hr => first | (go_simp; done) | (go_simp; rfl)); (case hp => exact (Reps.c2 (show Kd.M k39 _ _ _ (⟨0, 5⟩ : S39) [.int .i64 0, .int .i64 5] from (k39_mkM _ _ _ (⟨0, 5⟩ : S39) )) (Reps.c2 (show Kd.M k39 _ _ _ (⟨10, 5⟩ : S39) [.int .i64 10, .int .i64 5] from (k39_mkM _ _ _ (⟨10, 5⟩ : S39) )) (Reps.none _ _)))); intro v223 w2 ho3 hb hg_ hnew_; clear hg_ hnew_; (first | rw [← Ny222.out] at ho3 | (simp only [Int.reduceToNat] at ho3; rw [← Ny222.out] at ho3)); have q_ := GS.q3 (GS.kL ho3 HB) (Aside0.mk (bqB (g := gb221) (o := .cells #[.string (⟨#[]⟩ : ByteArray), .int .i64 0, .slice none 0 0, .int .i64 0] 24 (0, 0)) (GS.bqX BK221.out) hb)) (GS.kH HB hb); clear BK221 HB; obtain ⟨HO224, BK221, HB⟩ := q_; clear hb ho3; obtain ⟨Ao4, co4, eo4⟩ := Kd.R_slice HO224.out; subst eo4; obtain ⟨hcz5_0, hcz5_1, hcz5_2, hcz5_3, hfz5_0, hfz5_1, hfz5_2, hfz5_3⟩ := GS.c4 BK221.out))
 refine bodyPost_ret (results_cell_row rfl _ _ gb221 24 #[.string (⟨#[100]⟩ : ByteArray), .int .i64 1, .slice Ao4 y222.length co4, .int .i64 0] (0, 0) _ rfl (by (with_reducible repeat (first | refine bqN ?_ _ | refine bqD ?_ | refine bqA ?_ _)); refine bqP (cs := #[.string (⟨#[100]⟩ : ByteArray), .int .i64 1, .slice Ao4 y222.length co4, .int .i64 0]) ?_ 3 _ rfl; (with_reducible repeat (first | refine bqN ?_ _ | refine bqD ?_ | refine bqA ?_ _)); refine bqP (cs := #[.string (⟨#[100]⟩ : ByteArray), .int .i64 1, .slice none 0 0, .int .i64 0]) ?_ 2 _ rfl; (with_reducible repeat (first | refine bqN ?_ _ | refine bqD ?_ | refine bqA ?_ _)); refine bqP (cs := #[.string (⟨#[100]⟩ : ByteArray), .int .i64 0, .slice none 0 0, .int .i64 0]) ?_ 1 _ rfl; (with_reducible repeat (first | refine bqN ?_ _ | refine bqD ?_ | refine bqA ?_ _)); refine bqP (cs := #[.string (⟨#[]⟩ : ByteArray), .int .i64 0, .slice none 0 0, .int .i64 0]) ?_ 0 _ rfl; (with_reducible repeat (first | refine bqN ?_ _ | refine bqD ?_ | refine bqA ?_ _)); exact BK221.out) Try.underlying24 rfl (by kernel_rfl)) rfl ?_
 exact ⟨_, by first | rfl | (simp [errW_none, errW_some] <;> rfl) | (simp [*, errW_none, errW_some] <;> rfl), by (with_reducible repeat (first | apply Kd.R_alloc | apply Kd.R_drewN | apply Kd.R_drew)); exact Kd.R_mono (Kd.R_far (p := ⟨gb221, 3, none⟩) (Kd.R_far (p := ⟨gb221, 2, none⟩) (Kd.R_far (p := ⟨gb221, 1, none⟩) (Kd.R_far (p := ⟨gb221, 0, none⟩) (Kd.R_types HO224.out BK221.out (by decide)) (fun _ hk => hk.2) (.string (⟨#[100]⟩ : ByteArray))) (fun _ hk => hk.2) (.int .i64 1)) (fun _ hk => hk.2) (.slice Ao4 y222.length co4)) (fun _ hk => hk.2) (.int .i64 0)) (fun _ hk => trivial), GS.lB HB.out⟩
def spilelaw11_awake.f (k : Nat)  : Option (Bool) := (spilelaw11_Drum.f).bind fun bt225 => ((lying_Between.f k bt225.1 bt225.2.1 bt225.2.2.1 bt225.2.2.2 (([0, 10] : List Int)) (([0, 5, 10] : List Int))).bind fun bt237 => ((spilelaw11_Drum.f).bind fun bt241 => ((lying_Between.f k bt241.1 bt241.2.1 bt241.2.2.1 bt241.2.2.2 (([0, 10] : List Int)) (([0, 2, 5, 8, 10] : List Int))).bind fun bt253 => ((spilelaw11_Drum.f).bind fun bt257 => ((lying_Wet.f k bt257.1 bt257.2.1 bt257.2.2.1 bt257.2.2.2 5 1 5).bind fun bt263 => ((spilelaw11_Drum.f).bind fun bt267 => ((lying_Dry.f k bt267.1 bt267.2.1 bt267.2.2.1 bt267.2.2.2 5 1 5).bind fun bt273 => ((lying_Slices.f k (([(⟨0, 1⟩ : S39), (⟨5, 2⟩ : S39), (⟨6, 2⟩ : S39)] : List (S39))) 2).bind fun bt280 => ((spilelaw11_Drum.f).bind fun bt284 => ((lying_Strips.f k bt284.1 bt284.2.1 bt284.2.2.1 bt284.2.2.2 (([0, 10] : List Int)) (([0, 2, 5] : List Int))).bind fun bt296 => (if bt237.2.2 = 0 then (if bt253.2.2 = 0 then (if bt263.2.2 = 0 then (if bt273.2.2 = 0 then (if bt280.2 = 0 then (if bt296.2 = 0 then (if (bt237.1 == 0 && (bt237.2.1 == 1000)) = true then (if (bt253.1 == 480 && (bt253.2.1 == 920)) = true then (if (bt263.1 == 300 && (bt263.2.1 == 440)) = true then (if (bt273.1 == bt263.1 && (bt273.2.1 == bt263.2.1)) = true then ((slices_Equal_int_int.f k bt280.1 (([0, 2, 5, 6] : List Int))).bind fun t303 => (if t303 = true then ((api_Bounds.f k bt296.1 (([(⟨0, 160⟩ : S28), (⟨240, 300⟩ : S28)] : List (S28)))).bind fun t307 => (if t307 = true then ((spilelaw11_Drum.f).bind fun bt308 => ((lying_Check.f k bt308.1 bt308.2.1 bt308.2.2.1 bt308.2.2.2 (([0, 10] : List Int))).bind fun t317 => (some (t317 == 0)))) else (none))) else (none))) else (none)) else (none)) else (none)) else (none)) else (none)) else (none)) else (none)) else (none)) else (none)) else (none))))))))))))
set_option maxHeartbeats 8000000 in
set_option maxRecDepth 100000 in
theorem spilelaw11_awake.calls (k : Nat)  (r : Bool) (w : World) (h : spilelaw11_awake.f k  = some r) :
  Calls Try.prog 10 #[] w fun e w' => e = .returned (.bool r) ∧ Below w.heap.size w w' := by
 have hu28 := Try.underlying28
 have hu39 := Try.underlying39
 have HB := Aside0.mk (Below.refl w.heap.size w)
 have H : ((spilelaw11_Drum.f).bind fun bt225 => ((lying_Between.f k bt225.1 bt225.2.1 bt225.2.2.1 bt225.2.2.2 (([0, 10] : List Int)) (([0, 5, 10] : List Int))).bind fun bt237 => ((spilelaw11_Drum.f).bind fun bt241 => ((lying_Between.f k bt241.1 bt241.2.1 bt241.2.2.1 bt241.2.2.2 (([0, 10] : List Int)) (([0, 2, 5, 8, 10] : List Int))).bind fun bt253 => ((spilelaw11_Drum.f).bind fun bt257 => ((lying_Wet.f k bt257.1 bt257.2.1 bt257.2.2.1 bt257.2.2.2 5 1 5).bind fun bt263 => ((spilelaw11_Drum.f).bind fun bt267 => ((lying_Dry.f k bt267.1 bt267.2.1 bt267.2.2.1 bt267.2.2.2 5 1 5).bind fun bt273 => ((lying_Slices.f k (([(⟨0, 1⟩ : S39), (⟨5, 2⟩ : S39), (⟨6, 2⟩ : S39)] : List (S39))) 2).bind fun bt280 => ((spilelaw11_Drum.f).bind fun bt284 => ((lying_Strips.f k bt284.1 bt284.2.1 bt284.2.2.1 bt284.2.2.2 (([0, 10] : List Int)) (([0, 2, 5] : List Int))).bind fun bt296 => (if bt237.2.2 = 0 then (if bt253.2.2 = 0 then (if bt263.2.2 = 0 then (if bt273.2.2 = 0 then (if bt280.2 = 0 then (if bt296.2 = 0 then (if (bt237.1 == 0 && (bt237.2.1 == 1000)) = true then (if (bt253.1 == 480 && (bt253.2.1 == 920)) = true then (if (bt263.1 == 300 && (bt263.2.1 == 440)) = true then (if (bt273.1 == bt263.1 && (bt273.2.1 == bt263.2.1)) = true then ((slices_Equal_int_int.f k bt280.1 (([0, 2, 5, 6] : List Int))).bind fun t303 => (if t303 = true then ((api_Bounds.f k bt296.1 (([(⟨0, 160⟩ : S28), (⟨240, 300⟩ : S28)] : List (S28)))).bind fun t307 => (if t307 = true then ((spilelaw11_Drum.f).bind fun bt308 => ((lying_Check.f k bt308.1 bt308.2.1 bt308.2.2.1 bt308.2.2.2 (([0, 10] : List Int))).bind fun t317 => (some (t317 == 0)))) else (none))) else (none))) else (none)) else (none)) else (none)) else (none)) else (none)) else (none)) else (none)) else (none)) else (none)) else (none))))))))))))) = some r := h
 clear h
 replace H := Option.bind_eq_some_iff.mp H
 obtain ⟨⟨t225, t226, t227, t230⟩, A10, H⟩ := H
 try (set_option simprocs false in dsimp only at H)
 have A1 := Aside0.mk A10
 clear A10
 obtain ⟨y231, hy231⟩ : ∃ y_ : List Int, y_ = (([0, 10] : List Int)) := ⟨_, rfl⟩
 replace H : ((lying_Between.f k t225 t226 t227 t230 y231 (([0, 5, 10] : List Int))).bind fun bt237 => ((spilelaw11_Drum.f).bind fun bt241 => ((lying_Between.f k bt241.1 bt241.2.1 bt241.2.2.1 bt241.2.2.2 (([0, 10] : List Int)) (([0, 2, 5, 8, 10] : List Int))).bind fun bt253 => ((spilelaw11_Drum.f).bind fun bt257 => ((lying_Wet.f k bt257.1 bt257.2.1 bt257.2.2.1 bt257.2.2.2 5 1 5).bind fun bt263 => ((spilelaw11_Drum.f).bind fun bt267 => ((lying_Dry.f k bt267.1 bt267.2.1 bt267.2.2.1 bt267.2.2.2 5 1 5).bind fun bt273 => ((lying_Slices.f k (([(⟨0, 1⟩ : S39), (⟨5, 2⟩ : S39), (⟨6, 2⟩ : S39)] : List (S39))) 2).bind fun bt280 => ((spilelaw11_Drum.f).bind fun bt284 => ((lying_Strips.f k bt284.1 bt284.2.1 bt284.2.2.1 bt284.2.2.2 (([0, 10] : List Int)) (([0, 2, 5] : List Int))).bind fun bt296 => (if bt237.2.2 = 0 then (if bt253.2.2 = 0 then (if bt263.2.2 = 0 then (if bt273.2.2 = 0 then (if bt280.2 = 0 then (if bt296.2 = 0 then (if (bt237.1 == 0 && (bt237.2.1 == 1000)) = true then (if (bt253.1 == 480 && (bt253.2.1 == 920)) = true then (if (bt263.1 == 300 && (bt263.2.1 == 440)) = true then (if (bt273.1 == bt263.1 && (bt273.2.1 == bt263.2.1)) = true then ((slices_Equal_int_int.f k bt280.1 (([0, 2, 5, 6] : List Int))).bind fun t303 => (if t303 = true then ((api_Bounds.f k bt296.1 (([(⟨0, 160⟩ : S28), (⟨240, 300⟩ : S28)] : List (S28)))).bind fun t307 => (if t307 = true then ((spilelaw11_Drum.f).bind fun bt308 => ((lying_Check.f k bt308.1 bt308.2.1 bt308.2.2.1 bt308.2.2.2 (([0, 10] : List Int))).bind fun t317 => (some (t317 == 0)))) else (none))) else (none))) else (none)) else (none)) else (none)) else (none)) else (none)) else (none)) else (none)) else (none)) else (none)) else (none)))))))))))) = some r := by first | (rw [hy231]; with_reducible exact H) | (have H2_ := (Option.bind_some _ _).symm.trans H; rw [hy231]; with_reducible exact H2_) | (have H2_ := (Option.bind_some _ _).symm.trans H; with_reducible exact H2_) | with_reducible exact H | (rw [hy231]; exact H) | exact H
 have Ny231 := Aside0.mk hy231
 clear hy231
 obtain ⟨y234, hy234⟩ : ∃ y_ : List Int, y_ = (([0, 5, 10] : List Int)) := ⟨_, rfl⟩
 replace H : ((lying_Between.f k t225 t226 t227 t230 y231 y234).bind fun bt237 => ((spilelaw11_Drum.f).bind fun bt241 => ((lying_Between.f k bt241.1 bt241.2.1 bt241.2.2.1 bt241.2.2.2 (([0, 10] : List Int)) (([0, 2, 5, 8, 10] : List Int))).bind fun bt253 => ((spilelaw11_Drum.f).bind fun bt257 => ((lying_Wet.f k bt257.1 bt257.2.1 bt257.2.2.1 bt257.2.2.2 5 1 5).bind fun bt263 => ((spilelaw11_Drum.f).bind fun bt267 => ((lying_Dry.f k bt267.1 bt267.2.1 bt267.2.2.1 bt267.2.2.2 5 1 5).bind fun bt273 => ((lying_Slices.f k (([(⟨0, 1⟩ : S39), (⟨5, 2⟩ : S39), (⟨6, 2⟩ : S39)] : List (S39))) 2).bind fun bt280 => ((spilelaw11_Drum.f).bind fun bt284 => ((lying_Strips.f k bt284.1 bt284.2.1 bt284.2.2.1 bt284.2.2.2 (([0, 10] : List Int)) (([0, 2, 5] : List Int))).bind fun bt296 => (if bt237.2.2 = 0 then (if bt253.2.2 = 0 then (if bt263.2.2 = 0 then (if bt273.2.2 = 0 then (if bt280.2 = 0 then (if bt296.2 = 0 then (if (bt237.1 == 0 && (bt237.2.1 == 1000)) = true then (if (bt253.1 == 480 && (bt253.2.1 == 920)) = true then (if (bt263.1 == 300 && (bt263.2.1 == 440)) = true then (if (bt273.1 == bt263.1 && (bt273.2.1 == bt263.2.1)) = true then ((slices_Equal_int_int.f k bt280.1 (([0, 2, 5, 6] : List Int))).bind fun t303 => (if t303 = true then ((api_Bounds.f k bt296.1 (([(⟨0, 160⟩ : S28), (⟨240, 300⟩ : S28)] : List (S28)))).bind fun t307 => (if t307 = true then ((spilelaw11_Drum.f).bind fun bt308 => ((lying_Check.f k bt308.1 bt308.2.1 bt308.2.2.1 bt308.2.2.2 (([0, 10] : List Int))).bind fun t317 => (some (t317 == 0)))) else (none))) else (none))) else (none)) else (none)) else (none)) else (none)) else (none)) else (none)) else (none)) else (none)) else (none)) else (none)))))))))))) = some r := by first | (rw [hy234]; with_reducible exact H) | (have H2_ := (Option.bind_some _ _).symm.trans H; rw [hy234]; with_reducible exact H2_) | (have H2_ := (Option.bind_some _ _).symm.trans H; with_reducible exact H2_) | with_reducible exact H | (rw [hy234]; exact H) | exact H
 have Ny234 := Aside0.mk hy234
 clear hy234
 replace H := Option.bind_eq_some_iff.mp H
 obtain ⟨⟨t237, t238, t239⟩, A20, H⟩ := H
 try (set_option simprocs false in dsimp only at H)
 have A2 := Aside0.mk A20
 clear A20
 replace H := Option.bind_eq_some_iff.mp H
 obtain ⟨⟨t241, t242, t243, t246⟩, A30, H⟩ := H
 try (set_option simprocs false in dsimp only at H)
 have A3 := Aside0.mk A30
 clear A30
 obtain ⟨y247, hy247⟩ : ∃ y_ : List Int, y_ = (([0, 10] : List Int)) := ⟨_, rfl⟩
 replace H : ((lying_Between.f k t241 t242 t243 t246 y247 (([0, 2, 5, 8, 10] : List Int))).bind fun bt253 => ((spilelaw11_Drum.f).bind fun bt257 => ((lying_Wet.f k bt257.1 bt257.2.1 bt257.2.2.1 bt257.2.2.2 5 1 5).bind fun bt263 => ((spilelaw11_Drum.f).bind fun bt267 => ((lying_Dry.f k bt267.1 bt267.2.1 bt267.2.2.1 bt267.2.2.2 5 1 5).bind fun bt273 => ((lying_Slices.f k (([(⟨0, 1⟩ : S39), (⟨5, 2⟩ : S39), (⟨6, 2⟩ : S39)] : List (S39))) 2).bind fun bt280 => ((spilelaw11_Drum.f).bind fun bt284 => ((lying_Strips.f k bt284.1 bt284.2.1 bt284.2.2.1 bt284.2.2.2 (([0, 10] : List Int)) (([0, 2, 5] : List Int))).bind fun bt296 => (if t239 = 0 then (if bt253.2.2 = 0 then (if bt263.2.2 = 0 then (if bt273.2.2 = 0 then (if bt280.2 = 0 then (if bt296.2 = 0 then (if (t237 == 0 && (t238 == 1000)) = true then (if (bt253.1 == 480 && (bt253.2.1 == 920)) = true then (if (bt263.1 == 300 && (bt263.2.1 == 440)) = true then (if (bt273.1 == bt263.1 && (bt273.2.1 == bt263.2.1)) = true then ((slices_Equal_int_int.f k bt280.1 (([0, 2, 5, 6] : List Int))).bind fun t303 => (if t303 = true then ((api_Bounds.f k bt296.1 (([(⟨0, 160⟩ : S28), (⟨240, 300⟩ : S28)] : List (S28)))).bind fun t307 => (if t307 = true then ((spilelaw11_Drum.f).bind fun bt308 => ((lying_Check.f k bt308.1 bt308.2.1 bt308.2.2.1 bt308.2.2.2 (([0, 10] : List Int))).bind fun t317 => (some (t317 == 0)))) else (none))) else (none))) else (none)) else (none)) else (none)) else (none)) else (none)) else (none)) else (none)) else (none)) else (none)) else (none)))))))))) = some r := by first | (rw [hy247]; with_reducible exact H) | (have H2_ := (Option.bind_some _ _).symm.trans H; rw [hy247]; with_reducible exact H2_) | (have H2_ := (Option.bind_some _ _).symm.trans H; with_reducible exact H2_) | with_reducible exact H | (rw [hy247]; exact H) | exact H
 have Ny247 := Aside0.mk hy247
 clear hy247
 obtain ⟨y250, hy250⟩ : ∃ y_ : List Int, y_ = (([0, 2, 5, 8, 10] : List Int)) := ⟨_, rfl⟩
 replace H : ((lying_Between.f k t241 t242 t243 t246 y247 y250).bind fun bt253 => ((spilelaw11_Drum.f).bind fun bt257 => ((lying_Wet.f k bt257.1 bt257.2.1 bt257.2.2.1 bt257.2.2.2 5 1 5).bind fun bt263 => ((spilelaw11_Drum.f).bind fun bt267 => ((lying_Dry.f k bt267.1 bt267.2.1 bt267.2.2.1 bt267.2.2.2 5 1 5).bind fun bt273 => ((lying_Slices.f k (([(⟨0, 1⟩ : S39), (⟨5, 2⟩ : S39), (⟨6, 2⟩ : S39)] : List (S39))) 2).bind fun bt280 => ((spilelaw11_Drum.f).bind fun bt284 => ((lying_Strips.f k bt284.1 bt284.2.1 bt284.2.2.1 bt284.2.2.2 (([0, 10] : List Int)) (([0, 2, 5] : List Int))).bind fun bt296 => (if t239 = 0 then (if bt253.2.2 = 0 then (if bt263.2.2 = 0 then (if bt273.2.2 = 0 then (if bt280.2 = 0 then (if bt296.2 = 0 then (if (t237 == 0 && (t238 == 1000)) = true then (if (bt253.1 == 480 && (bt253.2.1 == 920)) = true then (if (bt263.1 == 300 && (bt263.2.1 == 440)) = true then (if (bt273.1 == bt263.1 && (bt273.2.1 == bt263.2.1)) = true then ((slices_Equal_int_int.f k bt280.1 (([0, 2, 5, 6] : List Int))).bind fun t303 => (if t303 = true then ((api_Bounds.f k bt296.1 (([(⟨0, 160⟩ : S28), (⟨240, 300⟩ : S28)] : List (S28)))).bind fun t307 => (if t307 = true then ((spilelaw11_Drum.f).bind fun bt308 => ((lying_Check.f k bt308.1 bt308.2.1 bt308.2.2.1 bt308.2.2.2 (([0, 10] : List Int))).bind fun t317 => (some (t317 == 0)))) else (none))) else (none))) else (none)) else (none)) else (none)) else (none)) else (none)) else (none)) else (none)) else (none)) else (none)) else (none)))))))))) = some r := by first | (rw [hy250]; with_reducible exact H) | (have H2_ := (Option.bind_some _ _).symm.trans H; rw [hy250]; with_reducible exact H2_) | (have H2_ := (Option.bind_some _ _).symm.trans H; with_reducible exact H2_) | with_reducible exact H | (rw [hy250]; exact H) | exact H
 have Ny250 := Aside0.mk hy250
 clear hy250
 replace H := Option.bind_eq_some_iff.mp H
 obtain ⟨⟨t253, t254, t255⟩, A40, H⟩ := H
 try (set_option simprocs false in dsimp only at H)
 have A4 := Aside0.mk A40
 clear A40
 replace H := Option.bind_eq_some_iff.mp H
 obtain ⟨⟨t257, t258, t259, t262⟩, A50, H⟩ := H
 try (set_option simprocs false in dsimp only at H)
 have A5 := Aside0.mk A50
 clear A50
 replace H := Option.bind_eq_some_iff.mp H
 obtain ⟨⟨t263, t264, t265⟩, A60, H⟩ := H
 try (set_option simprocs false in dsimp only at H)
 have A6 := Aside0.mk A60
 clear A60
 replace H := Option.bind_eq_some_iff.mp H
 obtain ⟨⟨t267, t268, t269, t272⟩, A70, H⟩ := H
 try (set_option simprocs false in dsimp only at H)
 have A7 := Aside0.mk A70
 clear A70
 replace H := Option.bind_eq_some_iff.mp H
 obtain ⟨⟨t273, t274, t275⟩, A80, H⟩ := H
 try (set_option simprocs false in dsimp only at H)
 have A8 := Aside0.mk A80
 clear A80
 obtain ⟨y277, hy277⟩ : ∃ y_ : List (S39), y_ = (([(⟨0, 1⟩ : S39), (⟨5, 2⟩ : S39), (⟨6, 2⟩ : S39)] : List (S39))) := ⟨_, rfl⟩
 replace H : ((lying_Slices.f k y277 2).bind fun bt280 => ((spilelaw11_Drum.f).bind fun bt284 => ((lying_Strips.f k bt284.1 bt284.2.1 bt284.2.2.1 bt284.2.2.2 (([0, 10] : List Int)) (([0, 2, 5] : List Int))).bind fun bt296 => (if t239 = 0 then (if t255 = 0 then (if t265 = 0 then (if t275 = 0 then (if bt280.2 = 0 then (if bt296.2 = 0 then (if (t237 == 0 && (t238 == 1000)) = true then (if (t253 == 480 && (t254 == 920)) = true then (if (t263 == 300 && (t264 == 440)) = true then (if (t273 == t263 && (t274 == t264)) = true then ((slices_Equal_int_int.f k bt280.1 (([0, 2, 5, 6] : List Int))).bind fun t303 => (if t303 = true then ((api_Bounds.f k bt296.1 (([(⟨0, 160⟩ : S28), (⟨240, 300⟩ : S28)] : List (S28)))).bind fun t307 => (if t307 = true then ((spilelaw11_Drum.f).bind fun bt308 => ((lying_Check.f k bt308.1 bt308.2.1 bt308.2.2.1 bt308.2.2.2 (([0, 10] : List Int))).bind fun t317 => (some (t317 == 0)))) else (none))) else (none))) else (none)) else (none)) else (none)) else (none)) else (none)) else (none)) else (none)) else (none)) else (none)) else (none))))) = some r := by first | (rw [hy277]; with_reducible exact H) | (have H2_ := (Option.bind_some _ _).symm.trans H; rw [hy277]; with_reducible exact H2_) | (have H2_ := (Option.bind_some _ _).symm.trans H; with_reducible exact H2_) | with_reducible exact H | (rw [hy277]; exact H) | exact H
 have Ny277 := Aside0.mk hy277
 clear hy277
 replace H := Option.bind_eq_some_iff.mp H
 obtain ⟨⟨t280, t281⟩, A90, H⟩ := H
 try (set_option simprocs false in dsimp only at H)
 have A9 := Aside0.mk A90
 clear A90
 replace H := Option.bind_eq_some_iff.mp H
 obtain ⟨⟨t284, t285, t286, t289⟩, A100, H⟩ := H
 try (set_option simprocs false in dsimp only at H)
 have A10 := Aside0.mk A100
 clear A100
 obtain ⟨y290, hy290⟩ : ∃ y_ : List Int, y_ = (([0, 10] : List Int)) := ⟨_, rfl⟩
 replace H : ((lying_Strips.f k t284 t285 t286 t289 y290 (([0, 2, 5] : List Int))).bind fun bt296 => (if t239 = 0 then (if t255 = 0 then (if t265 = 0 then (if t275 = 0 then (if t281 = 0 then (if bt296.2 = 0 then (if (t237 == 0 && (t238 == 1000)) = true then (if (t253 == 480 && (t254 == 920)) = true then (if (t263 == 300 && (t264 == 440)) = true then (if (t273 == t263 && (t274 == t264)) = true then ((slices_Equal_int_int.f k t280 (([0, 2, 5, 6] : List Int))).bind fun t303 => (if t303 = true then ((api_Bounds.f k bt296.1 (([(⟨0, 160⟩ : S28), (⟨240, 300⟩ : S28)] : List (S28)))).bind fun t307 => (if t307 = true then ((spilelaw11_Drum.f).bind fun bt308 => ((lying_Check.f k bt308.1 bt308.2.1 bt308.2.2.1 bt308.2.2.2 (([0, 10] : List Int))).bind fun t317 => (some (t317 == 0)))) else (none))) else (none))) else (none)) else (none)) else (none)) else (none)) else (none)) else (none)) else (none)) else (none)) else (none)) else (none))) = some r := by first | (rw [hy290]; with_reducible exact H) | (have H2_ := (Option.bind_some _ _).symm.trans H; rw [hy290]; with_reducible exact H2_) | (have H2_ := (Option.bind_some _ _).symm.trans H; with_reducible exact H2_) | with_reducible exact H | (rw [hy290]; exact H) | exact H
 have Ny290 := Aside0.mk hy290
 clear hy290
 obtain ⟨y293, hy293⟩ : ∃ y_ : List Int, y_ = (([0, 2, 5] : List Int)) := ⟨_, rfl⟩
 replace H : ((lying_Strips.f k t284 t285 t286 t289 y290 y293).bind fun bt296 => (if t239 = 0 then (if t255 = 0 then (if t265 = 0 then (if t275 = 0 then (if t281 = 0 then (if bt296.2 = 0 then (if (t237 == 0 && (t238 == 1000)) = true then (if (t253 == 480 && (t254 == 920)) = true then (if (t263 == 300 && (t264 == 440)) = true then (if (t273 == t263 && (t274 == t264)) = true then ((slices_Equal_int_int.f k t280 (([0, 2, 5, 6] : List Int))).bind fun t303 => (if t303 = true then ((api_Bounds.f k bt296.1 (([(⟨0, 160⟩ : S28), (⟨240, 300⟩ : S28)] : List (S28)))).bind fun t307 => (if t307 = true then ((spilelaw11_Drum.f).bind fun bt308 => ((lying_Check.f k bt308.1 bt308.2.1 bt308.2.2.1 bt308.2.2.2 (([0, 10] : List Int))).bind fun t317 => (some (t317 == 0)))) else (none))) else (none))) else (none)) else (none)) else (none)) else (none)) else (none)) else (none)) else (none)) else (none)) else (none)) else (none))) = some r := by first | (rw [hy293]; with_reducible exact H) | (have H2_ := (Option.bind_some _ _).symm.trans H; rw [hy293]; with_reducible exact H2_) | (have H2_ := (Option.bind_some _ _).symm.trans H; with_reducible exact H2_) | with_reducible exact H | (rw [hy293]; exact H) | exact H
 have Ny293 := Aside0.mk hy293
 clear hy293
 replace H := Option.bind_eq_some_iff.mp H
 obtain ⟨⟨t296, t299⟩, A110, H⟩ := H
 try (set_option simprocs false in dsimp only at H)
 have A11 := Aside0.mk A110
 clear A110
 by_cases c12 : t239 = 0
 ·rw [if_pos c12] at H
  have c12b0 : (t239 == 0) = true := beq_iff_eq.mpr c12
  have c12b1 : (t239 != 0) = false := bne_eq_false_iff_eq.mpr c12
  clear c12
  by_cases c13 : t255 = 0
  ·rw [if_pos c13] at H
   have c13b0 : (t255 == 0) = true := beq_iff_eq.mpr c13
   have c13b1 : (t255 != 0) = false := bne_eq_false_iff_eq.mpr c13
   clear c13
   by_cases c14 : t265 = 0
   ·rw [if_pos c14] at H
    have c14b0 : (t265 == 0) = true := beq_iff_eq.mpr c14
    have c14b1 : (t265 != 0) = false := bne_eq_false_iff_eq.mpr c14
    clear c14
    by_cases c15 : t275 = 0
    ·rw [if_pos c15] at H
     have c15b0 : (t275 == 0) = true := beq_iff_eq.mpr c15
     have c15b1 : (t275 != 0) = false := bne_eq_false_iff_eq.mpr c15
     clear c15
     by_cases c16 : t281 = 0
     ·rw [if_pos c16] at H
      have c16b0 : (t281 == 0) = true := beq_iff_eq.mpr c16
      have c16b1 : (t281 != 0) = false := bne_eq_false_iff_eq.mpr c16
      clear c16
      by_cases c17 : t299 = 0
      ·rw [if_pos c17] at H
       have c17b0 : (t299 == 0) = true := beq_iff_eq.mpr c17
       have c17b1 : (t299 != 0) = false := bne_eq_false_iff_eq.mpr c17
       clear c17
       by_cases c18 : (t237 == 0 && (t238 == 1000)) = true
       ·rw [if_pos c18] at H
        have c18b0 : (t237 == 0 && (t238 == 1000)) = true := c18
        (try (have c18b1 : decide (t237 = 0 && (t238 == 1000)) = true := by simpa using c18))
        (try (have c18b2 : (t237 == 0 && (t238 == 1000)) = true := by simpa using c18))
        clear c18
        by_cases c19 : (t253 == 480 && (t254 == 920)) = true
        ·rw [if_pos c19] at H
         have c19b0 : (t253 == 480 && (t254 == 920)) = true := c19
         (try (have c19b1 : decide (t253 = 480 && (t254 == 920)) = true := by simpa using c19))
         (try (have c19b2 : (t253 == 480 && (t254 == 920)) = true := by simpa using c19))
         clear c19
         by_cases c20 : (t263 == 300 && (t264 == 440)) = true
         ·rw [if_pos c20] at H
          have c20b0 : (t263 == 300 && (t264 == 440)) = true := c20
          (try (have c20b1 : decide (t263 = 300 && (t264 == 440)) = true := by simpa using c20))
          (try (have c20b2 : (t263 == 300 && (t264 == 440)) = true := by simpa using c20))
          clear c20
          by_cases c21 : (t273 == t263 && (t274 == t264)) = true
          ·rw [if_pos c21] at H
           have c21b0 : (t273 == t263 && (t274 == t264)) = true := c21
           (try (have c21b1 : decide (t273 = t263 && (t274 == t264)) = true := by simpa using c21))
           (try (have c21b2 : (t273 == t263 && (t274 == t264)) = true := by simpa using c21))
           clear c21
           obtain ⟨y300, hy300⟩ : ∃ y_ : List Int, y_ = (([0, 2, 5, 6] : List Int)) := ⟨_, rfl⟩
           replace H : ((slices_Equal_int_int.f k t280 y300).bind fun t303 => (if t303 = true then ((api_Bounds.f k t296 (([(⟨0, 160⟩ : S28), (⟨240, 300⟩ : S28)] : List (S28)))).bind fun t307 => (if t307 = true then ((spilelaw11_Drum.f).bind fun bt308 => ((lying_Check.f k bt308.1 bt308.2.1 bt308.2.2.1 bt308.2.2.2 (([0, 10] : List Int))).bind fun t317 => (some (t317 == 0)))) else (none))) else (none))) = some r := by first | (rw [hy300]; with_reducible exact H) | (have H2_ := (Option.bind_some _ _).symm.trans H; rw [hy300]; with_reducible exact H2_) | (have H2_ := (Option.bind_some _ _).symm.trans H; with_reducible exact H2_) | with_reducible exact H | (rw [hy300]; exact H) | exact H
           have Ny300 := Aside0.mk hy300
           clear hy300
           replace H := Option.bind_eq_some_iff.mp H
           obtain ⟨t303, A220, H⟩ := H
           try (set_option simprocs false in dsimp only at H)
           have A22 := Aside0.mk A220
           clear A220
           by_cases c23 : t303 = true
           ·subst c23
            rw [if_pos rfl] at H
            obtain ⟨y304, hy304⟩ : ∃ y_ : List (S28), y_ = (([(⟨0, 160⟩ : S28), (⟨240, 300⟩ : S28)] : List (S28))) := ⟨_, rfl⟩
            replace H : ((api_Bounds.f k t296 y304).bind fun t307 => (if t307 = true then ((spilelaw11_Drum.f).bind fun bt308 => ((lying_Check.f k bt308.1 bt308.2.1 bt308.2.2.1 bt308.2.2.2 (([0, 10] : List Int))).bind fun t317 => (some (t317 == 0)))) else (none))) = some r := by first | (rw [hy304]; with_reducible exact H) | (have H2_ := (Option.bind_some _ _).symm.trans H; rw [hy304]; with_reducible exact H2_) | (have H2_ := (Option.bind_some _ _).symm.trans H; with_reducible exact H2_) | with_reducible exact H | (rw [hy304]; exact H) | exact H
            have Ny304 := Aside0.mk hy304
            clear hy304
            replace H := Option.bind_eq_some_iff.mp H
            obtain ⟨t307, A240, H⟩ := H
            try (set_option simprocs false in dsimp only at H)
            have A24 := Aside0.mk A240
            clear A240
            by_cases c25 : t307 = true
            ·subst c25
             rw [if_pos rfl] at H
             replace H := Option.bind_eq_some_iff.mp H
             obtain ⟨⟨t308, t309, t310, t313⟩, A260, H⟩ := H
             try (set_option simprocs false in dsimp only at H)
             have A26 := Aside0.mk A260
             clear A260
             obtain ⟨y314, hy314⟩ : ∃ y_ : List Int, y_ = (([0, 10] : List Int)) := ⟨_, rfl⟩
             replace H : ((lying_Check.f k t308 t309 t310 t313 y314).bind fun t317 => (some (t317 == 0))) = some r := by first | (rw [hy314]; with_reducible exact H) | (have H2_ := (Option.bind_some _ _).symm.trans H; rw [hy314]; with_reducible exact H2_) | (have H2_ := (Option.bind_some _ _).symm.trans H; with_reducible exact H2_) | with_reducible exact H | (rw [hy314]; exact H) | exact H
             have Ny314 := Aside0.mk hy314
             clear hy314
             replace H := Option.bind_eq_some_iff.mp H
             obtain ⟨t317, A270, H⟩ := H
             replace H : (some (t317 == 0)) = some r := H
             have A27 := Aside0.mk A270
             clear A270
             obtain rfl := Option.some.inj H
             go_enter Try.func10, Try.ntmps10
             go_wp2_with (first | ((with_reducible refine gqC (f := 38) rfl ?_); refine GS.gL (some 14) Try.func38 #[] ?_; (with_reducible refine (spilelaw11_Drum.calls  t225 t226 t227 t230 _ A1.out).mono ?_); rintro e w28 ⟨v228, rfl, ho0, hb⟩; refine ⟨_, rfl, ?_⟩; have q_ := GS.q2 (GS.kL ho0 HB) (GS.kH HB hb); clear HB; obtain ⟨HO229, HB⟩ := q_; (try clear hb); (try clear hb2); (try clear hk); (try clear hi); (try clear ho0)) | ((with_reducible refine gqD (N := 15) rfl ?_); (try (refine gate_guard (by rfl) ?_; dsimp only)); refine Kd.R_lit (Kd.int .i64) _ 3 ?hg (N := 15) ?hd (xs := ([0, 10] : List Int)) (inner := [.int .i64 0, .int .i64 10]) (ok := fun _ => True) (okp := fun _ => True) ?hr ?hp (fun _ hk => hk) trivial (Below.refl _ _) (Nat.le_refl _) (by simp) ?_; (case hd => rfl); (case hg => rfl); (case hr => first | (go_simp; done) | (go_simp; rfl)); (case hp => exact (Reps.one (show Kd.M (Kd.int .i64) _ _ _ 0 [.int .i64 0] from rfl) (Reps.one (show Kd.M (Kd.int .i64) _ _ _ 10 [.int .i64 10] from rfl) (Reps.none _ _)))); intro v232 w29 ho30 hb hg_ hnew_; clear hg_ hnew_; (first | rw [← Ny231.out] at ho30 | (simp only [Int.reduceToNat] at ho30; rw [← Ny231.out] at ho30)); have q_ := GS.q3 (GS.kR HO229 hb) (GS.kL ho30 HB) (GS.kH HB hb); clear HO229 HB; obtain ⟨HO229, HO233, HB⟩ := q_; clear hb ho30) | ((with_reducible refine gqD (N := 16) rfl ?_); (try (refine gate_guard (by rfl) ?_; dsimp only)); refine Kd.R_lit (Kd.int .i64) _ 3 ?hg (N := 16) ?hd (xs := ([0, 5, 10] : List Int)) (inner := [.int .i64 0, .int .i64 5, .int .i64 10]) (ok := fun _ => True) (okp := fun _ => True) ?hr ?hp (fun _ hk => hk) trivial (Below.refl _ _) (Nat.le_refl _) (by simp) ?_; (case hd => rfl); (case hg => rfl); (case hr => first | (go_simp; done) | (go_simp; rfl)); (case hp => exact (Reps.one (show Kd.M (Kd.int .i64) _ _ _ 0 [.int .i64 0] from rfl) (Reps.one (show Kd.M (Kd.int .i64) _ _ _ 5 [.int .i64 5] from rfl) (Reps.one (show Kd.M (Kd.int .i64) _ _ _ 10 [.int .i64 10] from rfl) (Reps.none _ _))))); intro v235 w31 ho32 hb hg_ hnew_; clear hg_ hnew_; (first | rw [← Ny234.out] at ho32 | (simp only [Int.reduceToNat] at ho32; rw [← Ny234.out] at ho32)); have q_ := GS.q4 (GS.kR HO229 hb) (GS.kE HO233 ho32 hb) (Aside0.mk (Kd.R_lower (Kd.R_new' ho32 (Kd.R_lt (GS.rR HO233.out))) (lqZ (GS.lB HB.out)))) (GS.kH HB hb); clear HO229 HO233 HB; obtain ⟨HO229, HO233, HO236, HB⟩ := q_; clear hb ho32; obtain ⟨Ao33, co33, eo33⟩ := Kd.R_slice HO229.out; subst eo33; obtain ⟨Ao34, co34, eo34⟩ := Kd.R_slice HO233.out; subst eo34; obtain ⟨Ao35, co35, eo35⟩ := Kd.R_slice HO236.out; subst eo35) | ((with_reducible refine gqC (f := 24) rfl ?_); refine GS.gL (some 17) Try.func24 #[.agg #[.string t225, .int .i64 t226, .slice Ao33 t227.length co33, .int .i64 t230], .slice Ao34 y231.length co34, .slice Ao35 y234.length co35] ?_; (with_reducible refine (lying_Between.calls k t225 t226 _ _ t227 t230 _ _ y231 _ _ y234 t237 t238 t239 _ ?side1 ?side2 ?side3 ?side4 ?side5 ?side6 A2.out).mono ?_); (case side1 => repeat (first | exact (Kd.R_reads' HO229.out).2.2 | (with_reducible refine Kd.C_alloc ?_ _) | (with_reducible refine Kd.C_drewN ?_ _) | (with_reducible refine Kd.C_drew ?_))); (case side2 => exact (Kd.R_reads' HO229.out).2.1); (case side3 => repeat (first | exact (Kd.R_reads' HO233.out).2.2 | (with_reducible refine Kd.C_alloc ?_ _) | (with_reducible refine Kd.C_drewN ?_ _) | (with_reducible refine Kd.C_drew ?_))); (case side4 => exact (Kd.R_reads' HO233.out).2.1); (case side5 => repeat (first | exact (Kd.R_reads' HO236.out).2.2 | (with_reducible refine Kd.C_alloc ?_ _) | (with_reducible refine Kd.C_drewN ?_ _) | (with_reducible refine Kd.C_drew ?_))); (case side6 => exact (Kd.R_reads' HO236.out).2.1); rintro e w36 ⟨rfl, hb⟩; refine ⟨_, rfl, ?_⟩; have q_ := GS.q4 (GS.kR HO229 hb) (GS.kR HO233 hb) (GS.kR HO236 hb) (GS.kH HB hb); clear HO229 HO233 HO236 HB; obtain ⟨HO229, HO233, HO236, HB⟩ := q_; (try clear hb); (try clear hb2); (try clear hk); (try clear hi)) | ((with_reducible refine gqD (N := 1) rfl ?_); (try (refine gate_guard (by rfl) ?_; dsimp only)); refine GS.bx (N := 1) (cs := #[.int .i64 0, .int .i64 0]) (t := 28) ?_; intro gb240 hg w37 hbox hb; have q_ := GS.q7 (GS.kR HO229 hb) (GS.kR HO233 hb) (GS.kR HO236 hb) (GS.kH HB hb) (Aside0.mk hbox) (GS.kZ hg HB) (GS.kZ hg HB); clear HO229 HO233 HO236 HB; obtain ⟨HO229, HO233, HO236, HB, BK240, GW240, GE240⟩ := q_; clear hb hbox hg; obtain ⟨hcz38_0, hcz38_1, hfz38_0, hfz38_1⟩ := GS.c2 BK240.out) | ((with_reducible refine gqC (f := 38) rfl ?_); refine GS.gL (some 21) Try.func38 #[] ?_; (with_reducible refine (spilelaw11_Drum.calls  t241 t242 t243 t246 _ A3.out).mono ?_); rintro e w39 ⟨v244, rfl, ho0, hb⟩; refine ⟨_, rfl, ?_⟩; have q_ := GS.q6 (Aside0.mk (Kd.R_elder' (by (with_reducible repeat (first | apply Kd.R_alloc | apply Kd.R_drewN | apply Kd.R_drew)); exact (Kd.R_mono (Kd.R_far (p := ⟨gb240, 1, none⟩) (Kd.R_far (p := ⟨gb240, 0, none⟩) (Kd.R_types HO229.out BK240.out (by decide)) (fun _ hk => hk.2) (.int .i64 t237)) (fun _ hk => hk.2) (.int .i64 t238)) (fun _ h_ => h_.1))) (Kd.R_base ho0) hb)) (Aside0.mk (Kd.R_below (by (with_reducible repeat (first | apply Kd.R_alloc | apply Kd.R_drewN | apply Kd.R_drew)); exact (Kd.R_mono (Kd.R_far (p := ⟨gb240, 1, none⟩) (Kd.R_far (p := ⟨gb240, 0, none⟩) (Kd.R_types HO233.out BK240.out (by decide)) (fun _ hk => hk.2) (.int .i64 t237)) (fun _ hk => hk.2) (.int .i64 t238)) (fun _ h_ => h_.1))) hb)) (Aside0.mk (Kd.R_below (by (with_reducible repeat (first | apply Kd.R_alloc | apply Kd.R_drewN | apply Kd.R_drew)); exact (Kd.R_mono (Kd.R_far (p := ⟨gb240, 1, none⟩) (Kd.R_far (p := ⟨gb240, 0, none⟩) (Kd.R_types HO236.out BK240.out (by decide)) (fun _ hk => hk.2) (.int .i64 t237)) (fun _ hk => hk.2) (.int .i64 t238)) (fun _ h_ => h_.1))) hb)) (Aside0.mk (Kd.R_lower (Kd.R_new' ho0 (Kd.R_lt (by (with_reducible repeat (first | apply Kd.R_alloc | apply Kd.R_drewN | apply Kd.R_drew)); exact (Kd.R_mono (Kd.R_far (p := ⟨gb240, 1, none⟩) (Kd.R_far (p := ⟨gb240, 0, none⟩) (Kd.R_types HO229.out BK240.out (by decide)) (fun _ hk => hk.2) (.int .i64 t237)) (fun _ hk => hk.2) (.int .i64 t238)) (fun _ h_ => h_.1))))) (lqZ (GS.lB HB.out)))) (Aside0.mk (bqB (g := gb240) (o := .cells #[.int .i64 t237, .int .i64 t238] 28 (0, 0)) (GS.bqZ BK240.out) hb)) (GS.kH HB hb); clear HO229 HO233 HO236 BK240 HB; obtain ⟨HO229, HO233, HO236, HO245, BK240, HB⟩ := q_; (try clear hb); (try clear hb2); (try clear hk); (try clear hi); (try clear ho0)) | ((with_reducible refine gqD (N := 22) rfl ?_); (try (refine gate_guard (by rfl) ?_; dsimp only)); refine Kd.R_lit (Kd.int .i64) _ 3 ?hg (N := 22) ?hd (xs := ([0, 10] : List Int)) (inner := [.int .i64 0, .int .i64 10]) (ok := fun _ => True) (okp := fun _ => True) ?hr ?hp (fun _ hk => hk) trivial (Below.refl _ _) (Nat.le_refl _) (by simp) ?_; (case hd => rfl); (case hg => rfl); (case hr => first | (go_simp; done) | (go_simp; rfl)); (case hp => exact (Reps.one (show Kd.M (Kd.int .i64) _ _ _ 0 [.int .i64 0] from rfl) (Reps.one (show Kd.M (Kd.int .i64) _ _ _ 10 [.int .i64 10] from rfl) (Reps.none _ _)))); intro v248 w40 ho41 hb hg_ hnew_; clear hg_ hnew_; (first | rw [← Ny247.out] at ho41 | (simp only [Int.reduceToNat] at ho41; rw [← Ny247.out] at ho41)); have q_ := GS.q7 (GS.kR HO229 hb) (GS.kE HO233 ho41 hb) (GS.kE HO236 ho41 hb) (GS.kR HO245 hb) (Aside0.mk (Kd.R_lower (Kd.R_new' (Kd.R_new' ho41 (Kd.R_lt (GS.rR HO233.out))) (Kd.R_lt (GS.rR HO236.out))) (lqZ (GS.lB HB.out)))) (GS.kB BK240 hb) (GS.kH HB hb); clear HO229 HO233 HO236 HO245 BK240 HB; obtain ⟨HO229, HO233, HO236, HO245, HO249, BK240, HB⟩ := q_; clear hb ho41) | ((with_reducible refine gqD (N := 23) rfl ?_); (try (refine gate_guard (by rfl) ?_; dsimp only)); refine Kd.R_lit (Kd.int .i64) _ 3 ?hg (N := 23) ?hd (xs := ([0, 2, 5, 8, 10] : List Int)) (inner := [.int .i64 0, .int .i64 2, .int .i64 5, .int .i64 8, .int .i64 10]) (ok := fun _ => True) (okp := fun _ => True) ?hr ?hp (fun _ hk => hk) trivial (Below.refl _ _) (Nat.le_refl _) (by simp) ?_; (case hd => rfl); (case hg => rfl); (case hr => first | (go_simp; done) | (go_simp; rfl)); (case hp => exact (Reps.one (show Kd.M (Kd.int .i64) _ _ _ 0 [.int .i64 0] from rfl) (Reps.one (show Kd.M (Kd.int .i64) _ _ _ 2 [.int .i64 2] from rfl) (Reps.one (show Kd.M (Kd.int .i64) _ _ _ 5 [.int .i64 5] from rfl) (Reps.one (show Kd.M (Kd.int .i64) _ _ _ 8 [.int .i64 8] from rfl) (Reps.one (show Kd.M (Kd.int .i64) _ _ _ 10 [.int .i64 10] from rfl) (Reps.none _ _))))))); intro v251 w42 ho43 hb hg_ hnew_; clear hg_ hnew_; (first | rw [← Ny250.out] at ho43 | (simp only [Int.reduceToNat] at ho43; rw [← Ny250.out] at ho43)); have q_ := GS.q8 (GS.kR HO229 hb) (GS.kE HO233 ho43 hb) (GS.kE HO236 ho43 hb) (GS.kR HO245 hb) (GS.kE HO249 ho43 hb) (Aside0.mk (Kd.R_lower (Kd.R_new' (Kd.R_new' (Kd.R_new' ho43 (Kd.R_lt (GS.rR HO233.out))) (Kd.R_lt (GS.rR HO236.out))) (Kd.R_lt (GS.rR HO249.out))) (lqZ (GS.lB HB.out)))) (GS.kB BK240 hb) (GS.kH HB hb); clear HO229 HO233 HO236 HO245 HO249 BK240 HB; obtain ⟨HO229, HO233, HO236, HO245, HO249, HO252, BK240, HB⟩ := q_; clear hb ho43; obtain ⟨Ao44, co44, eo44⟩ := Kd.R_slice HO245.out; subst eo44; obtain ⟨Ao45, co45, eo45⟩ := Kd.R_slice HO249.out; subst eo45; obtain ⟨Ao46, co46, eo46⟩ := Kd.R_slice HO252.out; subst eo46) | ((with_reducible refine gqC (f := 24) rfl ?_); refine GS.gL (some 24) Try.func24 #[.agg #[.string t241, .int .i64 t242, .slice Ao44 t243.length co44, .int .i64 t246], .slice Ao45 y247.length co45, .slice Ao46 y250.length co46] ?_; (with_reducible refine (lying_Between.calls k t241 t242 _ _ t243 t246 _ _ y247 _ _ y250 t253 t254 t255 _ ?side1 ?side2 ?side3 ?side4 ?side5 ?side6 A4.out).mono ?_); (case side1 => repeat (first | exact (Kd.R_reads' HO245.out).2.2 | (with_reducible refine Kd.C_alloc ?_ _) | (with_reducible refine Kd.C_drewN ?_ _) | (with_reducible refine Kd.C_drew ?_))); (case side2 => exact (Kd.R_reads' HO245.out).2.1); (case side3 => repeat (first | exact (Kd.R_reads' HO249.out).2.2 | (with_reducible refine Kd.C_alloc ?_ _) | (with_reducible refine Kd.C_drewN ?_ _) | (with_reducible refine Kd.C_drew ?_))); (case side4 => exact (Kd.R_reads' HO249.out).2.1); (case side5 => repeat (first | exact (Kd.R_reads' HO252.out).2.2 | (with_reducible refine Kd.C_alloc ?_ _) | (with_reducible refine Kd.C_drewN ?_ _) | (with_reducible refine Kd.C_drew ?_))); (case side6 => exact (Kd.R_reads' HO252.out).2.1); rintro e w47 ⟨rfl, hb⟩; refine ⟨_, rfl, ?_⟩; have q_ := GS.q8 (GS.kR HO229 hb) (GS.kR HO233 hb) (GS.kR HO236 hb) (GS.kR HO245 hb) (GS.kR HO249 hb) (GS.kR HO252 hb) (GS.kB BK240 hb) (GS.kH HB hb); clear HO229 HO233 HO236 HO245 HO249 HO252 BK240 HB; obtain ⟨HO229, HO233, HO236, HO245, HO249, HO252, BK240, HB⟩ := q_; (try clear hb); (try clear hb2); (try clear hk); (try clear hi)) | ((with_reducible refine gqD (N := 3) rfl ?_); (try (refine gate_guard (by rfl) ?_; dsimp only)); refine GS.bx (N := 3) (cs := #[.int .i64 0, .int .i64 0]) (t := 28) ?_; intro gb256 hg w48 hbox hb; have q_ := GS.q13 (GS.kR HO229 hb) (GS.kR HO233 hb) (GS.kR HO236 hb) (GS.kR HO245 hb) (GS.kR HO249 hb) (GS.kR HO252 hb) (GS.kB BK240 hb) (GS.kH HB hb) (Aside0.mk hbox) (GS.kZ hg HB) (GS.kZ hg HB) (Aside0.mk ((by rw [hg]; exact Nat.ne_of_lt (blk_lt (GS.bqX BK240.out)) : gb240 ≠ gb256))) (Aside0.mk ((by rw [hg]; exact Nat.ne_of_gt (blk_lt (GS.bqX BK240.out)) : gb256 ≠ gb240))); clear HO229 HO233 HO236 HO245 HO249 HO252 BK240 HB; obtain ⟨HO229, HO233, HO236, HO245, HO249, HO252, BK240, HB, BK256, GW256, GE256, NB240_256, NB256_240⟩ := q_; clear hb hbox hg; have hnb49 := NB256_240.out; have hnc49 := NB240_256.out; obtain ⟨hcz50_0, hcz50_1, hfz50_0, hfz50_1⟩ := GS.c2 BK256.out) | ((with_reducible refine gqC (f := 38) rfl ?_); refine GS.gL (some 28) Try.func38 #[] ?_; (with_reducible refine (spilelaw11_Drum.calls  t257 t258 t259 t262 _ A5.out).mono ?_); rintro e w51 ⟨v260, rfl, ho0, hb⟩; refine ⟨_, rfl, ?_⟩; have q_ := GS.q10 (Aside0.mk (Kd.R_elder' (by (with_reducible repeat (first | apply Kd.R_alloc | apply Kd.R_drewN | apply Kd.R_drew)); exact (Kd.R_mono (Kd.R_far (p := ⟨gb256, 1, none⟩) (Kd.R_far (p := ⟨gb256, 0, none⟩) (Kd.R_types HO229.out BK256.out (by decide)) (fun _ hk => hk.2) (.int .i64 t253)) (fun _ hk => hk.2) (.int .i64 t254)) (fun _ h_ => h_.1))) (Kd.R_base ho0) hb)) (Aside0.mk (Kd.R_below (by (with_reducible repeat (first | apply Kd.R_alloc | apply Kd.R_drewN | apply Kd.R_drew)); exact (Kd.R_mono (Kd.R_far (p := ⟨gb256, 1, none⟩) (Kd.R_far (p := ⟨gb256, 0, none⟩) (Kd.R_types HO233.out BK256.out (by decide)) (fun _ hk => hk.2) (.int .i64 t253)) (fun _ hk => hk.2) (.int .i64 t254)) (fun _ h_ => h_.1))) hb)) (Aside0.mk (Kd.R_below (by (with_reducible repeat (first | apply Kd.R_alloc | apply Kd.R_drewN | apply Kd.R_drew)); exact (Kd.R_mono (Kd.R_far (p := ⟨gb256, 1, none⟩) (Kd.R_far (p := ⟨gb256, 0, none⟩) (Kd.R_types HO236.out BK256.out (by decide)) (fun _ hk => hk.2) (.int .i64 t253)) (fun _ hk => hk.2) (.int .i64 t254)) (fun _ h_ => h_.1))) hb)) (Aside0.mk (Kd.R_elder' (by (with_reducible repeat (first | apply Kd.R_alloc | apply Kd.R_drewN | apply Kd.R_drew)); exact (Kd.R_mono (Kd.R_far (p := ⟨gb256, 1, none⟩) (Kd.R_far (p := ⟨gb256, 0, none⟩) (Kd.R_types HO245.out BK256.out (by decide)) (fun _ hk => hk.2) (.int .i64 t253)) (fun _ hk => hk.2) (.int .i64 t254)) (fun _ h_ => h_.1))) (Kd.R_base ho0) hb)) (Aside0.mk (Kd.R_below (by (with_reducible repeat (first | apply Kd.R_alloc | apply Kd.R_drewN | apply Kd.R_drew)); exact (Kd.R_mono (Kd.R_far (p := ⟨gb256, 1, none⟩) (Kd.R_far (p := ⟨gb256, 0, none⟩) (Kd.R_types HO249.out BK256.out (by decide)) (fun _ hk => hk.2) (.int .i64 t253)) (fun _ hk => hk.2) (.int .i64 t254)) (fun _ h_ => h_.1))) hb)) (Aside0.mk (Kd.R_below (by (with_reducible repeat (first | apply Kd.R_alloc | apply Kd.R_drewN | apply Kd.R_drew)); exact (Kd.R_mono (Kd.R_far (p := ⟨gb256, 1, none⟩) (Kd.R_far (p := ⟨gb256, 0, none⟩) (Kd.R_types HO252.out BK256.out (by decide)) (fun _ hk => hk.2) (.int .i64 t253)) (fun _ hk => hk.2) (.int .i64 t254)) (fun _ h_ => h_.1))) hb)) (Aside0.mk (Kd.R_lower (Kd.R_new' (Kd.R_new' ho0 (Kd.R_lt (by (with_reducible repeat (first | apply Kd.R_alloc | apply Kd.R_drewN | apply Kd.R_drew)); exact (Kd.R_mono (Kd.R_far (p := ⟨gb256, 1, none⟩) (Kd.R_far (p := ⟨gb256, 0, none⟩) (Kd.R_types HO229.out BK256.out (by decide)) (fun _ hk => hk.2) (.int .i64 t253)) (fun _ hk => hk.2) (.int .i64 t254)) (fun _ h_ => h_.1))))) (Kd.R_lt (by (with_reducible repeat (first | apply Kd.R_alloc | apply Kd.R_drewN | apply Kd.R_drew)); exact (Kd.R_mono (Kd.R_far (p := ⟨gb256, 1, none⟩) (Kd.R_far (p := ⟨gb256, 0, none⟩) (Kd.R_types HO245.out BK256.out (by decide)) (fun _ hk => hk.2) (.int .i64 t253)) (fun _ hk => hk.2) (.int .i64 t254)) (fun _ h_ => h_.1))))) (lqZ (GS.lB HB.out)))) (GS.kB BK240 hb) (Aside0.mk (bqB (g := gb256) (o := .cells #[.int .i64 t253, .int .i64 t254] 28 (0, 0)) (GS.bqZ BK256.out) hb)) (GS.kH HB hb); clear HO229 HO233 HO236 HO245 HO249 HO252 BK240 BK256 HB; obtain ⟨HO229, HO233, HO236, HO245, HO249, HO252, HO261, BK240, BK256, HB⟩ := q_; (try clear hb); (try clear hb2); (try clear hk); (try clear hi); (try clear ho0); obtain ⟨Ao52, co52, eo52⟩ := Kd.R_slice HO261.out; subst eo52) | ((with_reducible refine gqC (f := 12) rfl ?_); refine GS.gL (some 29) Try.func12 #[.agg #[.string t257, .int .i64 t258, .slice Ao52 t259.length co52, .int .i64 t262], .int .i64 5, .int .i64 1, .int .i64 5] ?_; (with_reducible refine (lying_Wet.calls k t257 t258 _ _ t259 t262 5 1 5 t263 t264 t265 _ ?side1 ?side2 A6.out).mono ?_); (case side1 => repeat (first | exact (Kd.R_reads' HO261.out).2.2 | (with_reducible refine Kd.C_alloc ?_ _) | (with_reducible refine Kd.C_drewN ?_ _) | (with_reducible refine Kd.C_drew ?_))); (case side2 => exact (Kd.R_reads' HO261.out).2.1); rintro e w53 ⟨rfl, hb⟩; refine ⟨_, rfl, ?_⟩; have q_ := GS.q10 (GS.kR HO229 hb) (GS.kR HO233 hb) (GS.kR HO236 hb) (GS.kR HO245 hb) (GS.kR HO249 hb) (GS.kR HO252 hb) (GS.kR HO261 hb) (GS.kB BK240 hb) (GS.kB BK256 hb) (GS.kH HB hb); clear HO229 HO233 HO236 HO245 HO249 HO252 HO261 BK240 BK256 HB; obtain ⟨HO229, HO233, HO236, HO245, HO249, HO252, HO261, BK240, BK256, HB⟩ := q_; (try clear hb); (try clear hb2); (try clear hk); (try clear hi)) | ((with_reducible refine gqD (N := 5) rfl ?_); (try (refine gate_guard (by rfl) ?_; dsimp only)); refine GS.bx (N := 5) (cs := #[.int .i64 0, .int .i64 0]) (t := 28) ?_; intro gb266 hg w54 hbox hb; have q_ := And.intro (GS.kR HO229 hb) (And.intro (GS.kR HO233 hb) (And.intro (GS.kR HO236 hb) (And.intro (GS.kR HO245 hb) (And.intro (GS.kR HO249 hb) (And.intro (GS.kR HO252 hb) (And.intro (GS.kR HO261 hb) (And.intro (GS.kB BK240 hb) (And.intro (GS.kB BK256 hb) (And.intro (GS.kH HB hb) (And.intro (Aside0.mk hbox) (And.intro (GS.kZ hg HB) (And.intro (GS.kZ hg HB) (And.intro (Aside0.mk ((by rw [hg]; exact Nat.ne_of_lt (blk_lt (GS.bqX BK240.out)) : gb240 ≠ gb266))) (And.intro (Aside0.mk ((by rw [hg]; exact Nat.ne_of_gt (blk_lt (GS.bqX BK240.out)) : gb266 ≠ gb240))) (And.intro (Aside0.mk ((by rw [hg]; exact Nat.ne_of_lt (blk_lt (GS.bqX BK256.out)) : gb256 ≠ gb266))) (Aside0.mk ((by rw [hg]; exact Nat.ne_of_gt (blk_lt (GS.bqX BK256.out)) : gb266 ≠ gb256)))))))))))))))))); clear HO229 HO233 HO236 HO245 HO249 HO252 HO261 BK240 BK256 HB; obtain ⟨HO229, HO233, HO236, HO245, HO249, HO252, HO261, BK240, BK256, HB, BK266, GW266, GE266, NB240_266, NB266_240, NB256_266, NB266_256⟩ := q_; clear hb hbox hg; have hnb55 := NB266_240.out; have hnc55 := NB240_266.out; have hnb56 := NB266_256.out; have hnc56 := NB256_266.out; obtain ⟨hcz57_0, hcz57_1, hfz57_0, hfz57_1⟩ := GS.c2 BK266.out) | ((with_reducible refine gqC (f := 38) rfl ?_); refine GS.gL (some 33) Try.func38 #[] ?_; (with_reducible refine (spilelaw11_Drum.calls  t267 t268 t269 t272 _ A7.out).mono ?_); rintro e w58 ⟨v270, rfl, ho0, hb⟩; refine ⟨_, rfl, ?_⟩; have q_ := GS.q12 (Aside0.mk (Kd.R_elder' (by (with_reducible repeat (first | apply Kd.R_alloc | apply Kd.R_drewN | apply Kd.R_drew)); exact (Kd.R_mono (Kd.R_far (p := ⟨gb266, 1, none⟩) (Kd.R_far (p := ⟨gb266, 0, none⟩) (Kd.R_types HO229.out BK266.out (by decide)) (fun _ hk => hk.2) (.int .i64 t263)) (fun _ hk => hk.2) (.int .i64 t264)) (fun _ h_ => h_.1))) (Kd.R_base ho0) hb)) (Aside0.mk (Kd.R_below (by (with_reducible repeat (first | apply Kd.R_alloc | apply Kd.R_drewN | apply Kd.R_drew)); exact (Kd.R_mono (Kd.R_far (p := ⟨gb266, 1, none⟩) (Kd.R_far (p := ⟨gb266, 0, none⟩) (Kd.R_types HO233.out BK266.out (by decide)) (fun _ hk => hk.2) (.int .i64 t263)) (fun _ hk => hk.2) (.int .i64 t264)) (fun _ h_ => h_.1))) hb)) (Aside0.mk (Kd.R_below (by (with_reducible repeat (first | apply Kd.R_alloc | apply Kd.R_drewN | apply Kd.R_drew)); exact (Kd.R_mono (Kd.R_far (p := ⟨gb266, 1, none⟩) (Kd.R_far (p := ⟨gb266, 0, none⟩) (Kd.R_types HO236.out BK266.out (by decide)) (fun _ hk => hk.2) (.int .i64 t263)) (fun _ hk => hk.2) (.int .i64 t264)) (fun _ h_ => h_.1))) hb)) (Aside0.mk (Kd.R_elder' (by (with_reducible repeat (first | apply Kd.R_alloc | apply Kd.R_drewN | apply Kd.R_drew)); exact (Kd.R_mono (Kd.R_far (p := ⟨gb266, 1, none⟩) (Kd.R_far (p := ⟨gb266, 0, none⟩) (Kd.R_types HO245.out BK266.out (by decide)) (fun _ hk => hk.2) (.int .i64 t263)) (fun _ hk => hk.2) (.int .i64 t264)) (fun _ h_ => h_.1))) (Kd.R_base ho0) hb)) (Aside0.mk (Kd.R_below (by (with_reducible repeat (first | apply Kd.R_alloc | apply Kd.R_drewN | apply Kd.R_drew)); exact (Kd.R_mono (Kd.R_far (p := ⟨gb266, 1, none⟩) (Kd.R_far (p := ⟨gb266, 0, none⟩) (Kd.R_types HO249.out BK266.out (by decide)) (fun _ hk => hk.2) (.int .i64 t263)) (fun _ hk => hk.2) (.int .i64 t264)) (fun _ h_ => h_.1))) hb)) (Aside0.mk (Kd.R_below (by (with_reducible repeat (first | apply Kd.R_alloc | apply Kd.R_drewN | apply Kd.R_drew)); exact (Kd.R_mono (Kd.R_far (p := ⟨gb266, 1, none⟩) (Kd.R_far (p := ⟨gb266, 0, none⟩) (Kd.R_types HO252.out BK266.out (by decide)) (fun _ hk => hk.2) (.int .i64 t263)) (fun _ hk => hk.2) (.int .i64 t264)) (fun _ h_ => h_.1))) hb)) (Aside0.mk (Kd.R_elder' (by (with_reducible repeat (first | apply Kd.R_alloc | apply Kd.R_drewN | apply Kd.R_drew)); exact (Kd.R_mono (Kd.R_far (p := ⟨gb266, 1, none⟩) (Kd.R_far (p := ⟨gb266, 0, none⟩) (Kd.R_types HO261.out BK266.out (by decide)) (fun _ hk => hk.2) (.int .i64 t263)) (fun _ hk => hk.2) (.int .i64 t264)) (fun _ h_ => h_.1))) (Kd.R_base ho0) hb)) (Aside0.mk (Kd.R_lower (Kd.R_new' (Kd.R_new' (Kd.R_new' ho0 (Kd.R_lt (by (with_reducible repeat (first | apply Kd.R_alloc | apply Kd.R_drewN | apply Kd.R_drew)); exact (Kd.R_mono (Kd.R_far (p := ⟨gb266, 1, none⟩) (Kd.R_far (p := ⟨gb266, 0, none⟩) (Kd.R_types HO229.out BK266.out (by decide)) (fun _ hk => hk.2) (.int .i64 t263)) (fun _ hk => hk.2) (.int .i64 t264)) (fun _ h_ => h_.1))))) (Kd.R_lt (by (with_reducible repeat (first | apply Kd.R_alloc | apply Kd.R_drewN | apply Kd.R_drew)); exact (Kd.R_mono (Kd.R_far (p := ⟨gb266, 1, none⟩) (Kd.R_far (p := ⟨gb266, 0, none⟩) (Kd.R_types HO245.out BK266.out (by decide)) (fun _ hk => hk.2) (.int .i64 t263)) (fun _ hk => hk.2) (.int .i64 t264)) (fun _ h_ => h_.1))))) (Kd.R_lt (by (with_reducible repeat (first | apply Kd.R_alloc | apply Kd.R_drewN | apply Kd.R_drew)); exact (Kd.R_mono (Kd.R_far (p := ⟨gb266, 1, none⟩) (Kd.R_far (p := ⟨gb266, 0, none⟩) (Kd.R_types HO261.out BK266.out (by decide)) (fun _ hk => hk.2) (.int .i64 t263)) (fun _ hk => hk.2) (.int .i64 t264)) (fun _ h_ => h_.1))))) (lqZ (GS.lB HB.out)))) (GS.kB BK240 hb) (GS.kB BK256 hb) (Aside0.mk (bqB (g := gb266) (o := .cells #[.int .i64 t263, .int .i64 t264] 28 (0, 0)) (GS.bqZ BK266.out) hb)) (GS.kH HB hb); clear HO229 HO233 HO236 HO245 HO249 HO252 HO261 BK240 BK256 BK266 HB; obtain ⟨HO229, HO233, HO236, HO245, HO249, HO252, HO261, HO271, BK240, BK256, BK266, HB⟩ := q_; (try clear hb); (try clear hb2); (try clear hk); (try clear hi); (try clear ho0); obtain ⟨Ao59, co59, eo59⟩ := Kd.R_slice HO271.out; subst eo59) | ((with_reducible refine gqC (f := 15) rfl ?_); refine GS.gL (some 34) Try.func15 #[.agg #[.string t267, .int .i64 t268, .slice Ao59 t269.length co59, .int .i64 t272], .int .i64 5, .int .i64 1, .int .i64 5] ?_; (with_reducible refine (lying_Dry.calls k t267 t268 _ _ t269 t272 5 1 5 t273 t274 t275 _ ?side1 ?side2 A8.out).mono ?_); (case side1 => repeat (first | exact (Kd.R_reads' HO271.out).2.2 | (with_reducible refine Kd.C_alloc ?_ _) | (with_reducible refine Kd.C_drewN ?_ _) | (with_reducible refine Kd.C_drew ?_))); (case side2 => exact (Kd.R_reads' HO271.out).2.1); rintro e w60 ⟨rfl, hb⟩; refine ⟨_, rfl, ?_⟩; have q_ := GS.q12 (GS.kR HO229 hb) (GS.kR HO233 hb) (GS.kR HO236 hb) (GS.kR HO245 hb) (GS.kR HO249 hb) (GS.kR HO252 hb) (GS.kR HO261 hb) (GS.kR HO271 hb) (GS.kB BK240 hb) (GS.kB BK256 hb) (GS.kB BK266 hb) (GS.kH HB hb); clear HO229 HO233 HO236 HO245 HO249 HO252 HO261 HO271 BK240 BK256 BK266 HB; obtain ⟨HO229, HO233, HO236, HO245, HO249, HO252, HO261, HO271, BK240, BK256, BK266, HB⟩ := q_; (try clear hb); (try clear hb2); (try clear hk); (try clear hi)) | ((with_reducible refine gqD (N := 7) rfl ?_); (try (refine gate_guard (by rfl) ?_; dsimp only)); refine GS.bx (N := 7) (cs := #[.int .i64 0, .int .i64 0]) (t := 28) ?_; intro gb276 hg w61 hbox hb; have q_ := And.intro (GS.kR HO229 hb) (And.intro (GS.kR HO233 hb) (And.intro (GS.kR HO236 hb) (And.intro (GS.kR HO245 hb) (And.intro (GS.kR HO249 hb) (And.intro (GS.kR HO252 hb) (And.intro (GS.kR HO261 hb) (And.intro (GS.kR HO271 hb) (And.intro (GS.kB BK240 hb) (And.intro (GS.kB BK256 hb) (And.intro (GS.kB BK266 hb) (And.intro (GS.kH HB hb) (And.intro (Aside0.mk hbox) (And.intro (GS.kZ hg HB) (And.intro (GS.kZ hg HB) (And.intro (Aside0.mk ((by rw [hg]; exact Nat.ne_of_lt (blk_lt (GS.bqX BK240.out)) : gb240 ≠ gb276))) (And.intro (Aside0.mk ((by rw [hg]; exact Nat.ne_of_gt (blk_lt (GS.bqX BK240.out)) : gb276 ≠ gb240))) (And.intro (Aside0.mk ((by rw [hg]; exact Nat.ne_of_lt (blk_lt (GS.bqX BK256.out)) : gb256 ≠ gb276))) (And.intro (Aside0.mk ((by rw [hg]; exact Nat.ne_of_gt (blk_lt (GS.bqX BK256.out)) : gb276 ≠ gb256))) (And.intro (Aside0.mk ((by rw [hg]; exact Nat.ne_of_lt (blk_lt (GS.bqX BK266.out)) : gb266 ≠ gb276))) (Aside0.mk ((by rw [hg]; exact Nat.ne_of_gt (blk_lt (GS.bqX BK266.out)) : gb276 ≠ gb266)))))))))))))))))))))); clear HO229 HO233 HO236 HO245 HO249 HO252 HO261 HO271 BK240 BK256 BK266 HB; obtain ⟨HO229, HO233, HO236, HO245, HO249, HO252, HO261, HO271, BK240, BK256, BK266, HB, BK276, GW276, GE276, NB240_276, NB276_240, NB256_276, NB276_256, NB266_276, NB276_266⟩ := q_; clear hb hbox hg; have hnb62 := NB276_240.out; have hnc62 := NB240_276.out; have hnb63 := NB276_256.out; have hnc63 := NB256_276.out; have hnb64 := NB276_266.out; have hnc64 := NB266_276.out; obtain ⟨hcz65_0, hcz65_1, hfz65_0, hfz65_1⟩ := GS.c2 BK276.out) | ((with_reducible refine gqD (N := 41) rfl ?_); (try (refine gate_guard (by rfl) ?_; dsimp only)); refine Kd.R_lit k39 _ 39 ?hg (N := 41) ?hd (xs := ([(⟨0, 1⟩ : S39), (⟨5, 2⟩ : S39), (⟨6, 2⟩ : S39)] : List (S39))) (inner := [.int .i64 0, .int .i64 1, .int .i64 5, .int .i64 2, .int .i64 6, .int .i64 2]) (ok := fun _ => True) (okp := fun _ => True) ?hr ?hp (fun _ hk => hk) trivial (Below.refl _ _) (Nat.le_refl _) (by simp) ?_; (case hd => rfl); (case hg => rfl); (case hr => first | (go_simp; done) | (go_simp; rfl)); (case hp => exact (Reps.c2 (show Kd.M k39 _ _ _ (⟨0, 1⟩ : S39) [.int .i64 0, .int .i64 1] from (k39_mkM _ _ _ (⟨0, 1⟩ : S39) )) (Reps.c2 (show Kd.M k39 _ _ _ (⟨5, 2⟩ : S39) [.int .i64 5, .int .i64 2] from (k39_mkM _ _ _ (⟨5, 2⟩ : S39) )) (Reps.c2 (show Kd.M k39 _ _ _ (⟨6, 2⟩ : S39) [.int .i64 6, .int .i64 2] from (k39_mkM _ _ _ (⟨6, 2⟩ : S39) )) (Reps.none _ _))))); intro v278 w66 ho67 hb hg_ hnew_; clear hg_ hnew_; (first | rw [← Ny277.out] at ho67 | (simp only [Int.reduceToNat] at ho67; rw [← Ny277.out] at ho67)); have q_ := GS.q14 (Aside0.mk (Kd.R_elder' (by (with_reducible repeat (first | apply Kd.R_alloc | apply Kd.R_drewN | apply Kd.R_drew)); exact (Kd.R_mono (Kd.R_far (p := ⟨gb276, 1, none⟩) (Kd.R_far (p := ⟨gb276, 0, none⟩) (Kd.R_types HO229.out BK276.out (by decide)) (fun _ hk => hk.2) (.int .i64 t273)) (fun _ hk => hk.2) (.int .i64 t274)) (fun _ h_ => h_.1))) (Kd.R_base ho67) hb)) (Aside0.mk (Kd.R_below (by (with_reducible repeat (first | apply Kd.R_alloc | apply Kd.R_drewN | apply Kd.R_drew)); exact (Kd.R_mono (Kd.R_far (p := ⟨gb276, 1, none⟩) (Kd.R_far (p := ⟨gb276, 0, none⟩) (Kd.R_types HO233.out BK276.out (by decide)) (fun _ hk => hk.2) (.int .i64 t273)) (fun _ hk => hk.2) (.int .i64 t274)) (fun _ h_ => h_.1))) hb)) (Aside0.mk (Kd.R_below (by (with_reducible repeat (first | apply Kd.R_alloc | apply Kd.R_drewN | apply Kd.R_drew)); exact (Kd.R_mono (Kd.R_far (p := ⟨gb276, 1, none⟩) (Kd.R_far (p := ⟨gb276, 0, none⟩) (Kd.R_types HO236.out BK276.out (by decide)) (fun _ hk => hk.2) (.int .i64 t273)) (fun _ hk => hk.2) (.int .i64 t274)) (fun _ h_ => h_.1))) hb)) (Aside0.mk (Kd.R_elder' (by (with_reducible repeat (first | apply Kd.R_alloc | apply Kd.R_drewN | apply Kd.R_drew)); exact (Kd.R_mono (Kd.R_far (p := ⟨gb276, 1, none⟩) (Kd.R_far (p := ⟨gb276, 0, none⟩) (Kd.R_types HO245.out BK276.out (by decide)) (fun _ hk => hk.2) (.int .i64 t273)) (fun _ hk => hk.2) (.int .i64 t274)) (fun _ h_ => h_.1))) (Kd.R_base ho67) hb)) (Aside0.mk (Kd.R_below (by (with_reducible repeat (first | apply Kd.R_alloc | apply Kd.R_drewN | apply Kd.R_drew)); exact (Kd.R_mono (Kd.R_far (p := ⟨gb276, 1, none⟩) (Kd.R_far (p := ⟨gb276, 0, none⟩) (Kd.R_types HO249.out BK276.out (by decide)) (fun _ hk => hk.2) (.int .i64 t273)) (fun _ hk => hk.2) (.int .i64 t274)) (fun _ h_ => h_.1))) hb)) (Aside0.mk (Kd.R_below (by (with_reducible repeat (first | apply Kd.R_alloc | apply Kd.R_drewN | apply Kd.R_drew)); exact (Kd.R_mono (Kd.R_far (p := ⟨gb276, 1, none⟩) (Kd.R_far (p := ⟨gb276, 0, none⟩) (Kd.R_types HO252.out BK276.out (by decide)) (fun _ hk => hk.2) (.int .i64 t273)) (fun _ hk => hk.2) (.int .i64 t274)) (fun _ h_ => h_.1))) hb)) (Aside0.mk (Kd.R_elder' (by (with_reducible repeat (first | apply Kd.R_alloc | apply Kd.R_drewN | apply Kd.R_drew)); exact (Kd.R_mono (Kd.R_far (p := ⟨gb276, 1, none⟩) (Kd.R_far (p := ⟨gb276, 0, none⟩) (Kd.R_types HO261.out BK276.out (by decide)) (fun _ hk => hk.2) (.int .i64 t273)) (fun _ hk => hk.2) (.int .i64 t274)) (fun _ h_ => h_.1))) (Kd.R_base ho67) hb)) (Aside0.mk (Kd.R_elder' (by (with_reducible repeat (first | apply Kd.R_alloc | apply Kd.R_drewN | apply Kd.R_drew)); exact (Kd.R_mono (Kd.R_far (p := ⟨gb276, 1, none⟩) (Kd.R_far (p := ⟨gb276, 0, none⟩) (Kd.R_types HO271.out BK276.out (by decide)) (fun _ hk => hk.2) (.int .i64 t273)) (fun _ hk => hk.2) (.int .i64 t274)) (fun _ h_ => h_.1))) (Kd.R_base ho67) hb)) (Aside0.mk (Kd.R_lower (Kd.R_new' (Kd.R_new' (Kd.R_new' (Kd.R_new' ho67 (Kd.R_lt (by (with_reducible repeat (first | apply Kd.R_alloc | apply Kd.R_drewN | apply Kd.R_drew)); exact (Kd.R_mono (Kd.R_far (p := ⟨gb276, 1, none⟩) (Kd.R_far (p := ⟨gb276, 0, none⟩) (Kd.R_types HO229.out BK276.out (by decide)) (fun _ hk => hk.2) (.int .i64 t273)) (fun _ hk => hk.2) (.int .i64 t274)) (fun _ h_ => h_.1))))) (Kd.R_lt (by (with_reducible repeat (first | apply Kd.R_alloc | apply Kd.R_drewN | apply Kd.R_drew)); exact (Kd.R_mono (Kd.R_far (p := ⟨gb276, 1, none⟩) (Kd.R_far (p := ⟨gb276, 0, none⟩) (Kd.R_types HO245.out BK276.out (by decide)) (fun _ hk => hk.2) (.int .i64 t273)) (fun _ hk => hk.2) (.int .i64 t274)) (fun _ h_ => h_.1))))) (Kd.R_lt (by (with_reducible repeat (first | apply Kd.R_alloc | apply Kd.R_drewN | apply Kd.R_drew)); exact (Kd.R_mono (Kd.R_far (p := ⟨gb276, 1, none⟩) (Kd.R_far (p := ⟨gb276, 0, none⟩) (Kd.R_types HO261.out BK276.out (by decide)) (fun _ hk => hk.2) (.int .i64 t273)) (fun _ hk => hk.2) (.int .i64 t274)) (fun _ h_ => h_.1))))) (Kd.R_lt (by (with_reducible repeat (first | apply Kd.R_alloc | apply Kd.R_drewN | apply Kd.R_drew)); exact (Kd.R_mono (Kd.R_far (p := ⟨gb276, 1, none⟩) (Kd.R_far (p := ⟨gb276, 0, none⟩) (Kd.R_types HO271.out BK276.out (by decide)) (fun _ hk => hk.2) (.int .i64 t273)) (fun _ hk => hk.2) (.int .i64 t274)) (fun _ h_ => h_.1))))) (lqZ (GS.lB HB.out)))) (GS.kB BK240 hb) (GS.kB BK256 hb) (GS.kB BK266 hb) (Aside0.mk (bqB (g := gb276) (o := .cells #[.int .i64 t273, .int .i64 t274] 28 (0, 0)) (GS.bqZ BK276.out) hb)) (GS.kH HB hb); clear HO229 HO233 HO236 HO245 HO249 HO252 HO261 HO271 BK240 BK256 BK266 BK276 HB; obtain ⟨HO229, HO233, HO236, HO245, HO249, HO252, HO261, HO271, HO279, BK240, BK256, BK266, BK276, HB⟩ := q_; clear hb ho67; obtain ⟨Ao68, co68, eo68⟩ := Kd.R_slice HO279.out; subst eo68) | ((with_reducible refine gqC (f := 17) rfl ?_); refine GS.gL (some 42) Try.func17 #[.slice Ao68 y277.length co68, .int .i64 2] ?_; (with_reducible refine (lying_Slices.calls k _ _ y277 2 t280 t281 _ ?side1 ?side2 A9.out).mono ?_); (case side1 => repeat (first | exact (Kd.R_reads' HO279.out).2.2 | (with_reducible refine Kd.C_alloc ?_ _) | (with_reducible refine Kd.C_drewN ?_ _) | (with_reducible refine Kd.C_drew ?_))); (case side2 => exact (Kd.R_reads' HO279.out).2.1); rintro e w69 ⟨v282, rfl, ho0, hb⟩; refine ⟨_, rfl, ?_⟩; have q_ := GS.q15 (GS.kR HO229 hb) (GS.kE HO233 ho0 hb) (GS.kE HO236 ho0 hb) (GS.kR HO245 hb) (GS.kE HO249 ho0 hb) (GS.kE HO252 ho0 hb) (GS.kR HO261 hb) (GS.kR HO271 hb) (GS.kR HO279 hb) (Aside0.mk (Kd.R_lower (Kd.R_new' (Kd.R_new' (Kd.R_new' (Kd.R_new' ho0 (Kd.R_lt (GS.rR HO233.out))) (Kd.R_lt (GS.rR HO236.out))) (Kd.R_lt (GS.rR HO249.out))) (Kd.R_lt (GS.rR HO252.out))) (lqZ (GS.lB HB.out)))) (GS.kB BK240 hb) (GS.kB BK256 hb) (GS.kB BK266 hb) (GS.kB BK276 hb) (GS.kH HB hb); clear HO229 HO233 HO236 HO245 HO249 HO252 HO261 HO271 HO279 BK240 BK256 BK266 BK276 HB; obtain ⟨HO229, HO233, HO236, HO245, HO249, HO252, HO261, HO271, HO279, HO283, BK240, BK256, BK266, BK276, HB⟩ := q_; (try clear hb); (try clear hb2); (try clear hk); (try clear hi); (try clear ho0)) | ((with_reducible refine gqC (f := 38) rfl ?_); refine GS.gL (some 46) Try.func38 #[] ?_; (with_reducible refine (spilelaw11_Drum.calls  t284 t285 t286 t289 _ A10.out).mono ?_); rintro e w70 ⟨v287, rfl, ho0, hb⟩; refine ⟨_, rfl, ?_⟩; have q_ := GS.q16 (GS.kE HO229 ho0 hb) (GS.kR HO233 hb) (GS.kR HO236 hb) (GS.kE HO245 ho0 hb) (GS.kR HO249 hb) (GS.kR HO252 hb) (GS.kE HO261 ho0 hb) (GS.kE HO271 ho0 hb) (GS.kE HO279 ho0 hb) (GS.kR HO283 hb) (Aside0.mk (Kd.R_lower (Kd.R_new' (Kd.R_new' (Kd.R_new' (Kd.R_new' (Kd.R_new' ho0 (Kd.R_lt (GS.rR HO229.out))) (Kd.R_lt (GS.rR HO245.out))) (Kd.R_lt (GS.rR HO261.out))) (Kd.R_lt (GS.rR HO271.out))) (Kd.R_lt (GS.rR HO279.out))) (lqZ (GS.lB HB.out)))) (GS.kB BK240 hb) (GS.kB BK256 hb) (GS.kB BK266 hb) (GS.kB BK276 hb) (GS.kH HB hb); clear HO229 HO233 HO236 HO245 HO249 HO252 HO261 HO271 HO279 HO283 BK240 BK256 BK266 BK276 HB; obtain ⟨HO229, HO233, HO236, HO245, HO249, HO252, HO261, HO271, HO279, HO283, HO288, BK240, BK256, BK266, BK276, HB⟩ := q_; (try clear hb); (try clear hb2); (try clear hk); (try clear hi); (try clear ho0)) | ((with_reducible refine gqD (N := 47) rfl ?_); (try (refine gate_guard (by rfl) ?_; dsimp only)); refine Kd.R_lit (Kd.int .i64) _ 3 ?hg (N := 47) ?hd (xs := ([0, 10] : List Int)) (inner := [.int .i64 0, .int .i64 10]) (ok := fun _ => True) (okp := fun _ => True) ?hr ?hp (fun _ hk => hk) trivial (Below.refl _ _) (Nat.le_refl _) (by simp) ?_; (case hd => rfl); (case hg => rfl); (case hr => first | (go_simp; done) | (go_simp; rfl)); (case hp => exact (Reps.one (show Kd.M (Kd.int .i64) _ _ _ 0 [.int .i64 0] from rfl) (Reps.one (show Kd.M (Kd.int .i64) _ _ _ 10 [.int .i64 10] from rfl) (Reps.none _ _)))); intro v291 w71 ho72 hb hg_ hnew_; clear hg_ hnew_; (first | rw [← Ny290.out] at ho72 | (simp only [Int.reduceToNat] at ho72; rw [← Ny290.out] at ho72)); have q_ := And.intro (GS.kR HO229 hb) (And.intro (GS.kE HO233 ho72 hb) (And.intro (GS.kE HO236 ho72 hb) (And.intro (GS.kR HO245 hb) (And.intro (GS.kE HO249 ho72 hb) (And.intro (GS.kE HO252 ho72 hb) (And.intro (GS.kR HO261 hb) (And.intro (GS.kR HO271 hb) (And.intro (GS.kR HO279 hb) (And.intro (GS.kE HO283 ho72 hb) (And.intro (GS.kR HO288 hb) (And.intro (Aside0.mk (Kd.R_lower (Kd.R_new' (Kd.R_new' (Kd.R_new' (Kd.R_new' (Kd.R_new' ho72 (Kd.R_lt (GS.rR HO233.out))) (Kd.R_lt (GS.rR HO236.out))) (Kd.R_lt (GS.rR HO249.out))) (Kd.R_lt (GS.rR HO252.out))) (Kd.R_lt (GS.rR HO283.out))) (lqZ (GS.lB HB.out)))) (And.intro (GS.kB BK240 hb) (And.intro (GS.kB BK256 hb) (And.intro (GS.kB BK266 hb) (And.intro (GS.kB BK276 hb) (GS.kH HB hb)))))))))))))))); clear HO229 HO233 HO236 HO245 HO249 HO252 HO261 HO271 HO279 HO283 HO288 BK240 BK256 BK266 BK276 HB; obtain ⟨HO229, HO233, HO236, HO245, HO249, HO252, HO261, HO271, HO279, HO283, HO288, HO292, BK240, BK256, BK266, BK276, HB⟩ := q_; clear hb ho72) | ((with_reducible refine gqD (N := 48) rfl ?_); (try (refine gate_guard (by rfl) ?_; dsimp only)); refine Kd.R_lit (Kd.int .i64) _ 3 ?hg (N := 48) ?hd (xs := ([0, 2, 5] : List Int)) (inner := [.int .i64 0, .int .i64 2, .int .i64 5]) (ok := fun _ => True) (okp := fun _ => True) ?hr ?hp (fun _ hk => hk) trivial (Below.refl _ _) (Nat.le_refl _) (by simp) ?_; (case hd => rfl); (case hg => rfl); (case hr => first | (go_simp; done) | (go_simp; rfl)); (case hp => exact (Reps.one (show Kd.M (Kd.int .i64) _ _ _ 0 [.int .i64 0] from rfl) (Reps.one (show Kd.M (Kd.int .i64) _ _ _ 2 [.int .i64 2] from rfl) (Reps.one (show Kd.M (Kd.int .i64) _ _ _ 5 [.int .i64 5] from rfl) (Reps.none _ _))))); intro v294 w73 ho74 hb hg_ hnew_; clear hg_ hnew_; (first | rw [← Ny293.out] at ho74 | (simp only [Int.reduceToNat] at ho74; rw [← Ny293.out] at ho74)); have q_ := And.intro (GS.kR HO229 hb) (And.intro (GS.kE HO233 ho74 hb) (And.intro (GS.kE HO236 ho74 hb) (And.intro (GS.kR HO245 hb) (And.intro (GS.kE HO249 ho74 hb) (And.intro (GS.kE HO252 ho74 hb) (And.intro (GS.kR HO261 hb) (And.intro (GS.kR HO271 hb) (And.intro (GS.kR HO279 hb) (And.intro (GS.kE HO283 ho74 hb) (And.intro (GS.kR HO288 hb) (And.intro (GS.kE HO292 ho74 hb) (And.intro (Aside0.mk (Kd.R_lower (Kd.R_new' (Kd.R_new' (Kd.R_new' (Kd.R_new' (Kd.R_new' (Kd.R_new' ho74 (Kd.R_lt (GS.rR HO233.out))) (Kd.R_lt (GS.rR HO236.out))) (Kd.R_lt (GS.rR HO249.out))) (Kd.R_lt (GS.rR HO252.out))) (Kd.R_lt (GS.rR HO283.out))) (Kd.R_lt (GS.rR HO292.out))) (lqZ (GS.lB HB.out)))) (And.intro (GS.kB BK240 hb) (And.intro (GS.kB BK256 hb) (And.intro (GS.kB BK266 hb) (And.intro (GS.kB BK276 hb) (GS.kH HB hb))))))))))))))))); clear HO229 HO233 HO236 HO245 HO249 HO252 HO261 HO271 HO279 HO283 HO288 HO292 BK240 BK256 BK266 BK276 HB; obtain ⟨HO229, HO233, HO236, HO245, HO249, HO252, HO261, HO271, HO279, HO283, HO288, HO292, HO295, BK240, BK256, BK266, BK276, HB⟩ := q_; clear hb ho74; obtain ⟨Ao75, co75, eo75⟩ := Kd.R_slice HO288.out; subst eo75; obtain ⟨Ao76, co76, eo76⟩ := Kd.R_slice HO292.out; subst eo76; obtain ⟨Ao77, co77, eo77⟩ := Kd.R_slice HO295.out; subst eo77) | ((with_reducible refine gqC (f := 26) rfl ?_); refine GS.gL (some 49) Try.func26 #[.agg #[.string t284, .int .i64 t285, .slice Ao75 t286.length co75, .int .i64 t289], .slice Ao76 y290.length co76, .slice Ao77 y293.length co77] ?_; (with_reducible refine (lying_Strips.calls k t284 t285 _ _ t286 t289 _ _ y290 _ _ y293 t296 t299 _ ?side1 ?side2 ?side3 ?side4 ?side5 ?side6 A11.out).mono ?_); (case side1 => repeat (first | exact (Kd.R_reads' HO288.out).2.2 | (with_reducible refine Kd.C_alloc ?_ _) | (with_reducible refine Kd.C_drewN ?_ _) | (with_reducible refine Kd.C_drew ?_))); (case side2 => exact (Kd.R_reads' HO288.out).2.1); (case side3 => repeat (first | exact (Kd.R_reads' HO292.out).2.2 | (with_reducible refine Kd.C_alloc ?_ _) | (with_reducible refine Kd.C_drewN ?_ _) | (with_reducible refine Kd.C_drew ?_))); (case side4 => exact (Kd.R_reads' HO292.out).2.1); (case side5 => repeat (first | exact (Kd.R_reads' HO295.out).2.2 | (with_reducible refine Kd.C_alloc ?_ _) | (with_reducible refine Kd.C_drewN ?_ _) | (with_reducible refine Kd.C_drew ?_))); (case side6 => exact (Kd.R_reads' HO295.out).2.1); rintro e w78 ⟨v297, rfl, ho0, hb⟩; refine ⟨_, rfl, ?_⟩; have q_ := And.intro (GS.kR HO229 hb) (And.intro (GS.kR HO233 hb) (And.intro (GS.kR HO236 hb) (And.intro (GS.kR HO245 hb) (And.intro (GS.kR HO249 hb) (And.intro (GS.kR HO252 hb) (And.intro (GS.kR HO261 hb) (And.intro (GS.kR HO271 hb) (And.intro (GS.kR HO279 hb) (And.intro (GS.kR HO283 hb) (And.intro (GS.kR HO288 hb) (And.intro (GS.kR HO292 hb) (And.intro (GS.kR HO295 hb) (And.intro (Aside0.mk (Kd.R_lower (Kd.R_newB (Kd.R_newB (Kd.R_newB (Kd.R_newB ho0 (GS.bqX BK240.out)) (GS.bqX BK256.out)) (GS.bqX BK266.out)) (GS.bqX BK276.out)) (lqZ (GS.lB HB.out)))) (And.intro (GS.kB BK240 hb) (And.intro (GS.kB BK256 hb) (And.intro (GS.kB BK266 hb) (And.intro (GS.kB BK276 hb) (GS.kH HB hb)))))))))))))))))); clear HO229 HO233 HO236 HO245 HO249 HO252 HO261 HO271 HO279 HO283 HO288 HO292 HO295 BK240 BK256 BK266 BK276 HB; obtain ⟨HO229, HO233, HO236, HO245, HO249, HO252, HO261, HO271, HO279, HO283, HO288, HO292, HO295, HO298, BK240, BK256, BK266, BK276, HB⟩ := q_; (try clear hb); (try clear hb2); (try clear hk); (try clear hi); (try clear ho0); obtain ⟨hcz79_0, hcz79_1, hfz79_0, hfz79_1⟩ := GS.c2 BK240.out; obtain ⟨hcz80_0, hcz80_1, hfz80_0, hfz80_1⟩ := GS.c2 BK256.out; obtain ⟨hcz81_0, hcz81_1, hfz81_0, hfz81_1⟩ := GS.c2 BK266.out; obtain ⟨hcz82_0, hcz82_1, hfz82_0, hfz82_1⟩ := GS.c2 BK276.out) | ((with_reducible refine gqD (N := 96) rfl ?_); (try (refine gate_guard (by rfl) ?_; dsimp only)); refine Kd.R_lit (Kd.int .i64) _ 3 ?hg (N := 96) ?hd (xs := ([0, 2, 5, 6] : List Int)) (inner := [.int .i64 0, .int .i64 2, .int .i64 5, .int .i64 6]) (ok := fun _ => True) (okp := fun _ => True) ?hr ?hp (fun _ hk => hk) trivial (Below.refl _ _) (Nat.le_refl _) (by simp) ?_; (case hd => rfl); (case hg => rfl); (case hr => first | (go_simp; done) | (go_simp; rfl)); (case hp => exact (Reps.one (show Kd.M (Kd.int .i64) _ _ _ 0 [.int .i64 0] from rfl) (Reps.one (show Kd.M (Kd.int .i64) _ _ _ 2 [.int .i64 2] from rfl) (Reps.one (show Kd.M (Kd.int .i64) _ _ _ 5 [.int .i64 5] from rfl) (Reps.one (show Kd.M (Kd.int .i64) _ _ _ 6 [.int .i64 6] from rfl) (Reps.none _ _)))))); intro v301 w83 ho84 hb hg_ hnew_; clear hg_ hnew_; (first | rw [← Ny300.out] at ho84 | (simp only [Int.reduceToNat] at ho84; rw [← Ny300.out] at ho84)); have q_ := And.intro (GS.kR HO229 hb) (And.intro (GS.kE HO233 ho84 hb) (And.intro (GS.kE HO236 ho84 hb) (And.intro (GS.kR HO245 hb) (And.intro (GS.kE HO249 ho84 hb) (And.intro (GS.kE HO252 ho84 hb) (And.intro (GS.kR HO261 hb) (And.intro (GS.kR HO271 hb) (And.intro (GS.kR HO279 hb) (And.intro (GS.kE HO283 ho84 hb) (And.intro (GS.kR HO288 hb) (And.intro (GS.kE HO292 ho84 hb) (And.intro (GS.kE HO295 ho84 hb) (And.intro (GS.kR HO298 hb) (And.intro (Aside0.mk (Kd.R_lower (Kd.R_new' (Kd.R_new' (Kd.R_new' (Kd.R_new' (Kd.R_new' (Kd.R_new' (Kd.R_new' ho84 (Kd.R_lt (GS.rR HO233.out))) (Kd.R_lt (GS.rR HO236.out))) (Kd.R_lt (GS.rR HO249.out))) (Kd.R_lt (GS.rR HO252.out))) (Kd.R_lt (GS.rR HO283.out))) (Kd.R_lt (GS.rR HO292.out))) (Kd.R_lt (GS.rR HO295.out))) (lqZ (GS.lB HB.out)))) (And.intro (GS.kB BK240 hb) (And.intro (GS.kB BK256 hb) (And.intro (GS.kB BK266 hb) (And.intro (GS.kB BK276 hb) (GS.kH HB hb))))))))))))))))))); clear HO229 HO233 HO236 HO245 HO249 HO252 HO261 HO271 HO279 HO283 HO288 HO292 HO295 HO298 BK240 BK256 BK266 BK276 HB; obtain ⟨HO229, HO233, HO236, HO245, HO249, HO252, HO261, HO271, HO279, HO283, HO288, HO292, HO295, HO298, HO302, BK240, BK256, BK266, BK276, HB⟩ := q_; clear hb ho84; obtain ⟨Ao85, co85, eo85⟩ := Kd.R_slice HO283.out; subst eo85; obtain ⟨Ao86, co86, eo86⟩ := Kd.R_slice HO302.out; subst eo86) | (go_at_call 20; (with_reducible refine (slices_Equal_int_int.calls k _ _ t280 _ _ y300 true _ ?side1 ?side2 ?side3 ?side4 A22.out).mono ?_); (case side1 => repeat (first | exact (Kd.R_reads' HO283.out).2.2 | (with_reducible refine Kd.C_alloc ?_ _) | (with_reducible refine Kd.C_drewN ?_ _) | (with_reducible refine Kd.C_drew ?_))); (case side2 => exact (Kd.R_reads' HO283.out).2.1); (case side3 => repeat (first | exact (Kd.R_reads' HO302.out).2.2 | (with_reducible refine Kd.C_alloc ?_ _) | (with_reducible refine Kd.C_drewN ?_ _) | (with_reducible refine Kd.C_drew ?_))); (case side4 => exact (Kd.R_reads' HO302.out).2.1); rintro e w' ⟨rfl, ⟨nd, rfl⟩⟩) | ((with_reducible refine gqD (N := 103) rfl ?_); (try (refine gate_guard (by rfl) ?_; dsimp only)); refine Kd.R_lit k28 _ 28 ?hg (N := 103) ?hd (xs := ([(⟨0, 160⟩ : S28), (⟨240, 300⟩ : S28)] : List (S28))) (inner := [.int .i64 0, .int .i64 160, .int .i64 240, .int .i64 300]) (ok := fun _ => True) (okp := fun _ => True) ?hr ?hp (fun _ hk => hk) trivial (Below.refl _ _) (Nat.le_refl _) (by simp) ?_; (case hd => rfl); (case hg => rfl); (case hr => first | (go_simp; done) | (go_simp; rfl)); (case hp => exact (Reps.c2 (show Kd.M k28 _ _ _ (⟨0, 160⟩ : S28) [.int .i64 0, .int .i64 160] from (k28_mkM _ _ _ (⟨0, 160⟩ : S28) )) (Reps.c2 (show Kd.M k28 _ _ _ (⟨240, 300⟩ : S28) [.int .i64 240, .int .i64 300] from (k28_mkM _ _ _ (⟨240, 300⟩ : S28) )) (Reps.none _ _)))); intro v305 w87 ho88 hb hg_ hnew_; clear hg_ hnew_; (first | rw [← Ny304.out] at ho88 | (simp only [Int.reduceToNat] at ho88; rw [← Ny304.out] at ho88)); have q_ := And.intro (GS.kR HO229 hb) (And.intro (GS.kR HO233 hb) (And.intro (GS.kR HO236 hb) (And.intro (GS.kR HO245 hb) (And.intro (GS.kR HO249 hb) (And.intro (GS.kR HO252 hb) (And.intro (GS.kR HO261 hb) (And.intro (GS.kR HO271 hb) (And.intro (GS.kR HO279 hb) (And.intro (GS.kR HO283 hb) (And.intro (GS.kR HO288 hb) (And.intro (GS.kR HO292 hb) (And.intro (GS.kR HO295 hb) (And.intro (GS.kE HO298 ho88 hb) (And.intro (GS.kR HO302 hb) (And.intro (Aside0.mk (Kd.R_lower (Kd.R_newB (Kd.R_newB (Kd.R_newB (Kd.R_newB (Kd.R_new' ho88 (Kd.R_lt (GS.rR HO298.out))) (GS.bqX BK240.out)) (GS.bqX BK256.out)) (GS.bqX BK266.out)) (GS.bqX BK276.out)) (lqZ (GS.lB HB.out)))) (And.intro (GS.kB BK240 hb) (And.intro (GS.kB BK256 hb) (And.intro (GS.kB BK266 hb) (And.intro (GS.kB BK276 hb) (GS.kH HB hb)))))))))))))))))))); clear HO229 HO233 HO236 HO245 HO249 HO252 HO261 HO271 HO279 HO283 HO288 HO292 HO295 HO298 HO302 BK240 BK256 BK266 BK276 HB; obtain ⟨HO229, HO233, HO236, HO245, HO249, HO252, HO261, HO271, HO279, HO283, HO288, HO292, HO295, HO298, HO302, HO306, BK240, BK256, BK266, BK276, HB⟩ := q_; clear hb ho88; obtain ⟨Ao89, co89, eo89⟩ := Kd.R_slice HO298.out; subst eo89; obtain ⟨Ao90, co90, eo90⟩ := Kd.R_slice HO306.out; subst eo90) | (go_at_call 28; (with_reducible refine (api_Bounds.calls k _ _ t296 _ _ y304 true _ ?side1 ?side2 ?side3 ?side4 A24.out).mono ?_); (case side1 => repeat (first | exact (Kd.R_reads' HO298.out).2.2 | (with_reducible refine Kd.C_alloc ?_ _) | (with_reducible refine Kd.C_drewN ?_ _) | (with_reducible refine Kd.C_drew ?_))); (case side2 => exact (Kd.R_reads' HO298.out).2.1); (case side3 => repeat (first | exact (Kd.R_reads' HO306.out).2.2 | (with_reducible refine Kd.C_alloc ?_ _) | (with_reducible refine Kd.C_drewN ?_ _) | (with_reducible refine Kd.C_drew ?_))); (case side4 => exact (Kd.R_reads' HO306.out).2.1); rintro e w' ⟨rfl, ⟨nd, rfl⟩⟩) | (go_at_call 38; (with_reducible refine (spilelaw11_Drum.calls  t308 t309 t310 t313 _ A26.out).mono ?_); rintro e w91 ⟨v311, rfl, ho0, hb⟩; have q_ := And.intro (GS.kE HO229 ho0 hb) (And.intro (GS.kR HO233 hb) (And.intro (GS.kR HO236 hb) (And.intro (GS.kE HO245 ho0 hb) (And.intro (GS.kR HO249 hb) (And.intro (GS.kR HO252 hb) (And.intro (GS.kE HO261 ho0 hb) (And.intro (GS.kE HO271 ho0 hb) (And.intro (GS.kE HO279 ho0 hb) (And.intro (GS.kR HO283 hb) (And.intro (GS.kE HO288 ho0 hb) (And.intro (GS.kR HO292 hb) (And.intro (GS.kR HO295 hb) (And.intro (GS.kR HO298 hb) (And.intro (GS.kR HO302 hb) (And.intro (GS.kR HO306 hb) (And.intro (Aside0.mk (Kd.R_lower (Kd.R_new' (Kd.R_new' (Kd.R_new' (Kd.R_new' (Kd.R_new' (Kd.R_new' ho0 (Kd.R_lt (GS.rR HO229.out))) (Kd.R_lt (GS.rR HO245.out))) (Kd.R_lt (GS.rR HO261.out))) (Kd.R_lt (GS.rR HO271.out))) (Kd.R_lt (GS.rR HO279.out))) (Kd.R_lt (GS.rR HO288.out))) (lqZ (GS.lB HB.out)))) (And.intro (GS.kB BK240 hb) (And.intro (GS.kB BK256 hb) (And.intro (GS.kB BK266 hb) (And.intro (GS.kB BK276 hb) (GS.kH HB hb))))))))))))))))))))); clear HO229 HO233 HO236 HO245 HO249 HO252 HO261 HO271 HO279 HO283 HO288 HO292 HO295 HO298 HO302 HO306 BK240 BK256 BK266 BK276 HB; obtain ⟨HO229, HO233, HO236, HO245, HO249, HO252, HO261, HO271, HO279, HO283, HO288, HO292, HO295, HO298, HO302, HO306, HO312, BK240, BK256, BK266, BK276, HB⟩ := q_; (try clear hb); (try clear hb2); (try clear hk); (try clear hi); (try clear ho0)) | ((with_reducible refine gqD (N := 108) rfl ?_); (try (refine gate_guard (by rfl) ?_; dsimp only)); refine Kd.R_lit (Kd.int .i64) _ 3 ?hg (N := 108) ?hd (xs := ([0, 10] : List Int)) (inner := [.int .i64 0, .int .i64 10]) (ok := fun _ => True) (okp := fun _ => True) ?hr ?hp (fun _ hk => hk) trivial (Below.refl _ _) (Nat.le_refl _) (by simp) ?_; (case hd => rfl); (case hg => rfl); (case hr => first | (go_simp; done) | (go_simp; rfl)); (case hp => exact (Reps.one (show Kd.M (Kd.int .i64) _ _ _ 0 [.int .i64 0] from rfl) (Reps.one (show Kd.M (Kd.int .i64) _ _ _ 10 [.int .i64 10] from rfl) (Reps.none _ _)))); intro v315 w92 ho93 hb hg_ hnew_; clear hg_ hnew_; (first | rw [← Ny314.out] at ho93 | (simp only [Int.reduceToNat] at ho93; rw [← Ny314.out] at ho93)); have q_ := And.intro (GS.kR HO229 hb) (And.intro (GS.kE HO233 ho93 hb) (And.intro (GS.kE HO236 ho93 hb) (And.intro (GS.kR HO245 hb) (And.intro (GS.kE HO249 ho93 hb) (And.intro (GS.kE HO252 ho93 hb) (And.intro (GS.kR HO261 hb) (And.intro (GS.kR HO271 hb) (And.intro (GS.kR HO279 hb) (And.intro (GS.kE HO283 ho93 hb) (And.intro (GS.kR HO288 hb) (And.intro (GS.kE HO292 ho93 hb) (And.intro (GS.kE HO295 ho93 hb) (And.intro (GS.kR HO298 hb) (And.intro (GS.kE HO302 ho93 hb) (And.intro (GS.kR HO306 hb) (And.intro (GS.kR HO312 hb) (And.intro (Aside0.mk (Kd.R_lower (Kd.R_new' (Kd.R_new' (Kd.R_new' (Kd.R_new' (Kd.R_new' (Kd.R_new' (Kd.R_new' (Kd.R_new' ho93 (Kd.R_lt (GS.rR HO233.out))) (Kd.R_lt (GS.rR HO236.out))) (Kd.R_lt (GS.rR HO249.out))) (Kd.R_lt (GS.rR HO252.out))) (Kd.R_lt (GS.rR HO283.out))) (Kd.R_lt (GS.rR HO292.out))) (Kd.R_lt (GS.rR HO295.out))) (Kd.R_lt (GS.rR HO302.out))) (lqZ (GS.lB HB.out)))) (And.intro (GS.kB BK240 hb) (And.intro (GS.kB BK256 hb) (And.intro (GS.kB BK266 hb) (And.intro (GS.kB BK276 hb) (GS.kH HB hb)))))))))))))))))))))); clear HO229 HO233 HO236 HO245 HO249 HO252 HO261 HO271 HO279 HO283 HO288 HO292 HO295 HO298 HO302 HO306 HO312 BK240 BK256 BK266 BK276 HB; obtain ⟨HO229, HO233, HO236, HO245, HO249, HO252, HO261, HO271, HO279, HO283, HO288, HO292, HO295, HO298, HO302, HO306, HO312, HO316, BK240, BK256, BK266, BK276, HB⟩ := q_; clear hb ho93; obtain ⟨Ao94, co94, eo94⟩ := Kd.R_slice HO312.out; subst eo94; obtain ⟨Ao95, co95, eo95⟩ := Kd.R_slice HO316.out; subst eo95) | (go_at_call 21; (with_reducible refine (lying_Check.calls k t308 t309 _ _ t310 t313 _ _ y314 t317 _ ?side1 ?side2 ?side3 ?side4 A27.out).mono ?_); (case side1 => repeat (first | exact (Kd.R_reads' HO312.out).2.2 | (with_reducible refine Kd.C_alloc ?_ _) | (with_reducible refine Kd.C_drewN ?_ _) | (with_reducible refine Kd.C_drew ?_))); (case side2 => exact (Kd.R_reads' HO312.out).2.1); (case side3 => repeat (first | exact (Kd.R_reads' HO316.out).2.2 | (with_reducible refine Kd.C_alloc ?_ _) | (with_reducible refine Kd.C_drewN ?_ _) | (with_reducible refine Kd.C_drew ?_))); (case side4 => exact (Kd.R_reads' HO316.out).2.1); rintro e w96 ⟨rfl, hb⟩; have q_ := And.intro (GS.kR HO229 hb) (And.intro (GS.kR HO233 hb) (And.intro (GS.kR HO236 hb) (And.intro (GS.kR HO245 hb) (And.intro (GS.kR HO249 hb) (And.intro (GS.kR HO252 hb) (And.intro (GS.kR HO261 hb) (And.intro (GS.kR HO271 hb) (And.intro (GS.kR HO279 hb) (And.intro (GS.kR HO283 hb) (And.intro (GS.kR HO288 hb) (And.intro (GS.kR HO292 hb) (And.intro (GS.kR HO295 hb) (And.intro (GS.kR HO298 hb) (And.intro (GS.kR HO302 hb) (And.intro (GS.kR HO306 hb) (And.intro (GS.kR HO312 hb) (And.intro (GS.kR HO316 hb) (And.intro (GS.kB BK240 hb) (And.intro (GS.kB BK256 hb) (And.intro (GS.kB BK266 hb) (And.intro (GS.kB BK276 hb) (GS.kH HB hb)))))))))))))))))))))); clear HO229 HO233 HO236 HO245 HO249 HO252 HO261 HO271 HO279 HO283 HO288 HO292 HO295 HO298 HO302 HO306 HO312 HO316 BK240 BK256 BK266 BK276 HB; obtain ⟨HO229, HO233, HO236, HO245, HO249, HO252, HO261, HO271, HO279, HO283, HO288, HO292, HO295, HO298, HO302, HO306, HO312, HO316, BK240, BK256, BK266, BK276, HB⟩ := q_; (try clear hb); (try clear hb2); (try clear hk); (try clear hi)))
             go_ret
             exact ⟨by first | rfl | (simp [errW_none, errW_some] <;> rfl) | (simp [*, errW_none, errW_some] <;> rfl), GS.lB HB.out⟩
            ·replace c25 := Bool.eq_false_iff.mpr c25
             subst c25
             rw [if_neg (show ¬ (false = true) by decide)] at H
             exact absurd H (by simp)
           ·replace c23 := Bool.eq_false_iff.mpr c23
            subst c23
            rw [if_neg (show ¬ (false = true) by decide)] at H
            exact absurd H (by simp)
          ·rw [if_neg c21] at H
           exact absurd H (by simp)
         ·rw [if_neg c20] at H
          exact absurd H (by simp)
        ·rw [if_neg c19] at H
         exact absurd H (by simp)
       ·rw [if_neg c18] at H
        exact absurd H (by simp)
      ·rw [if_neg c17] at H
       exact absurd H (by simp)
     ·rw [if_neg c16] at H
      exact absurd H (by simp)
    ·rw [if_neg c15] at H
     exact absurd H (by simp)
   ·rw [if_neg c14] at H
    exact absurd H (by simp)
  ·rw [if_neg c13] at H
   exact absurd H (by simp)
 ·rw [if_neg c12] at H
  exact absurd H (by simp)
def spileref08_Few.f (l0 : List (S39)) : Option (Bool) := some (decide ((l0.length : Int) ≤ 33))
set_option maxHeartbeats 8000000 in
set_option maxRecDepth 100000 in
theorem spileref08_Few.calls (A0 : Option Addr) (c0 : Nat) (l0 : List (S39)) (r : Bool) (w : World) (hr0 : Kd.C k39 w A0 l0.length l0) (hc0 : l0.length ≤ c0) (h : spileref08_Few.f l0 = some r) :
  Calls Try.prog 71 #[.slice A0 l0.length c0] w fun e w' => e = .returned (.bool r) ∧ Drawn0 w w' := by
 have HR0 := Aside0.mk hr0
 have HC0 := Aside0.mk hc0
 clear hr0 hc0
 have H : (some (decide ((l0.length : Int) ≤ 33))) = some r := h
 clear h
 obtain rfl := Option.some.inj H
 go_enter Try.func71, Try.ntmps71
 go_wp2
 go_ret
 exact ⟨by first | rfl | (simp; done) | (simp [*]; done), by repeat (first | exact Drawn0.refl _ | apply Drawn0.step)⟩
end Go.Proofs.Ytefjmcljkmppoaa.K
