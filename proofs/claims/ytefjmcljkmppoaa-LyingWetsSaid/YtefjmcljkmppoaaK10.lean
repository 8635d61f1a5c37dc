import Derived.Test.YtefjmcljkmppoaaK0
import Derived.Test.YtefjmcljkmppoaaGShort
import Derived.Test.YtefjmcljkmppoaaGSym
import Derived.Test.YtefjmcljkmppoaaK9
import Derived.Test.YtefjmcljkmppoaaGFew
namespace Go.Proofs.Ytefjmcljkmppoaa.K
open Go.RowKit Go.Proofs.YtefjmcljkmppoaaW.PrintWords Go.Proofs.YtefjmcljkmppoaaW.PrintLast Go.Proofs.YtefjmcljkmppoaaW.PrintMore
attribute [local go_sem] max2_int min2_int max_two min_two max_three min_three max_four min_four   -- for this text's walks alone
set_option linter.unusedVariables false
set_option linter.unusedSimpArgs false
def spileref09_Few.l0 : Nat → List (S24) → Int → Option (Bool)
 | 0, _, _ => none
 | k + 1, x0, x3 => if x3 < (x0.length : Int) then (if 0 ≤ x3 then ((spileref08_Few.f ((rd_T24 x0 x3).f2)).bind fun t319 => (if t319 = true then (if (((rd_T24 x0 x3).f0).size : Int) > 70 then (some false) else (spileref09_Few.l0 k x0 (wrap64 (x3 + 1)))) else (some false))) else (none)) else (some (decide ((x0.length : Int) ≤ 33)))
def spileref09_Few.f (k : Nat) (l0 : List (S24)) : Option (Bool) := spileref09_Few.l0 k l0 0
set_option maxHeartbeats 8000000 in
set_option maxRecDepth 100000 in
theorem spileref09_Few.calls (k : Nat) (A0 : Option Addr) (c0 : Nat) (l0 : List (S24)) (r : Bool) (w : World) (hr0 : Kd.C k24 w A0 l0.length l0) (hc0 : l0.length ≤ c0) (h : spileref09_Few.f k l0 = some r) :
  Calls Try.prog 39 #[.slice A0 l0.length c0] w fun e w' => e = .returned (.bool r) ∧ Drawn0 w w' := by
 have HR0 := Aside0.mk hr0
 have HC0 := Aside0.mk hc0
 clear hr0 hc0
 have H : (spileref09_Few.l0 k l0 0) = some r := h
 clear h
 have H' := Aside0.mk H
 clear H
 go_enter Try.func39, Try.ntmps39
 go_wp2
 go_loopg [3] k (fun kq v3 w' => ∃ (x3_1 : Int), v3 = .int .i64 x3_1 ∧ Aside0 (spileref09_Few.l0 kq l0 x3_1 = some r) ∧ Aside0 (kq ≤ k) ∧ Drawn0 w w')
 case atStart => exact ⟨(0), (by first | rfl | (simp; done) | (simp [*]; done)), H', ⟨Nat.le_refl _⟩, by repeat (first | exact Drawn0.refl _ | apply Drawn0.step)⟩
 case round =>
  clear H'
  obtain ⟨x3_1, rfl, HA, HK1, ⟨m1, rfl⟩⟩ := hrel
  cases gk with
  | zero => exact absurd HA.out (by simp [spileref09_Few.l0])
  | succ k1 =>
   have H := HA.out
   clear HA
   simp only [spileref09_Few.l0] at H
   by_cases c2 : x3_1 < (l0.length : Int)
   ·rw [if_pos c2] at H
    have c2b0 : decide (x3_1 < (l0.length : Int)) = true := decide_eq_true c2
    clear c2
    by_cases c3 : 0 ≤ x3_1
    ·rw [if_pos c3] at H
     have c3b0 : decide (0 ≤ x3_1) = true := decide_eq_true c3
     clear c3
     replace H := Option.bind_eq_some_iff.mp H
     obtain ⟨t319, A40, H⟩ := H
     try (set_option simprocs false in dsimp only at H)
     have A4 := Aside0.mk A40
     clear A40
     by_cases c5 : t319 = true
     ·subst c5
      rw [if_pos rfl] at H
      by_cases c6 : (((rd_T24 l0 x3_1).f0).size : Int) > 70
      ·rw [if_pos c6] at H
       have c6b0 : decide (70 < (((rd_T24 l0 x3_1).f0).size : Int)) = true := decide_eq_true c6
       have c6b1 : decide (70 < ((rd_T24 l0 x3_1).f0).size) = true := decide_eq_true (by omega)
       clear c6
       obtain rfl := Option.some.inj H
       have p318 : 0 ≤ (x3_1 : Int) := of_decide_eq_true (by first | (with_reducible assumption) | assumption)
       have q318 : x3_1 < (l0.length : Int) := of_decide_eq_true (by first | (with_reducible assumption) | assumption)
       obtain ⟨ad318, A318_2, c318_2, e318, hx318_0, hx318_1, hx318_2, hx318_3, hl318_2, hi318_2⟩ := at_T24 HR0.out x3_1 p318 q318
       cases e318
       have HR318_2 := Aside0.mk hi318_2
       have HC318_2 := Aside0.mk hl318_2
       clear hi318_2 hl318_2
       replace p318 := eq_true p318
       replace q318 := eq_true q318
       go_wp2_with (first | ((with_reducible refine gqC (f := 71) rfl ?_); refine GS.gL (some 15) Try.func71 #[.slice A318_2 ((rd_T24 l0 x3_1).f2).length c318_2] ?_; (with_reducible refine (spileref08_Few.calls _ _ ((rd_T24 l0 x3_1).f2) true _ ?side1 ?side2 A4.out).mono ?_); (case side1 => exact GS.rC HR318_2.out); (case side2 => exact HC318_2.out); rintro e w' ⟨rfl, ⟨nd, rfl⟩⟩; refine ⟨_, rfl, ?_⟩; have p320 : 0 ≤ (x3_1 : Int) := of_decide_eq_true (by first | (with_reducible assumption) | assumption); have q320 : x3_1 < (l0.length : Int) := of_decide_eq_true (by first | (with_reducible assumption) | assumption); obtain ⟨ad320, A320_2, c320_2, e320, hx320_0, hx320_1, hx320_2, hx320_3, hl320_2, hi320_2⟩ := at_T24 HR0.out x3_1 p320 q320; obtain rfl : ad318 = ad320 := (by injection e320); have HR320_2 := Aside0.mk hi320_2; have HC320_2 := Aside0.mk hl320_2; clear hi320_2 hl320_2; replace p320 := eq_true p320; replace q320 := eq_true q320; have ea_ := Option.some.inj (hx318_2.symm.trans hx320_2); injection ea_ with ea_ en_ ec_; subst ea_; subst ec_; clear en_))
       go_ret
       exact ⟨by first | rfl | (simp; done) | (simp [*]; done), by repeat (first | exact Drawn0.refl _ | apply Drawn0.step)⟩
      ·rw [if_neg c6] at H
       have c6b0 : decide (70 < (((rd_T24 l0 x3_1).f0).size : Int)) = false := decide_eq_false c6
       have c6b1 : decide (70 < ((rd_T24 l0 x3_1).f0).size) = false := decide_eq_false (by omega)
       clear c6
       have H' := Aside0.mk H
       clear H
       have p318 : 0 ≤ (x3_1 : Int) := of_decide_eq_true (by first | (with_reducible assumption) | assumption)
       have q318 : x3_1 < (l0.length : Int) := of_decide_eq_true (by first | (with_reducible assumption) | assumption)
       obtain ⟨ad318, A318_2, c318_2, e318, hx318_0, hx318_1, hx318_2, hx318_3, hl318_2, hi318_2⟩ := at_T24 HR0.out x3_1 p318 q318
       cases e318
       have HR318_2 := Aside0.mk hi318_2
       have HC318_2 := Aside0.mk hl318_2
       clear hi318_2 hl318_2
       replace p318 := eq_true p318
       replace q318 := eq_true q318
       go_wp2_with (first | ((with_reducible refine gqC (f := 71) rfl ?_); refine GS.gL (some 15) Try.func71 #[.slice A318_2 ((rd_T24 l0 x3_1).f2).length c318_2] ?_; (with_reducible refine (spileref08_Few.calls _ _ ((rd_T24 l0 x3_1).f2) true _ ?side1 ?side2 A4.out).mono ?_); (case side1 => exact GS.rC HR318_2.out); (case side2 => exact HC318_2.out); rintro e w' ⟨rfl, ⟨nd, rfl⟩⟩; refine ⟨_, rfl, ?_⟩; have p320 : 0 ≤ (x3_1 : Int) := of_decide_eq_true (by first | (with_reducible assumption) | assumption); have q320 : x3_1 < (l0.length : Int) := of_decide_eq_true (by first | (with_reducible assumption) | assumption); obtain ⟨ad320, A320_2, c320_2, e320, hx320_0, hx320_1, hx320_2, hx320_3, hl320_2, hi320_2⟩ := at_T24 HR0.out x3_1 p320 q320; obtain rfl : ad318 = ad320 := (by injection e320); have HR320_2 := Aside0.mk hi320_2; have HC320_2 := Aside0.mk hl320_2; clear hi320_2 hl320_2; replace p320 := eq_true p320; replace q320 := eq_true q320; have ea_ := Option.some.inj (hx318_2.symm.trans hx320_2); injection ea_ with ea_ en_ ec_; subst ea_; subst ec_; clear en_))
       go_roundg k1
       case measure => have := HK1.out; omega
       case rel => exact ⟨(wrap64 (x3_1 + 1)), (by first | rfl | (simp; done) | (simp [*]; done)), H', ⟨by have := HK1.out; omega⟩, by repeat (first | exact Drawn0.refl _ | apply Drawn0.step)⟩
     ·replace c5 := Bool.eq_false_iff.mpr c5
      subst c5
      rw [if_neg (show ¬ (false = true) by decide)] at H
      obtain rfl := Option.some.inj H
      have p318 : 0 ≤ (x3_1 : Int) := of_decide_eq_true (by first | (with_reducible assumption) | assumption)
      have q318 : x3_1 < (l0.length : Int) := of_decide_eq_true (by first | (with_reducible assumption) | assumption)
      obtain ⟨ad318, A318_2, c318_2, e318, hx318_0, hx318_1, hx318_2, hx318_3, hl318_2, hi318_2⟩ := at_T24 HR0.out x3_1 p318 q318
      cases e318
      have HR318_2 := Aside0.mk hi318_2
      have HC318_2 := Aside0.mk hl318_2
      clear hi318_2 hl318_2
      replace p318 := eq_true p318
      replace q318 := eq_true q318
      go_wp2_with (first | ((with_reducible refine gqC (f := 71) rfl ?_); refine GS.gL (some 15) Try.func71 #[.slice A318_2 ((rd_T24 l0 x3_1).f2).length c318_2] ?_; (with_reducible refine (spileref08_Few.calls _ _ ((rd_T24 l0 x3_1).f2) false _ ?side1 ?side2 A4.out).mono ?_); (case side1 => exact GS.rC HR318_2.out); (case side2 => exact HC318_2.out); rintro e w' ⟨rfl, ⟨nd, rfl⟩⟩; refine ⟨_, rfl, ?_⟩))
      go_ret
      exact ⟨by first | rfl | (simp; done) | (simp [*]; done), by repeat (first | exact Drawn0.refl _ | apply Drawn0.step)⟩
    ·rw [if_neg c3] at H
     exact absurd H (by simp)
   ·rw [if_neg c2] at H
    have c2b0 : decide (x3_1 < (l0.length : Int)) = false := decide_eq_false c2
    clear c2
    obtain rfl := Option.some.inj H
    go_wp2
    go_ret
    exact ⟨by first | rfl | (simp; done) | (simp [*]; done), by repeat (first | exact Drawn0.refl _ | apply Drawn0.step)⟩
def spilelaw11_few.f (k : Nat) (a0_0 : ByteArray) (a0_1 : Int) (l0_2 : List (S39)) (a0_3 : Int) (l1 : List (List Int)) : Option (Bool) := (spileref09_Few.f k (([(⟨a0_0, a0_1, l0_2, a0_3⟩ : S24)] : List (S24)))).bind fun t325 => (if t325 = true then ((cont40.f l1).bind fun t326 => (some (!t326))) else (some false))
set_option maxHeartbeats 8000000 in
set_option maxRecDepth 100000 in
theorem spilelaw11_few.calls (k : Nat) (a0_0 : ByteArray) (a0_1 : Int) (P0_2_ : Nat → Prop) (A0_2 : Option Addr) (c0_2 : Nat) (l0_2 : List (S39)) (a0_3 : Int) (A1 : Option Addr) (c1 : Nat) (l1 : List (List Int)) (r : Bool) (w : World) (hs0_2 : Kd.V k39 39 w w.heap.size (fun k_ => P0_2_ k_) (.slice A0_2 l0_2.length c0_2) l0_2) (hr1 : Kd.C (Kd.slice 3 (Kd.int .i64)) w A1 l1.length l1) (hc1 : l1.length ≤ c1) (h : spilelaw11_few.f k a0_0 a0_1 l0_2 a0_3 l1 = some r) :
  Calls Try.prog 11 #[.agg #[.string a0_0, .int .i64 a0_1, .slice A0_2 l0_2.length c0_2, .int .i64 a0_3], .slice A1 l1.length c1] w fun e w' => e = .returned (.bool r) ∧ Below w.heap.size w w' := by
 have hu24 := Try.underlying24
 have HO0_2 := Aside0.mk (show Kd.V k39 39 w w.heap.size (fun k_ => (P0_2_ k_ ∨ w.heap.size ≤ k_)) (.slice A0_2 l0_2.length c0_2) l0_2 from Kd.V_mono hs0_2 (fun k_ hk => .inl hk))
 have HR1 := Aside0.mk hr1
 have HC1 := Aside0.mk hc1
 clear hr1 hc1
 have HB := Aside0.mk (Below.refl w.heap.size w)
 have H : ((spileref09_Few.f k (([(⟨a0_0, a0_1, l0_2, a0_3⟩ : S24)] : List (S24)))).bind fun t325 => (if t325 = true then ((cont40.f l1).bind fun t326 => (some (!t326))) else (some false))) = some r := h
 clear h
 obtain ⟨y322, hy322⟩ : ∃ y_ : List (S24), y_ = (([(⟨a0_0, a0_1, l0_2, a0_3⟩ : S24)] : List (S24))) := ⟨_, rfl⟩
 replace H : ((spileref09_Few.f k y322).bind fun t325 => (if t325 = true then ((cont40.f l1).bind fun t326 => (some (!t326))) else (some false))) = some r := by first | (rw [hy322]; with_reducible exact H) | (have H2_ := (Option.bind_some _ _).symm.trans H; rw [hy322]; with_reducible exact H2_) | (have H2_ := (Option.bind_some _ _).symm.trans H; with_reducible exact H2_) | with_reducible exact H | (rw [hy322]; exact H) | exact H
 have Ny322 := Aside0.mk hy322
 clear hy322
 replace H := Option.bind_eq_some_iff.mp H
 obtain ⟨t325, A30, H⟩ := H
 try (set_option simprocs false in dsimp only at H)
 have A3 := Aside0.mk A30
 clear A30
 by_cases c4 : t325 = true
 ·subst c4
  rw [if_pos rfl] at H
  replace H := Option.bind_eq_some_iff.mp H
  obtain ⟨t326, A50, H⟩ := H
  replace H : (some (!t326)) = some r := H
  have A5 := Aside0.mk A50
  clear A50
  obtain rfl := Option.some.inj H
  go_enter Try.func11, Try.ntmps11
  go_wp2_with (first | ((with_reducible refine gqD (N := 2) rfl ?_); refine GS.bx (N := 2) (cs := #[.string a0_0, .int .i64 a0_1, .slice A0_2 l0_2.length c0_2, .int .i64 a0_3]) (t := 24) ?_; intro gb321 hg w6 hbox hb; have q_ := GS.q5 (Aside0.mk (Kd.V_below (Kd.V_elderB (by (with_reducible repeat (first | apply Kd.V_alloc | apply Kd.V_drewN | apply Kd.V_drew)); exact HO0_2.out) gb321 (Nat.le_of_eq hg.symm)) hb)) (GS.kH HB hb) (Aside0.mk hbox) (GS.kZ hg HB) (GS.kZ hg HB); clear HO0_2 HB; obtain ⟨HO0_2, HB, BK321, GW321, GE321⟩ := q_; clear hb hbox hg; obtain ⟨hcz7_0, hcz7_1, hcz7_2, hcz7_3, hfz7_0, hfz7_1, hfz7_2, hfz7_3⟩ := GS.c4 BK321.out) | ((with_reducible refine gqD (N := 6) rfl ?_); refine Kd.N_lit k24 _ 24 ?hg (N' := 6) ?hd (xs := ([(⟨a0_0, a0_1, l0_2, a0_3⟩ : S24)] : List (S24))) (inner := [.string a0_0, .int .i64 a0_1, .slice A0_2 l0_2.length c0_2, .int .i64 a0_3]) (ok := (fun k_ => (P0_2_ k_ ∨ w.heap.size ≤ k_) ∧ k_ ≠ gb321)) (okp := (fun k_ => (P0_2_ k_ ∨ w.heap.size ≤ k_) ∧ k_ ≠ gb321)) ?hr ?hp (fun _ hk => hk) ((show ∀ k_, w6.heap.size ≤ k_ → (fun k_ => (P0_2_ k_ ∨ w.heap.size ≤ k_) ∧ k_ ≠ gb321) k_ from fun k_ hk => ⟨(.inr (Nat.le_trans (lqZ (GS.lB HB.out)) hk)), Kd.freshB (GS.bqX BK321.out) k_ hk⟩) _ (Nat.le_refl _)) (Below.refl _ _) (Nat.le_refl _) (by simp) ?_; (case hd => rfl); (case hg => rfl); (case hr => first | (go_simp; done) | (go_simp; rfl)); (case hp => exact (Reps.c4 (show Kd.FK k24 _ _ (⟨a0_0, a0_1, l0_2, a0_3⟩ : S24) [.string a0_0, .int .i64 a0_1, .slice A0_2 l0_2.length c0_2, .int .i64 a0_3] from (k24_mkF _ _ (⟨a0_0, a0_1, l0_2, a0_3⟩ : S24) (Kd.V_reads' (Kd.V_mono (ok' := (fun k_ => (P0_2_ k_ ∨ w.heap.size ≤ k_) ∧ k_ ≠ gb321)) (HO0_2.out) (fun k_ hk => ⟨hk.1, hk.2⟩))).2.1 (Kd.V_F (Kd.V_mono (ok' := (fun k_ => (P0_2_ k_ ∨ w.heap.size ≤ k_) ∧ k_ ≠ gb321)) (HO0_2.out) (fun k_ hk => ⟨hk.1, hk.2⟩))))) (Reps.none _ _))); intro v323 w8 ho9 hb hg_ hnew_; clear hg_ hnew_; (first | rw [← Ny322.out] at ho9 | (simp only [Int.reduceToNat] at ho9; rw [← Ny322.out] at ho9)); have q_ := GS.q4 (Aside0.mk (Kd.V_elder' (by (with_reducible repeat (first | apply Kd.V_alloc | apply Kd.V_drewN | apply Kd.V_drew)); exact HO0_2.out) (Kd.N_base ho9) hb)) (Aside0.mk (Kd.N_lower ho9 (lqZ (GS.lB HB.out)))) (GS.kB BK321 hb) (GS.kH HB hb); clear HO0_2 BK321 HB; obtain ⟨HO0_2, HO324, BK321, HB⟩ := q_; clear hb ho9; obtain ⟨Ao10, co10, eo10⟩ := Kd.N_slice HO324.out; subst eo10) | ((with_reducible refine gqC (f := 39) rfl ?_); refine GS.gL (some 7) Try.func39 #[.slice Ao10 y322.length co10] ?_; (with_reducible refine (spileref09_Few.calls k _ _ y322 true _ ?side1 ?side2 A3.out).mono ?_); (case side1 => repeat (first | exact (Kd.N_reads' HO324.out).2.2 | (with_reducible refine Kd.C_alloc ?_ _) | (with_reducible refine Kd.C_drewN ?_ _) | (with_reducible refine Kd.C_drew ?_))); (case side2 => exact (Kd.N_reads' HO324.out).2.1); rintro e w' ⟨rfl, ⟨nd, rfl⟩⟩; refine ⟨_, rfl, ?_⟩) | (go_at_call 40; (with_reducible refine (cont40.calls _ _ l1 t326 _ ?side1 ?side2 A5.out).mono ?_); (case side1 => repeat (first | exact (Kd.C_below HR1.out (GS.lB HB.out)) | (with_reducible refine Kd.C_alloc ?_ _) | (with_reducible refine Kd.C_drewN ?_ _) | (with_reducible refine Kd.C_drew ?_))); (case side2 => exact HC1.out); rintro e w11 ⟨rfl, hb⟩; have q_ := GS.q4 (Aside0.mk (Kd.V_below (by (with_reducible repeat (first | apply Kd.V_alloc | apply Kd.V_drewN | apply Kd.V_drew)); exact HO0_2.out) hb)) (Aside0.mk (Kd.N_below (by (with_reducible repeat (first | apply Kd.N_alloc | apply Kd.N_drewN | apply Kd.N_drew)); exact HO324.out) hb)) (GS.kB BK321 hb) (GS.kH HB hb); clear HO0_2 HO324 BK321 HB; obtain ⟨HO0_2, HO324, BK321, HB⟩ := q_; (try clear hb); (try clear hb2); (try clear hk); (try clear hi)))
  go_ret
  exact ⟨by first | rfl | (simp [errW_none, errW_some] <;> rfl) | (simp [*, errW_none, errW_some] <;> rfl), GS.lB HB.out⟩
 ·replace c4 := Bool.eq_false_iff.mpr c4
  subst c4
  rw [if_neg (show ¬ (false = true) by decide)] at H
  obtain rfl := Option.some.inj H
  go_enter Try.func11, Try.ntmps11
  go_wp2_with (first | ((with_reducible refine gqD (N := 2) rfl ?_); refine GS.bx (N := 2) (cs := #[.string a0_0, .int .i64 a0_1, .slice A0_2 l0_2.length c0_2, .int .i64 a0_3]) (t := 24) ?_; intro gb321 hg w12 hbox hb; have q_ := GS.q5 (Aside0.mk (Kd.V_below (Kd.V_elderB (by (with_reducible repeat (first | apply Kd.V_alloc | apply Kd.V_drewN | apply Kd.V_drew)); exact HO0_2.out) gb321 (Nat.le_of_eq hg.symm)) hb)) (GS.kH HB hb) (Aside0.mk hbox) (GS.kZ hg HB) (GS.kZ hg HB); clear HO0_2 HB; obtain ⟨HO0_2, HB, BK321, GW321, GE321⟩ := q_; clear hb hbox hg; obtain ⟨hcz13_0, hcz13_1, hcz13_2, hcz13_3, hfz13_0, hfz13_1, hfz13_2, hfz13_3⟩ := GS.c4 BK321.out) | ((with_reducible refine gqD (N := 6) rfl ?_); refine Kd.N_lit k24 _ 24 ?hg (N' := 6) ?hd (xs := ([(⟨a0_0, a0_1, l0_2, a0_3⟩ : S24)] : List (S24))) (inner := [.string a0_0, .int .i64 a0_1, .slice A0_2 l0_2.length c0_2, .int .i64 a0_3]) (ok := (fun k_ => (P0_2_ k_ ∨ w.heap.size ≤ k_) ∧ k_ ≠ gb321)) (okp := (fun k_ => (P0_2_ k_ ∨ w.heap.size ≤ k_) ∧ k_ ≠ gb321)) ?hr ?hp (fun _ hk => hk) ((show ∀ k_, w12.heap.size ≤ k_ → (fun k_ => (P0_2_ k_ ∨ w.heap.size ≤ k_) ∧ k_ ≠ gb321) k_ from fun k_ hk => ⟨(.inr (Nat.le_trans (lqZ (GS.lB HB.out)) hk)), Kd.freshB (GS.bqX BK321.out) k_ hk⟩) _ (Nat.le_refl _)) (Below.refl _ _) (Nat.le_refl _) (by simp) ?_; (case hd => rfl); (case hg => rfl); (case hr => first | (go_simp; done) | (go_simp; rfl)); (case hp => exact (Reps.c4 (show Kd.FK k24 _ _ (⟨a0_0, a0_1, l0_2, a0_3⟩ : S24) [.string a0_0, .int .i64 a0_1, .slice A0_2 l0_2.length c0_2, .int .i64 a0_3] from (k24_mkF _ _ (⟨a0_0, a0_1, l0_2, a0_3⟩ : S24) (Kd.V_reads' (Kd.V_mono (ok' := (fun k_ => (P0_2_ k_ ∨ w.heap.size ≤ k_) ∧ k_ ≠ gb321)) (HO0_2.out) (fun k_ hk => ⟨hk.1, hk.2⟩))).2.1 (Kd.V_F (Kd.V_mono (ok' := (fun k_ => (P0_2_ k_ ∨ w.heap.size ≤ k_) ∧ k_ ≠ gb321)) (HO0_2.out) (fun k_ hk => ⟨hk.1, hk.2⟩))))) (Reps.none _ _))); intro v323 w14 ho15 hb hg_ hnew_; clear hg_ hnew_; (first | rw [← Ny322.out] at ho15 | (simp only [Int.reduceToNat] at ho15; rw [← Ny322.out] at ho15)); have q_ := GS.q4 (Aside0.mk (Kd.V_elder' (by (with_reducible repeat (first | apply Kd.V_alloc | apply Kd.V_drewN | apply Kd.V_drew)); exact HO0_2.out) (Kd.N_base ho15) hb)) (Aside0.mk (Kd.N_lower ho15 (lqZ (GS.lB HB.out)))) (GS.kB BK321 hb) (GS.kH HB hb); clear HO0_2 BK321 HB; obtain ⟨HO0_2, HO324, BK321, HB⟩ := q_; clear hb ho15; obtain ⟨Ao16, co16, eo16⟩ := Kd.N_slice HO324.out; subst eo16) | ((with_reducible refine gqC (f := 39) rfl ?_); refine GS.gL (some 7) Try.func39 #[.slice Ao16 y322.length co16] ?_; (with_reducible refine (spileref09_Few.calls k _ _ y322 false _ ?side1 ?side2 A3.out).mono ?_); (case side1 => repeat (first | exact (Kd.N_reads' HO324.out).2.2 | (with_reducible refine Kd.C_alloc ?_ _) | (with_reducible refine Kd.C_drewN ?_ _) | (with_reducible refine Kd.C_drew ?_))); (case side2 => exact (Kd.N_reads' HO324.out).2.1); rintro e w' ⟨rfl, ⟨nd, rfl⟩⟩; refine ⟨_, rfl, ?_⟩))
  go_ret
  exact ⟨by first | rfl | (simp [errW_none, errW_some] <;> rfl) | (simp [*, errW_none, errW_some] <;> rfl), GS.lB HB.out⟩
def spileref09_Copy.l0 : Nat → List (S24) → List (S24) → Int → Option ((List (S24)))
 | 0, _, _, _ => none
 | k + 1, x0, x3, x4 => if x4 < (x0.length : Int) then (if 0 ≤ x4 then ((some (([] : List (S39)) : List (S39))).bind fun y329 => (if y329.length + ((rd_T24 x0 x4).f2).length < 8796093022208 then (if x3.length < 2513169434916 then (spileref09_Copy.l0 k x0 (x3 ++ [(⟨(rd_T24 x0 x4).f0, (rd_T24 x0 x4).f1, (y329 ++ ((rd_T24 x0 x4).f2)), (rd_T24 x0 x4).f3⟩ : S24)]) (wrap64 (x4 + 1))) else (none)) else (none))) else (none)) else (some x3)
def spileref09_Copy.f (k : Nat) (l0 : List (S24)) : Option ((List (S24))) := spileref09_Copy.l0 k l0 ([] : List (S24)) 0
set_option maxHeartbeats 8000000 in
set_option maxRecDepth 100000 in
theorem spileref09_Copy.calls (k : Nat) (A0 : Option Addr) (c0 : Nat) (l0 : List (S24)) (r : List (S24)) (w : World) (hr0 : Kd.C k24 w A0 l0.length l0) (hc0 : l0.length ≤ c0) (h : spileref09_Copy.f k l0 = some r) :
  Calls Try.prog 43 #[.slice A0 l0.length c0] w fun e w' => ∃ v0_ : Value, e = .returned (v0_) ∧ Kd.S k24 24 w' w.heap.size (fun _ => True) v0_ r ∧ Below w.heap.size w w' := by
 have hu24 := Try.underlying24
 have HR0 := Aside0.mk hr0
 have HC0 := Aside0.mk hc0
 clear hr0 hc0
 have HB := Aside0.mk (Below.refl w.heap.size w)
 have H : (spileref09_Copy.l0 k l0 ([] : List (S24)) 0) = some r := h
 clear h
 have H' := Aside0.mk H
 clear H
 go_enter Try.func43, Try.ntmps43
 go_wp2
 go_loopg [3, 4] k (fun kq v3 v4 w' => ∃ (x3_1 : List (S24)) (x4_1 : Int), v4 = .int .i64 x4_1 ∧ Aside0 (spileref09_Copy.l0 kq l0 x3_1 x4_1 = some r) ∧ Aside0 (kq ≤ k) ∧ Aside0 (Kd.S k24 24 w' w.heap.size (fun _ => True) v3 x3_1) ∧ Aside0 (Below w.heap.size w w'))
 case atStart => exact ⟨(([] : List (S24))), (0), (by first | rfl | (simp; done) | (simp [*]; done)), H', ⟨Nat.le_refl _⟩, ⟨by first | exact Kd.S_nil _ _ _ _ _ | exact Kd.N_nil _ _ _ _ _ | exact Kd.V_nil _ _ _ _ _ | exact Kd.Q_nil _ _ _ _ _ | exact Kd.R_nil _ _ _ _ _⟩, ⟨GS.lB HB.out⟩⟩
 case round =>
  clear H'
  obtain ⟨x3_1, x4_1, rfl, HA, HK1, HO_3, HB⟩ := hrel
  cases gk with
  | zero => exact absurd HA.out (by simp [spileref09_Copy.l0])
  | succ k1 =>
   have H := HA.out
   clear HA
   simp only [spileref09_Copy.l0] at H
   by_cases c2 : x4_1 < (l0.length : Int)
   ·rw [if_pos c2] at H
    have c2b0 : decide (x4_1 < (l0.length : Int)) = true := decide_eq_true c2
    clear c2
    by_cases c3 : 0 ≤ x4_1
    ·rw [if_pos c3] at H
     have c3b0 : decide (0 ≤ x4_1) = true := decide_eq_true c3
     clear c3
     obtain ⟨y329, hy329⟩ : ∃ y_ : List (S39), y_ = (([] : List (S39))) := ⟨_, rfl⟩
     replace H : (if y329.length + ((rd_T24 l0 x4_1).f2).length < 8796093022208 then (if x3_1.length < 2513169434916 then (spileref09_Copy.l0 k1 l0 (x3_1 ++ [(⟨(rd_T24 l0 x4_1).f0, (rd_T24 l0 x4_1).f1, (y329 ++ ((rd_T24 l0 x4_1).f2)), (rd_T24 l0 x4_1).f3⟩ : S24)]) (wrap64 (x4_1 + 1))) else (none)) else (none)) = some r := by first | (rw [hy329]; with_reducible exact H) | (have H2_ := (Option.bind_some _ _).symm.trans H; rw [hy329]; with_reducible exact H2_) | (have H2_ := (Option.bind_some _ _).symm.trans H; with_reducible exact H2_) | with_reducible exact H | (rw [hy329]; exact H) | exact H
     have Ny329 := Aside0.mk hy329
     clear hy329
     by_cases c4 : y329.length + ((rd_T24 l0 x4_1).f2).length < 8796093022208
     ·rw [if_pos c4] at H
      have LMc4 := Aside0.mk c4
      clear c4
      obtain ⟨y332, hy332⟩ : ∃ y_ : List (S39), y_ = (y329 ++ ((rd_T24 l0 x4_1).f2)) := ⟨_, rfl⟩
      replace H : (if x3_1.length < 2513169434916 then (spileref09_Copy.l0 k1 l0 (x3_1 ++ [(⟨(rd_T24 l0 x4_1).f0, (rd_T24 l0 x4_1).f1, y332, (rd_T24 l0 x4_1).f3⟩ : S24)]) (wrap64 (x4_1 + 1))) else (none)) = some r := by first | (rw [hy332]; with_reducible exact H) | (have H2_ := (Option.bind_some _ _).symm.trans H; rw [hy332]; with_reducible exact H2_) | (have H2_ := (Option.bind_some _ _).symm.trans H; with_reducible exact H2_) | with_reducible exact H | (rw [hy332]; exact H) | exact H
      have Ny332 := Aside0.mk hy332
      clear hy332
      by_cases c5 : x3_1.length < 2513169434916
      ·rw [if_pos c5] at H
       have LMc5 := Aside0.mk c5
       clear c5
       obtain ⟨y335, hy335⟩ : ∃ y_ : List (S24), y_ = (x3_1 ++ [(⟨(rd_T24 l0 x4_1).f0, (rd_T24 l0 x4_1).f1, y332, (rd_T24 l0 x4_1).f3⟩ : S24)]) := ⟨_, rfl⟩
       replace H : (spileref09_Copy.l0 k1 l0 y335 (wrap64 (x4_1 + 1))) = some r := by first | (rw [hy335]; with_reducible exact H) | (have H2_ := (Option.bind_some _ _).symm.trans H; rw [hy335]; with_reducible exact H2_) | (have H2_ := (Option.bind_some _ _).symm.trans H; with_reducible exact H2_) | with_reducible exact H | (rw [hy335]; exact H) | exact H
       have Ny335 := Aside0.mk hy335
       clear hy335
       have H' := Aside0.mk H
       clear H
       have p327 : 0 ≤ (x4_1 : Int) := of_decide_eq_true (by first | (with_reducible assumption) | assumption)
       have q327 : x4_1 < (l0.length : Int) := of_decide_eq_true (by first | (with_reducible assumption) | assumption)
       obtain ⟨ad327, A327_2, c327_2, e327, hx327_0, hx327_1, hx327_2, hx327_3, hl327_2, hi327_2⟩ := at_T24 HR0.out x4_1 p327 q327
       cases e327
       replace hx327_0 := (HB.out.cell (World.block_lt_of_cell? w _ hx327_0)).trans hx327_0
       replace hx327_1 := (HB.out.cell (World.block_lt_of_cell? w _ hx327_1)).trans hx327_1
       replace hx327_2 := (HB.out.cell (World.block_lt_of_cell? w _ hx327_2)).trans hx327_2
       replace hx327_3 := (HB.out.cell (World.block_lt_of_cell? w _ hx327_3)).trans hx327_3
       have HR327_2 := Aside0.mk hi327_2
       have HC327_2 := Aside0.mk hl327_2
       clear hi327_2 hl327_2
       replace p327 := eq_true p327
       replace q327 := eq_true q327
       go_wp2_with (first | ((with_reducible refine gqD (N := 5) rfl ?_); refine box_event ?hg (N := 5) ?hd (cs := #[.string (⟨#[]⟩ : ByteArray), .int .i64 0, .slice none 0 0, .int .i64 0]) (t := 24) ?hr ?_; (case hd => rfl); (case hg => rfl); (case hr => first | (go_simp; done) | (go_simp; rfl)); intro gb328 hg w6 hbox hb; have q_ := GS.q5 (Aside0.mk (Kd.S_below (Kd.S_elderB (by (with_reducible repeat (first | apply Kd.S_alloc | apply Kd.S_drewN | apply Kd.S_drew)); exact HO_3.out) gb328 (Nat.le_of_eq hg.symm)) hb)) (GS.kH HB hb) (Aside0.mk hbox) (GS.kZ hg HB) (GS.kZ hg HB); clear HO_3 HB; obtain ⟨HO_3, HB, BK328, GW328, GE328⟩ := q_; clear hb hbox hg; obtain ⟨hcz7_0, hcz7_1, hcz7_2, hcz7_3, hfz7_0, hfz7_1, hfz7_2, hfz7_3⟩ := GS.c4 BK328.out) | ((with_reducible refine gqD (N := 16) rfl ?_); refine Kd.R_lit k39 _ 39 ?hg (N := 16) ?hd (xs := ([] : List (S39))) (inner := []) (ok := fun _ => True) (okp := fun _ => True) ?hr ?hp (fun _ hk => hk) trivial (Below.refl _ _) (Nat.le_refl _) (by simp) ?_; (case hd => rfl); (case hg => rfl); (case hr => first | (go_simp; done) | (go_simp; rfl)); (case hp => exact (Reps.none _ _)); intro v330 w8 ho9 hb hg_ hnew_; clear hg_ hnew_; (first | rw [← Ny329.out] at ho9 | (simp only [Int.reduceToNat] at ho9; rw [← Ny329.out] at ho9)); have q_ := GS.q4 (Aside0.mk (Kd.S_elder' (by (with_reducible repeat (first | apply Kd.S_alloc | apply Kd.S_drewN | apply Kd.S_drew)); exact (Kd.S_mono (Kd.S_far (p := ⟨gb328, 3, none⟩) (Kd.S_far (p := ⟨gb328, 2, none⟩) (Kd.S_far (p := ⟨gb328, 1, none⟩) (Kd.S_far (p := ⟨gb328, 0, none⟩) (Kd.S_mono HO_3.out (fun k_ hk => (⟨hk, GS.cj hk⟩ : _ ∧ k_ ≠ gb328))) (fun _ hk => hk.2) (.string ((rd_T24 l0 x4_1).f0))) (fun _ hk => hk.2) (.int .i64 ((rd_T24 l0 x4_1).f1))) (fun _ hk => hk.2) (.slice A327_2 ((rd_T24 l0 x4_1).f2).length c327_2)) (fun _ hk => hk.2) (.int .i64 ((rd_T24 l0 x4_1).f3))) (fun _ h_ => h_.1))) (Kd.R_base ho9) hb)) (GS.kL ho9 HB) (Aside0.mk (bqB (g := gb328) (o := .cells #[.string ((rd_T24 l0 x4_1).f0), .int .i64 ((rd_T24 l0 x4_1).f1), .slice A327_2 ((rd_T24 l0 x4_1).f2).length c327_2, .int .i64 ((rd_T24 l0 x4_1).f3)] 24 (0, 0)) (by (with_reducible repeat (first | refine bqN ?_ _ | refine bqD ?_ | refine bqA ?_ _)); refine bqP (cs := #[.string ((rd_T24 l0 x4_1).f0), .int .i64 ((rd_T24 l0 x4_1).f1), .slice A327_2 ((rd_T24 l0 x4_1).f2).length c327_2, .int .i64 0]) ?_ 3 _ rfl; (with_reducible repeat (first | refine bqN ?_ _ | refine bqD ?_ | refine bqA ?_ _)); refine bqP (cs := #[.string ((rd_T24 l0 x4_1).f0), .int .i64 ((rd_T24 l0 x4_1).f1), .slice none 0 0, .int .i64 0]) ?_ 2 _ rfl; (with_reducible repeat (first | refine bqN ?_ _ | refine bqD ?_ | refine bqA ?_ _)); refine bqP (cs := #[.string ((rd_T24 l0 x4_1).f0), .int .i64 0, .slice none 0 0, .int .i64 0]) ?_ 1 _ rfl; (with_reducible repeat (first | refine bqN ?_ _ | refine bqD ?_ | refine bqA ?_ _)); refine bqP (cs := #[.string (⟨#[]⟩ : ByteArray), .int .i64 0, .slice none 0 0, .int .i64 0]) ?_ 0 _ rfl; (with_reducible repeat (first | refine bqN ?_ _ | refine bqD ?_ | refine bqA ?_ _)); exact BK328.out) hb)) (GS.kH HB hb); clear HO_3 BK328 HB; obtain ⟨HO_3, HO331, BK328, HB⟩ := q_; clear hb ho9; obtain ⟨hcz10_0, hcz10_1, hcz10_2, hcz10_3, hfz10_0, hfz10_1, hfz10_2, hfz10_3⟩ := GS.c4 BK328.out) | ((with_reducible refine gate_builtin (b := .append) (xs := #[.tmp 16, .tmp 18]) rfl ?_); at_builtin; refine Kd.R_append_rows k39 (w0 := w) w.heap.size rfl (.tmp 16) (.tmp 18) 22 39 (.agg #[(.int .i64 0), (.int .i64 0)]) 16 rfl Try.underlying22 info39 rfl (by decide) (by omega) v330 y329 ((rd_T24 l0 x4_1).f2) _ _ _ (fun _ => True) (fun _ => False) rfl rfl ?aO ?aR (fun _ _ h => h) (fun _ h => h.elim) ?aF ?aB ?aS ?aL ?_; (case aR => repeat (first | exact (Kd.C_below HR327_2.out HB.out) | (with_reducible refine Kd.C_alloc ?_ _) | (with_reducible refine Kd.C_drewN ?_ _) | (with_reducible refine Kd.C_drew ?_))); (case aB => exact (GS.lB HB.out)); (case aF => exact (fun _ _ => trivial)); (case aO => exact (GS.rR HO331.out)); (case aS => exact (lqZ (GS.lB HB.out))); (case aL => have := LMc4.out; omega); intro v333 w11 ho hb hg hat; rw [← Ny332.out] at ho; have q_ := GS.q4 (Aside0.mk (Kd.S_after (ok := (fun k_ => k_ ≠ gb328)) (by (with_reducible repeat (first | apply Kd.S_alloc | apply Kd.S_drewN | apply Kd.S_drew)); exact Kd.S_mono HO_3.out (fun _ hk => GS.cj hk)) hg hat)) (Aside0.mk (blk_grown (GS.bqX BK328.out) hg (Kd.R_ne HO331.out BK328.out (by decide)))) (Aside0.mk hb) (Aside0.mk ho); clear HO_3 BK328 HB HO331; obtain ⟨HO_3, BK328, HB, HO334⟩ := q_; clear ho hb hg hat; obtain ⟨Ao12, co12, eo12⟩ := Kd.R_slice HO334.out; subst eo12; obtain ⟨hcz13_0, hcz13_1, hcz13_2, hcz13_3, hfz13_0, hfz13_1, hfz13_2, hfz13_3⟩ := GS.c4 BK328.out) | ((with_reducible refine gate_store (t := 22) (p := 20) rfl ?_); refine store_event (t := 22) (p := 20) (v := ?vo_w14) (w1 := (w11.setCell ⟨gb328, 2, none⟩ (.slice Ao12 y332.length co12))) ?hg ?ho ?hn ?hr ?_; (case ho => rfl); (case hg => rfl); (case hn => rfl); (case hr => first | (go_simp; done) | (go_simp; rfl)); intro w14 hw; have n0_ : Aside0 (Kd.S k24 24 w14 w.heap.size (fun k_ => some k_ ≠ (.slice Ao12 y332.length co12 : Value).ownBlock ∧ k_ ≠ gb328) u3 x3_1) := ⟨(by rw [hw]; exact (by (with_reducible repeat (first | apply Kd.S_alloc | apply Kd.S_drewN | apply Kd.S_drew)); exact Kd.S_mono (Kd.S_far (p := ⟨gb328, 2, none⟩) (Kd.S_mono HO_3.out (fun k_ hk => (⟨hk, GS.cj hk⟩ : _ ∧ k_ ≠ gb328))) (fun _ hk => hk.2) (.slice Ao12 y332.length co12)) (fun _ hk => GS.cj hk)))⟩; have n1_ : Aside0 (Kd.R k39 39 w14 w.heap.size (fun _ => True) (.slice Ao12 y332.length co12) y332) := ⟨(by rw [hw]; exact (by (with_reducible repeat (first | apply Kd.R_alloc | apply Kd.R_drewN | apply Kd.R_drew)); exact Kd.R_mono (Kd.R_far (p := ⟨gb328, 2, none⟩) (Kd.R_types HO334.out BK328.out (by decide)) (fun _ hk => hk.2) (.slice Ao12 y332.length co12)) (fun _ hk => trivial)))⟩; have n2_ : Aside0 (w14.heap[gb328]? = some (.cells #[.string ((rd_T24 l0 x4_1).f0), .int .i64 ((rd_T24 l0 x4_1).f1), .slice Ao12 y332.length co12, .int .i64 ((rd_T24 l0 x4_1).f3)] 24 (0, 0))) := ⟨(by rw [hw]; exact (GS.bqZ BK328.out))⟩; have n3_ : Aside0 (Below w.heap.size w w14) := ⟨(by rw [hw]; exact (GS.lB HB.out))⟩; clear hw; clear HO_3; clear HO334; clear BK328; clear HB; have HO_3 := n0_; have HO334 := n1_; have BK328 := n2_; have HB := n3_; clear n0_ n1_ n2_ n3_; obtain ⟨hcz15_0, hcz15_1, hcz15_2, hcz15_3, hfz15_0, hfz15_1, hfz15_2, hfz15_3⟩ := GS.c4 BK328.out) | ((with_reducible refine gate_builtin (b := .append) (xs := #[.tmp 21, .tmp 23]) rfl ?_); at_builtin; refine Kd.S_append k24 (w0 := w) w.heap.size rfl (.tmp 21) (.tmp 23) 66 24 (.agg #[(.string ⟨#[]⟩), (.int .i64 0), (.slice none 0 0), (.int .i64 0)]) 56 rfl Try.underlying66 info24 rfl (by decide) (by omega) u3 x3_1 (⟨(rd_T24 l0 x4_1).f0, (rd_T24 l0 x4_1).f1, y332, (rd_T24 l0 x4_1).f3⟩ : S24) [.string ((rd_T24 l0 x4_1).f0), .int .i64 ((rd_T24 l0 x4_1).f1), .slice Ao12 y332.length co12, .int .i64 ((rd_T24 l0 x4_1).f3)] (fun k_ => k_ ≠ gb328) (fun k_ => some k_ = (.slice Ao12 y332.length co12 : Value).ownBlock) rfl rfl ?aP (fun k_ hk_ => ((Kd.R_mono (ok' := fun k_ => ((fun k_ => k_ ≠ gb328)) k_ ∧ some k_ ≠ (u3 : Value).ownBlock) (Kd.R_types (Kd.R_apart' (HO334.out) (Kd.S_typed HO_3.out) (by decide)) BK328.out (by decide)) (fun k_ hk => ⟨hk.2, hk.1.2⟩))).1 k_ hk_.symm) ?aF ?aO ?aB ?aS ?aL ?_; (case aP => exact k24_mkM _ _ _ (⟨(rd_T24 l0 x4_1).f0, (rd_T24 l0 x4_1).f1, y332, (rd_T24 l0 x4_1).f3⟩ : S24) (Kd.R_mono (Kd.R_tight rfl (Kd.R_mono (ok' := fun k_ => ((fun k_ => k_ ≠ gb328)) k_ ∧ some k_ ≠ (u3 : Value).ownBlock) (Kd.R_types (Kd.R_apart' (HO334.out) (Kd.S_typed HO_3.out) (by decide)) BK328.out (by decide)) (fun k_ hk => ⟨hk.2, hk.1.2⟩))) (fun _ h_ => h_))); (case aB => exact (GS.lB HB.out)); (case aF => exact (fun k_ hk => Kd.freshB (GS.bqX BK328.out) k_ hk)); (case aO => exact (by (with_reducible repeat (first | apply Kd.S_alloc | apply Kd.S_drewN | apply Kd.S_drew)); exact Kd.S_mono HO_3.out (fun k_ hk => ⟨hk.2, fun e_ => hk.1 e_⟩))); (case aS => exact (lqZ (GS.lB HB.out))); (case aL => have := LMc5.out; omega); intro v336 w16 ho hb hg hat; rw [← Ny335.out] at ho; have q_ := GS.q3 (Aside0.mk (blk_grown (GS.bqX BK328.out) hg (Kd.S_away HO_3.out (fun _ hk => GS.cj hk)))) (Aside0.mk hb) (Aside0.mk ho); clear BK328 HB HO_3 HO334; obtain ⟨BK328, HB, HO337⟩ := q_; clear ho hb hg hat))
       go_roundg k1
       case measure => have := HK1.out; omega
       case rel => exact ⟨(y335), (wrap64 (x4_1 + 1)), (by first | rfl | (simp; done) | (simp [*]; done)), H', ⟨by have := HK1.out; omega⟩, ⟨by (with_reducible repeat (first | apply Kd.S_alloc | apply Kd.S_drewN | apply Kd.S_drew)); exact Kd.S_mono HO337.out (fun _ hk => trivial)⟩, ⟨GS.lB HB.out⟩⟩
      ·rw [if_neg c5] at H
       exact absurd H (by simp)
     ·rw [if_neg c4] at H
      exact absurd H (by simp)
    ·rw [if_neg c3] at H
     exact absurd H (by simp)
   ·rw [if_neg c2] at H
    have c2b0 : decide (x4_1 < (l0.length : Int)) = false := decide_eq_false c2
    clear c2
    obtain rfl := Option.some.inj H
    go_wp2
    go_ret
    exact ⟨_, by first | rfl | (simp [errW_none, errW_some] <;> rfl) | (simp [*, errW_none, errW_some] <;> rfl), by (with_reducible repeat (first | apply Kd.S_alloc | apply Kd.S_drewN | apply Kd.S_drew)); exact HO_3.out, GS.lB HB.out⟩
def spilelaw11_own.f (k : Nat) (a0_0 : ByteArray) (a0_1 : Int) (l0_2 : List (S39)) (a0_3 : Int) : Option (ByteArray × Int × (List (S39)) × Int) := (spileref09_Copy.f k (([(⟨a0_0, a0_1, l0_2, a0_3⟩ : S24)] : List (S24)))).bind fun t343 => (if 0 < (t343.length : Int) then (some ((rd_T24 t343 0).f0, (rd_T24 t343 0).f1, (rd_T24 t343 0).f2, (rd_T24 t343 0).f3)) else (none))
set_option maxHeartbeats 8000000 in
set_option maxRecDepth 100000 in
theorem spilelaw11_own.calls (k : Nat) (a0_0 : ByteArray) (a0_1 : Int) (P0_2_ : Nat → Prop) (A0_2 : Option Addr) (c0_2 : Nat) (l0_2 : List (S39)) (a0_3 : Int) (r1 : ByteArray) (r2 : Int) (r3 : List (S39)) (r4 : Int) (w : World) (hs0_2 : Kd.V k39 39 w w.heap.size (fun k_ => P0_2_ k_) (.slice A0_2 l0_2.length c0_2) l0_2) (h : spilelaw11_own.f k a0_0 a0_1 l0_2 a0_3 = some (r1, r2, r3, r4)) :
  Calls Try.prog 13 #[.agg #[.string a0_0, .int .i64 a0_1, .slice A0_2 l0_2.length c0_2, .int .i64 a0_3]] w fun e w' => ∃ v2_ : Value, e = .returned (.agg #[.string r1, .int .i64 r2, v2_, .int .i64 r4]) ∧ Kd.V k39 39 w' w.heap.size (fun k_ => (P0_2_ k_ ∨ w.heap.size ≤ k_)) v2_ r3 ∧ Below w.heap.size w w' := by
 have hu24 := Try.underlying24
 have HO0_2 := Aside0.mk (show Kd.V k39 39 w w.heap.size (fun k_ => (P0_2_ k_ ∨ w.heap.size ≤ k_)) (.slice A0_2 l0_2.length c0_2) l0_2 from Kd.V_mono hs0_2 (fun k_ hk => .inl hk))
 have HB := Aside0.mk (Below.refl w.heap.size w)
 have H : ((spileref09_Copy.f k (([(⟨a0_0, a0_1, l0_2, a0_3⟩ : S24)] : List (S24)))).bind fun t343 => (if 0 < (t343.length : Int) then (some ((rd_T24 t343 0).f0, (rd_T24 t343 0).f1, (rd_T24 t343 0).f2, (rd_T24 t343 0).f3)) else (none))) = some (r1, r2, r3, r4) := h
 clear h
 obtain ⟨y340, hy340⟩ : ∃ y_ : List (S24), y_ = (([(⟨a0_0, a0_1, l0_2, a0_3⟩ : S24)] : List (S24))) := ⟨_, rfl⟩
 replace H : ((spileref09_Copy.f k y340).bind fun t343 => (if 0 < (t343.length : Int) then (some ((rd_T24 t343 0).f0, (rd_T24 t343 0).f1, (rd_T24 t343 0).f2, (rd_T24 t343 0).f3)) else (none))) = some (r1, r2, r3, r4) := by first | (rw [hy340]; with_reducible exact H) | (have H2_ := (Option.bind_some _ _).symm.trans H; rw [hy340]; with_reducible exact H2_) | (have H2_ := (Option.bind_some _ _).symm.trans H; with_reducible exact H2_) | with_reducible exact H | (rw [hy340]; exact H) | exact H
 have Ny340 := Aside0.mk hy340
 clear hy340
 replace H := Option.bind_eq_some_iff.mp H
 obtain ⟨t343, A20, H⟩ := H
 try (set_option simprocs false in dsimp only at H)
 have A2 := Aside0.mk A20
 clear A20
 by_cases c3 : 0 < (t343.length : Int)
 ·rw [if_pos c3] at H
  have c3b0 : decide (0 < (t343.length : Int)) = true := decide_eq_true c3
  have c3b1 : decide (0 < t343.length) = true := decide_eq_true (by omega)
  clear c3
  simp only [Option.some.injEq, Prod.mk.injEq] at H
  obtain ⟨rfl, rfl, rfl, rfl⟩ := H
  go_enter Try.func13, Try.ntmps13
  go_wp2_with (first | ((with_reducible refine gqD (N := 1) rfl ?_); refine GS.bx (N := 1) (cs := #[.string a0_0, .int .i64 a0_1, .slice A0_2 l0_2.length c0_2, .int .i64 a0_3]) (t := 24) ?_; intro gb338 hg w4 hbox hb; have q_ := GS.q5 (Aside0.mk (Kd.V_below (Kd.V_elderB (by (with_reducible repeat (first | apply Kd.V_alloc | apply Kd.V_drewN | apply Kd.V_drew)); exact HO0_2.out) gb338 (Nat.le_of_eq hg.symm)) hb)) (GS.kH HB hb) (Aside0.mk hbox) (GS.kZ hg HB) (GS.kZ hg HB); clear HO0_2 HB; obtain ⟨HO0_2, HB, BK338, GW338, GE338⟩ := q_; clear hb hbox hg) | ((with_reducible refine gqD (N := 2) rfl ?_); refine box_event ?hg (N := 2) ?hd (cs := #[.string (⟨#[]⟩ : ByteArray), .int .i64 0, .slice none 0 0, .int .i64 0]) (t := 24) ?hr ?_; (case hd => rfl); (case hg => rfl); (case hr => first | (go_simp; done) | (go_simp; rfl)); intro gb339 hg w5 hbox hb; have q_ := GS.q8 (Aside0.mk (Kd.V_below (Kd.V_elderB (by (with_reducible repeat (first | apply Kd.V_alloc | apply Kd.V_drewN | apply Kd.V_drew)); exact HO0_2.out) gb339 (Nat.le_of_eq hg.symm)) hb)) (GS.kB BK338 hb) (GS.kH HB hb) (Aside0.mk hbox) (GS.kZ hg HB) (GS.kZ hg HB) (Aside0.mk ((by rw [hg]; exact Nat.ne_of_lt (blk_lt (GS.bqX BK338.out)) : gb338 ≠ gb339))) (Aside0.mk ((by rw [hg]; exact Nat.ne_of_gt (blk_lt (GS.bqX BK338.out)) : gb339 ≠ gb338))); clear HO0_2 BK338 HB; obtain ⟨HO0_2, BK338, HB, BK339, GW339, GE339, NB338_339, NB339_338⟩ := q_; clear hb hbox hg; have hnb6 := NB338_339.out; have hnc6 := NB339_338.out; obtain ⟨hcz7_0, hcz7_1, hcz7_2, hcz7_3, hfz7_0, hfz7_1, hfz7_2, hfz7_3⟩ := GS.c4 BK338.out) | ((with_reducible refine gqD (N := 4) rfl ?_); refine Kd.N_lit k24 _ 24 ?hg (N' := 4) ?hd (xs := ([(⟨a0_0, a0_1, l0_2, a0_3⟩ : S24)] : List (S24))) (inner := [.string a0_0, .int .i64 a0_1, .slice A0_2 l0_2.length c0_2, .int .i64 a0_3]) (ok := (fun k_ => (P0_2_ k_ ∨ w.heap.size ≤ k_) ∧ k_ ≠ gb338 ∧ k_ ≠ gb339)) (okp := (fun k_ => (P0_2_ k_ ∨ w.heap.size ≤ k_) ∧ k_ ≠ gb338 ∧ k_ ≠ gb339)) ?hr ?hp (fun _ hk => hk) ((show ∀ k_, w5.heap.size ≤ k_ → (fun k_ => (P0_2_ k_ ∨ w.heap.size ≤ k_) ∧ k_ ≠ gb338 ∧ k_ ≠ gb339) k_ from fun k_ hk => ⟨(.inr (Nat.le_trans (lqZ (GS.lB HB.out)) hk)), Kd.freshB (GS.bqX BK338.out) k_ hk, Kd.freshB (g := gb339) (o := .cells #[.string (⟨#[]⟩ : ByteArray), .int .i64 0, .slice none 0 0, .int .i64 0] 24 (0, 0)) (GS.bqX BK339.out) k_ hk⟩) _ (Nat.le_refl _)) (Below.refl _ _) (Nat.le_refl _) (by simp) ?_; (case hd => rfl); (case hg => rfl); (case hr => first | (go_simp; done) | (go_simp; rfl)); (case hp => exact (Reps.c4 (show Kd.FK k24 _ _ (⟨a0_0, a0_1, l0_2, a0_3⟩ : S24) [.string a0_0, .int .i64 a0_1, .slice A0_2 l0_2.length c0_2, .int .i64 a0_3] from (k24_mkF _ _ (⟨a0_0, a0_1, l0_2, a0_3⟩ : S24) (Kd.V_reads' (Kd.V_mono (ok' := (fun k_ => (P0_2_ k_ ∨ w.heap.size ≤ k_) ∧ k_ ≠ gb338 ∧ k_ ≠ gb339)) (HO0_2.out) (fun k_ hk => ⟨hk.1.1, ⟨hk.1.2, hk.2⟩⟩))).2.1 (Kd.V_F (Kd.V_mono (ok' := (fun k_ => (P0_2_ k_ ∨ w.heap.size ≤ k_) ∧ k_ ≠ gb338 ∧ k_ ≠ gb339)) (HO0_2.out) (fun k_ hk => ⟨hk.1.1, ⟨hk.1.2, hk.2⟩⟩))))) (Reps.none _ _))); intro v341 w8 ho9 hb hg_ hnew_; clear hg_ hnew_; (first | rw [← Ny340.out] at ho9 | (simp only [Int.reduceToNat] at ho9; rw [← Ny340.out] at ho9)); have q_ := GS.q5 (Aside0.mk (Kd.V_elder' (by (with_reducible repeat (first | apply Kd.V_alloc | apply Kd.V_drewN | apply Kd.V_drew)); exact HO0_2.out) (Kd.N_base ho9) hb)) (Aside0.mk (Kd.N_lower ho9 (lqZ (GS.lB HB.out)))) (GS.kB BK338 hb) (Aside0.mk (bqB (g := gb339) (o := .cells #[.string (⟨#[]⟩ : ByteArray), .int .i64 0, .slice none 0 0, .int .i64 0] 24 (0, 0)) (GS.bqX BK339.out) hb)) (GS.kH HB hb); clear HO0_2 BK338 BK339 HB; obtain ⟨HO0_2, HO342, BK338, BK339, HB⟩ := q_; clear hb ho9; obtain ⟨Ao10, co10, eo10⟩ := Kd.N_slice HO342.out; subst eo10) | ((with_reducible refine gqC (f := 43) rfl ?_); refine GS.gL (some 5) Try.func43 #[.slice Ao10 y340.length co10] ?_; (with_reducible refine (spileref09_Copy.calls k _ _ y340 t343 _ ?side1 ?side2 A2.out).mono ?_); (case side1 => repeat (first | exact (Kd.N_reads' HO342.out).2.2 | (with_reducible refine Kd.C_alloc ?_ _) | (with_reducible refine Kd.C_drewN ?_ _) | (with_reducible refine Kd.C_drew ?_))); (case side2 => exact (Kd.N_reads' HO342.out).2.1); rintro e w11 ⟨v344, rfl, ho0, hb⟩; refine ⟨_, rfl, ?_⟩; have q_ := GS.q6 (Aside0.mk (Kd.V_elder' (by (with_reducible repeat (first | apply Kd.V_alloc | apply Kd.V_drewN | apply Kd.V_drew)); exact HO0_2.out) (Kd.S_base ho0) hb)) (Aside0.mk (Kd.N_elder' (by (with_reducible repeat (first | apply Kd.N_alloc | apply Kd.N_drewN | apply Kd.N_drew)); exact HO342.out) (Kd.S_base ho0) hb)) (Aside0.mk (Kd.N_lower (Kd.N_mono (ok' := fun k_ => (P0_2_ k_ ∨ w.heap.size ≤ k_) ∧ some k_ ≠ (.slice Ao10 y340.length co10 : Value).ownBlock ∧ k_ ≠ gb338 ∧ k_ ≠ gb339) (Kd.S_N (Kd.S_bound ho0)) (fun k_ hk_ => ⟨(.inr (Nat.le_trans (lqZ (GS.lB HB.out)) hk_.2.1)), (Kd.fresh' (Kd.N_lt (by (with_reducible repeat (first | apply Kd.N_alloc | apply Kd.N_drewN | apply Kd.N_drew)); exact HO342.out)) k_ hk_.2.1), (Kd.freshB (GS.bqX BK338.out) k_ hk_.2.1), (Kd.freshB (g := gb339) (o := .cells #[.string (⟨#[]⟩ : ByteArray), .int .i64 0, .slice none 0 0, .int .i64 0] 24 (0, 0)) (GS.bqX BK339.out) k_ hk_.2.1)⟩)) (lqZ (GS.lB HB.out)))) (GS.kB BK338 hb) (Aside0.mk (bqB (g := gb339) (o := .cells #[.string (⟨#[]⟩ : ByteArray), .int .i64 0, .slice none 0 0, .int .i64 0] 24 (0, 0)) (GS.bqX BK339.out) hb)) (GS.kH HB hb); clear HO0_2 HO342 BK338 BK339 HB; obtain ⟨HO0_2, HO342, HO345, BK338, BK339, HB⟩ := q_; (try clear hb); (try clear hb2); (try clear hk); (try clear hi); (try clear ho0); obtain ⟨Ao12, co12, eo12⟩ := Kd.N_slice HO345.out; subst eo12; have p346 : 0 ≤ (0 : Int) := (by omega); have q346 : 0 < (t343.length : Int) := of_decide_eq_true (by first | (with_reducible assumption) | assumption); obtain ⟨ad346, A346_2, c346_2, e346, hx346_0, hx346_1, hx346_2, hx346_3, hl346_2, hi346_2⟩ := at_T24 (Kd.N_reads' HO345.out).2.2 0 p346 q346; cases e346; obtain ⟨ce346, hce346, hMe346, hcc346⟩ := Kd.N_get HO345.out z24 0 p346 (by first | exact q346 | exact of_decide_eq_true (by first | (with_reducible assumption) | assumption) | (have e_ := (Kd.N_reads' HO345.out).1; omega)); obtain ⟨ua346_2, uc346_2, rfl, ul346_2, ge346_2⟩ := k24_openF hMe346; have hv346_2 := hcc346 2 _ rfl; rw [add_field _ _ 2 (by omega)] at hv346_2; replace hv346_2 := Option.some.inj (hv346_2.symm.trans hx346_2); injection hv346_2 with hva_ hvn_ hvc_; rw [hva_] at ge346_2; rw [hvc_] at ul346_2; have HL346_2 := Aside0.mk (show Kd.V k39 39 _ w.heap.size _ _ ((rd_T24 t343 0).f2) from Kd.V_mk ul346_2 ge346_2); clear hva_ hvn_ hvc_ ge346_2 ul346_2; clear hcc346 hce346; have qi346 : (0 < t343.length) = True := eq_true (by omega); (try rw [show ((0 : Int)).toNat = 0 from rfl] at hx346_0); (try rw [show 0 * 4 = 0 from rfl] at hx346_0); (try rw [Addr.add_zero'] at hx346_0); (try rw [show ((0 : Int)).toNat = 0 from rfl] at hx346_1); (try rw [show 0 * 4 = 0 from rfl] at hx346_1); (try rw [Addr.add_zero'] at hx346_1); (try rw [show ((0 : Int)).toNat = 0 from rfl] at hx346_2); (try rw [show 0 * 4 = 0 from rfl] at hx346_2); (try rw [Addr.add_zero'] at hx346_2); (try rw [show ((0 : Int)).toNat = 0 from rfl] at hx346_3); (try rw [show 0 * 4 = 0 from rfl] at hx346_3); (try rw [Addr.add_zero'] at hx346_3); have HR346_2 := Aside0.mk hi346_2; have HC346_2 := Aside0.mk hl346_2; clear hi346_2 hl346_2; replace p346 := eq_true p346; replace q346 := eq_true q346; obtain ⟨hcz13_0, hcz13_1, hcz13_2, hcz13_3, hfz13_0, hfz13_1, hfz13_2, hfz13_3⟩ := GS.c4 BK339.out))
  refine bodyPost_ret (results_cell_row rfl _ _ gb339 24 #[.string ((rd_T24 t343 0).f0), .int .i64 ((rd_T24 t343 0).f1), .slice A346_2 ((rd_T24 t343 0).f2).length c346_2, .int .i64 ((rd_T24 t343 0).f3)] (0, 0) _ rfl (by (with_reducible repeat (first | refine bqN ?_ _ | refine bqD ?_ | refine bqA ?_ _)); refine bqP (cs := #[.string ((rd_T24 t343 0).f0), .int .i64 ((rd_T24 t343 0).f1), .slice A346_2 ((rd_T24 t343 0).f2).length c346_2, .int .i64 0]) ?_ 3 _ rfl; (with_reducible repeat (first | refine bqN ?_ _ | refine bqD ?_ | refine bqA ?_ _)); refine bqP (cs := #[.string ((rd_T24 t343 0).f0), .int .i64 ((rd_T24 t343 0).f1), .slice none 0 0, .int .i64 0]) ?_ 2 _ rfl; (with_reducible repeat (first | refine bqN ?_ _ | refine bqD ?_ | refine bqA ?_ _)); refine bqP (cs := #[.string ((rd_T24 t343 0).f0), .int .i64 0, .slice none 0 0, .int .i64 0]) ?_ 1 _ rfl; (with_reducible repeat (first | refine bqN ?_ _ | refine bqD ?_ | refine bqA ?_ _)); refine bqP (cs := #[.string (⟨#[]⟩ : ByteArray), .int .i64 0, .slice none 0 0, .int .i64 0]) ?_ 0 _ rfl; (with_reducible repeat (first | refine bqN ?_ _ | refine bqD ?_ | refine bqA ?_ _)); exact BK339.out) Try.underlying24 rfl (by kernel_rfl)) rfl ?_
  exact ⟨_, by first | rfl | (simp [errW_none, errW_some] <;> rfl) | (simp [*, errW_none, errW_some] <;> rfl), by (with_reducible repeat (first | apply Kd.V_alloc | apply Kd.V_drewN | apply Kd.V_drew)); exact Kd.V_mono (Kd.V_far (p := ⟨gb339, 3, none⟩) (Kd.V_far (p := ⟨gb339, 2, none⟩) (Kd.V_far (p := ⟨gb339, 1, none⟩) (Kd.V_far (p := ⟨gb339, 0, none⟩) (Kd.V_mono HL346_2.out (fun k_ hk => (⟨hk, GS.cj hk⟩ : _ ∧ k_ ≠ gb339))) (fun _ hk => hk.2) (.string ((rd_T24 t343 0).f0))) (fun _ hk => hk.2) (.int .i64 ((rd_T24 t343 0).f1))) (fun _ hk => hk.2) (.slice A346_2 ((rd_T24 t343 0).f2).length c346_2)) (fun _ hk => hk.2) (.int .i64 ((rd_T24 t343 0).f3))) (fun _ hk => GS.cj hk), GS.lB HB.out⟩
 ·rw [if_neg c3] at H
  exact absurd H (by simp)
def spileref08_isLength.f (a0 : Int) : Option (Bool) := if a0 ≥ 0 then (some (decide (a0 ≤ 100000))) else (some false)
set_option maxHeartbeats 8000000 in
set_option maxRecDepth 100000 in
theorem spileref08_isLength.calls (a0 : Int) (r : Bool) (w : World) (h : spileref08_isLength.f a0 = some r) :
  Calls Try.prog 63 #[.int .i64 a0] w fun e w' => e = .returned (.bool r) ∧ Drawn0 w w' := by
 have H : (if a0 ≥ 0 then (some (decide (a0 ≤ 100000))) else (some false)) = some r := h
 clear h
 by_cases c2 : a0 ≥ 0
 ·rw [if_pos c2] at H
  have c2b0 : decide (0 ≤ a0) = true := decide_eq_true c2
  clear c2
  obtain rfl := Option.some.inj H
  go_enter Try.func63, Try.ntmps63
  go_wp2
  go_ret
  exact ⟨by first | rfl | (simp; done) | (simp [*]; done), by repeat (first | exact Drawn0.refl _ | apply Drawn0.step)⟩
 ·rw [if_neg c2] at H
  have c2b0 : decide (0 ≤ a0) = false := decide_eq_false c2
  clear c2
  obtain rfl := Option.some.inj H
  go_enter Try.func63, Try.ntmps63
  go_wp2
  go_ret
  exact ⟨by first | rfl | (simp; done) | (simp [*]; done), by repeat (first | exact Drawn0.refl _ | apply Drawn0.step)⟩
end Go.Proofs.Ytefjmcljkmppoaa.K
