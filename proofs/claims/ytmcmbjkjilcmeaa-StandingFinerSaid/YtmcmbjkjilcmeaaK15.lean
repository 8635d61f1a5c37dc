-- PRINTED by print.py (a twelfth state) out of the translation. Not trusted: Lean checks it.
import Derived.Test.YtmcmbjkjilcmeaaK0
import Derived.Test.YtmcmbjkjilcmeaaK15a
import Derived.Test.YtmcmbjkjilcmeaaGShort
import Derived.Test.YtmcmbjkjilcmeaaK14
namespace Go.Proofs.Ytmcmbjkjilcmeaa.K
open Go.RowKit Go.Proofs.YtmcmbjkjilcmeaaW.PrintWords Go.Proofs.YtmcmbjkjilcmeaaW.PrintLast Go.Proofs.YtmcmbjkjilcmeaaW.PrintMore
attribute [local go_sem] max2_int min2_int max_two min_two max_three min_three max_four min_four   -- for this text's walks alone
set_option linter.unusedVariables false
set_option linter.unusedSimpArgs false

/-! ### spilelaw12_few: function 11 -/
def spilelaw12_few.f (k : Nat) (a0_0 : ByteArray) (a0_1 : Int) (l0_2 : List (S33)) (a0_3 : Int) (l1 : List Int) : Option (Bool) := (spileref09_Few.f k (([(⟨a0_0, a0_1, l0_2, a0_3⟩ : S24)] : List (S24)))).bind fun t340 => (if t340 = true then (some (decide ((l1.length : Int) ≤ 129))) else (some false))
theorem spilelaw12_few.mono : ∀ a0 a1 a2 a3 a4 k, LeO (spilelaw12_few.f k a0 a1 a2 a3 a4) (spilelaw12_few.f (k + 1) a0 a1 a2 a3 a4) := by
 intro a0 a1 a2 a3 a4 k
 unfold spilelaw12_few.f
 repeat' first
   | (with_reducible exact spileref09_Few.mono _ _)
   | (with_reducible exact LeO.refl _)
   | (with_reducible exact LeO.none _)
   | (with_reducible refine LeO.ite ?_ ?_)
   | (with_reducible refine LeO.bind ?_ (fun _ => ?_))
   | exact spileref09_Few.mono _ _
   | exact LeO.none _
   | refine LeO.ite ?_ ?_
   | refine LeO.bind ?_ (fun _ => ?_)
set_option maxHeartbeats 8000000 in
set_option maxRecDepth 100000 in
theorem spilelaw12_few.calls (k : Nat) (a0_0 : ByteArray) (a0_1 : Int) (P0_2_ : Nat → Prop) (A0_2 : Option Addr) (c0_2 : Nat) (l0_2 : List (S33)) (a0_3 : Int) (A1 : Option Addr) (c1 : Nat) (l1 : List Int) (r : Bool) (w : World) (hs0_2 : Kd.V k33 33 w w.heap.size (fun k_ => P0_2_ k_) (.slice A0_2 l0_2.length c0_2) l0_2) (hr1 : Kd.C (Kd.int .i64) w A1 l1.length l1) (hc1 : l1.length ≤ c1) (h : spilelaw12_few.f k a0_0 a0_1 l0_2 a0_3 l1 = some r) :
  Calls Try.prog 11 #[.agg #[.string a0_0, .int .i64 a0_1, .slice A0_2 l0_2.length c0_2, .int .i64 a0_3], .slice A1 l1.length c1] w fun e w' => e = .returned (.bool r) ∧ Below w.heap.size w w' := by
 have hu24 := Try.underlying24
 have HO0_2 := Aside0.mk (show Kd.V k33 33 w w.heap.size (fun k_ => (P0_2_ k_ ∨ w.heap.size ≤ k_)) (.slice A0_2 l0_2.length c0_2) l0_2 from Kd.V_mono hs0_2 (fun k_ hk => .inl hk))
 have HR1 := Aside0.mk hr1
 have HC1 := Aside0.mk hc1
 clear hr1 hc1
 have HB := Aside0.mk (Below.refl w.heap.size w)
 have H : ((spileref09_Few.f k (([(⟨a0_0, a0_1, l0_2, a0_3⟩ : S24)] : List (S24)))).bind fun t340 => (if t340 = true then (some (decide ((l1.length : Int) ≤ 129))) else (some false))) = some r := h
 clear h
 obtain ⟨y337, hy337⟩ : ∃ y_ : List (S24), y_ = (([(⟨a0_0, a0_1, l0_2, a0_3⟩ : S24)] : List (S24))) := ⟨_, rfl⟩
 replace H : ((spileref09_Few.f k y337).bind fun t340 => (if t340 = true then (some (decide ((l1.length : Int) ≤ 129))) else (some false))) = some r := by first | (rw [hy337]; with_reducible exact H) | (have H2_ := (Option.bind_some _ _).symm.trans H; rw [hy337]; with_reducible exact H2_) | (have H2_ := (Option.bind_some _ _).symm.trans H; with_reducible exact H2_) | with_reducible exact H | (rw [hy337]; exact H) | exact H
 have Ny337 := Aside0.mk hy337
 clear hy337
 replace H := Option.bind_eq_some_iff.mp H
 obtain ⟨t340, A30, H⟩ := H
 replace H : (if t340 = true then (some (decide ((l1.length : Int) ≤ 129))) else (some false)) = some r := H
 have A3 := Aside0.mk A30
 clear A30
 by_cases c4 : t340 = true
 ·subst c4
  have H1 : (some (decide ((l1.length : Int) ≤ 129))) = some r := by rw [if_pos rfl] at H; exact H
  clear H
  have H := H1
  clear H1
  obtain rfl := Option.some.inj H
  go_enter Try.func11, Try.ntmps11
  go_wp2_with (first | ((with_reducible refine gqD (N := 2) rfl ?_); (try (refine gate_guard (by rfl) ?_; dsimp only)); refine GS.bx (N := 2) (cs := #[.string a0_0, .int .i64 a0_1, .slice A0_2 l0_2.length c0_2, .int .i64 a0_3]) (t := 24) ?_; intro gb336 hg w5 hbox hb; have n0_ := Aside0.mk (Kd.V_below (Kd.V_elderB (by (with_reducible repeat (first | apply Kd.V_alloc | apply Kd.V_drewN | apply Kd.V_drew)); exact HO0_2.out) gb336 (Nat.le_of_eq hg.symm)) hb); have n1_ := Aside0.mk (lqT (GS.lB HB.out) hb); have n2_ := Aside0.mk (hbox); have n3_ := Aside0.mk ((by rw [hg]; exact (lqZ (GS.lB HB.out)) : w.heap.size ≤ gb336)); have n4_ := Aside0.mk ((by rw [hg]; exact (lqZ (GS.lB HB.out)) : w.heap.size ≤ gb336)); clear HO0_2; clear HB; have HO0_2 := n0_; have HB := n1_; have BK336 := n2_; have GW336 := n3_; have GE336 := n4_; clear n0_ n1_ n2_ n3_ n4_; clear hb hbox hg; obtain ⟨hcz6_0, hcz6_1, hcz6_2, hcz6_3, hfz6_0, hfz6_1, hfz6_2, hfz6_3⟩ := GS.c4 BK336.out) | ((with_reducible refine gqD (N := 6) rfl ?_); (try (refine gate_guard (by rfl) ?_; dsimp only)); refine Kd.N_lit k24 _ 24 ?hg (N' := 6) ?hd (xs := ([(⟨a0_0, a0_1, l0_2, a0_3⟩ : S24)] : List (S24))) (inner := [.string a0_0, .int .i64 a0_1, .slice A0_2 l0_2.length c0_2, .int .i64 a0_3]) (ok := (fun k_ => (P0_2_ k_ ∨ w.heap.size ≤ k_) ∧ k_ ≠ gb336)) (okp := (fun k_ => (P0_2_ k_ ∨ w.heap.size ≤ k_) ∧ k_ ≠ gb336)) ?hr ?hp (fun _ hk => hk) ((show ∀ k_, w5.heap.size ≤ k_ → (fun k_ => (P0_2_ k_ ∨ w.heap.size ≤ k_) ∧ k_ ≠ gb336) k_ from fun k_ hk => ⟨(.inr (Nat.le_trans (lqZ (GS.lB HB.out)) hk)), Kd.freshB (GS.bqX BK336.out) k_ hk⟩) _ (Nat.le_refl _)) (Below.refl _ _) (Nat.le_refl _) (by simp) ?_; (case hd => rfl); (case hg => rfl); (case hr => first | (go_simp; done) | (go_simp; rfl)); (case hp => exact (Reps.c4 (show Kd.FK k24 _ _ (⟨a0_0, a0_1, l0_2, a0_3⟩ : S24) [.string a0_0, .int .i64 a0_1, .slice A0_2 l0_2.length c0_2, .int .i64 a0_3] from (k24_mkF _ _ (⟨a0_0, a0_1, l0_2, a0_3⟩ : S24) (Kd.V_reads' (Kd.V_mono (ok' := (fun k_ => (P0_2_ k_ ∨ w.heap.size ≤ k_) ∧ k_ ≠ gb336)) (HO0_2.out) (fun k_ hk => ⟨hk.1, hk.2⟩))).2.1 (Kd.V_F (Kd.V_mono (ok' := (fun k_ => (P0_2_ k_ ∨ w.heap.size ≤ k_) ∧ k_ ≠ gb336)) (HO0_2.out) (fun k_ hk => ⟨hk.1, hk.2⟩))))) (Reps.none _ _))); intro v338 w7 ho8 hb hg_ hnew_; clear hg_ hnew_; (first | rw [← Ny337.out] at ho8 | (simp only [Int.reduceToNat] at ho8; rw [← Ny337.out] at ho8)); have n0_ := Aside0.mk (Kd.V_elder' (by (with_reducible repeat (first | apply Kd.V_alloc | apply Kd.V_drewN | apply Kd.V_drew)); exact HO0_2.out) (Kd.N_base ho8) hb); have n1_ := Aside0.mk (Kd.N_lower ho8 (lqZ (GS.lB HB.out))); have n2_ := Aside0.mk (bqB (GS.bqX BK336.out) hb); have n3_ := Aside0.mk (lqT (GS.lB HB.out) hb); clear HO0_2; clear BK336; clear HB; have HO0_2 := n0_; have HO339 := n1_; have BK336 := n2_; have HB := n3_; clear n0_ n1_ n2_ n3_; clear hb ho8; obtain ⟨Ao9, co9, eo9⟩ := Kd.N_slice HO339.out; subst eo9) | ((with_reducible refine gqC (f := 33) rfl ?_); refine GS.gL (some 7) Try.func33 #[.slice Ao9 y337.length co9] ?_; (with_reducible refine (spileref09_Few.calls k _ _ y337 true _ ?side1 ?side2 A3.out).mono ?_); (case side1 => repeat (first | exact (Kd.N_reads' HO339.out).2.2 | (with_reducible refine Kd.C_alloc ?_ _) | (with_reducible refine Kd.C_drewN ?_ _) | (with_reducible refine Kd.C_drew ?_))); (case side2 => exact (Kd.N_reads' HO339.out).2.1); rintro e w' ⟨rfl, ⟨nd, rfl⟩⟩; refine ⟨_, rfl, ?_⟩))
  go_ret
  exact ⟨by first | rfl | (simp [errW_none, errW_some] <;> rfl) | (simp [*, errW_none, errW_some] <;> rfl), GS.lB HB.out⟩
 ·replace c4 := Bool.eq_false_iff.mpr c4
  subst c4
  have H1 : (some false) = some r := by rw [if_neg (show ¬ (false = true) by decide)] at H; exact H
  clear H
  have H := H1
  clear H1
  obtain rfl := Option.some.inj H
  go_enter Try.func11, Try.ntmps11
  go_wp2_with (first | ((with_reducible refine gqD (N := 2) rfl ?_); (try (refine gate_guard (by rfl) ?_; dsimp only)); refine GS.bx (N := 2) (cs := #[.string a0_0, .int .i64 a0_1, .slice A0_2 l0_2.length c0_2, .int .i64 a0_3]) (t := 24) ?_; intro gb336 hg w10 hbox hb; have n0_ := Aside0.mk (Kd.V_below (Kd.V_elderB (by (with_reducible repeat (first | apply Kd.V_alloc | apply Kd.V_drewN | apply Kd.V_drew)); exact HO0_2.out) gb336 (Nat.le_of_eq hg.symm)) hb); have n1_ := Aside0.mk (lqT (GS.lB HB.out) hb); have n2_ := Aside0.mk (hbox); have n3_ := Aside0.mk ((by rw [hg]; exact (lqZ (GS.lB HB.out)) : w.heap.size ≤ gb336)); have n4_ := Aside0.mk ((by rw [hg]; exact (lqZ (GS.lB HB.out)) : w.heap.size ≤ gb336)); clear HO0_2; clear HB; have HO0_2 := n0_; have HB := n1_; have BK336 := n2_; have GW336 := n3_; have GE336 := n4_; clear n0_ n1_ n2_ n3_ n4_; clear hb hbox hg; obtain ⟨hcz11_0, hcz11_1, hcz11_2, hcz11_3, hfz11_0, hfz11_1, hfz11_2, hfz11_3⟩ := GS.c4 BK336.out) | ((with_reducible refine gqD (N := 6) rfl ?_); (try (refine gate_guard (by rfl) ?_; dsimp only)); refine Kd.N_lit k24 _ 24 ?hg (N' := 6) ?hd (xs := ([(⟨a0_0, a0_1, l0_2, a0_3⟩ : S24)] : List (S24))) (inner := [.string a0_0, .int .i64 a0_1, .slice A0_2 l0_2.length c0_2, .int .i64 a0_3]) (ok := (fun k_ => (P0_2_ k_ ∨ w.heap.size ≤ k_) ∧ k_ ≠ gb336)) (okp := (fun k_ => (P0_2_ k_ ∨ w.heap.size ≤ k_) ∧ k_ ≠ gb336)) ?hr ?hp (fun _ hk => hk) ((show ∀ k_, w10.heap.size ≤ k_ → (fun k_ => (P0_2_ k_ ∨ w.heap.size ≤ k_) ∧ k_ ≠ gb336) k_ from fun k_ hk => ⟨(.inr (Nat.le_trans (lqZ (GS.lB HB.out)) hk)), Kd.freshB (GS.bqX BK336.out) k_ hk⟩) _ (Nat.le_refl _)) (Below.refl _ _) (Nat.le_refl _) (by simp) ?_; (case hd => rfl); (case hg => rfl); (case hr => first | (go_simp; done) | (go_simp; rfl)); (case hp => exact (Reps.c4 (show Kd.FK k24 _ _ (⟨a0_0, a0_1, l0_2, a0_3⟩ : S24) [.string a0_0, .int .i64 a0_1, .slice A0_2 l0_2.length c0_2, .int .i64 a0_3] from (k24_mkF _ _ (⟨a0_0, a0_1, l0_2, a0_3⟩ : S24) (Kd.V_reads' (Kd.V_mono (ok' := (fun k_ => (P0_2_ k_ ∨ w.heap.size ≤ k_) ∧ k_ ≠ gb336)) (HO0_2.out) (fun k_ hk => ⟨hk.1, hk.2⟩))).2.1 (Kd.V_F (Kd.V_mono (ok' := (fun k_ => (P0_2_ k_ ∨ w.heap.size ≤ k_) ∧ k_ ≠ gb336)) (HO0_2.out) (fun k_ hk => ⟨hk.1, hk.2⟩))))) (Reps.none _ _))); intro v338 w12 ho13 hb hg_ hnew_; clear hg_ hnew_; (first | rw [← Ny337.out] at ho13 | (simp only [Int.reduceToNat] at ho13; rw [← Ny337.out] at ho13)); have n0_ := Aside0.mk (Kd.V_elder' (by (with_reducible repeat (first | apply Kd.V_alloc | apply Kd.V_drewN | apply Kd.V_drew)); exact HO0_2.out) (Kd.N_base ho13) hb); have n1_ := Aside0.mk (Kd.N_lower ho13 (lqZ (GS.lB HB.out))); have n2_ := Aside0.mk (bqB (GS.bqX BK336.out) hb); have n3_ := Aside0.mk (lqT (GS.lB HB.out) hb); clear HO0_2; clear BK336; clear HB; have HO0_2 := n0_; have HO339 := n1_; have BK336 := n2_; have HB := n3_; clear n0_ n1_ n2_ n3_; clear hb ho13; obtain ⟨Ao14, co14, eo14⟩ := Kd.N_slice HO339.out; subst eo14) | ((with_reducible refine gqC (f := 33) rfl ?_); refine GS.gL (some 7) Try.func33 #[.slice Ao14 y337.length co14] ?_; (with_reducible refine (spileref09_Few.calls k _ _ y337 false _ ?side1 ?side2 A3.out).mono ?_); (case side1 => repeat (first | exact (Kd.N_reads' HO339.out).2.2 | (with_reducible refine Kd.C_alloc ?_ _) | (with_reducible refine Kd.C_drewN ?_ _) | (with_reducible refine Kd.C_drew ?_))); (case side2 => exact (Kd.N_reads' HO339.out).2.1); rintro e w' ⟨rfl, ⟨nd, rfl⟩⟩; refine ⟨_, rfl, ?_⟩))
  go_ret
  exact ⟨by first | rfl | (simp [errW_none, errW_some] <;> rfl) | (simp [*, errW_none, errW_some] <;> rfl), GS.lB HB.out⟩

-- GIVEN: function 13 (api_Point_13)

end Go.Proofs.Ytmcmbjkjilcmeaa.K
