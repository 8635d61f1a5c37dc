/- By hand: seal.Intact walked. -/
import Derived.Test.YtfjenooajbdcmaaGIntactP
namespace Go.Proofs.Ytfjenooajbdcmaa.K
open Go Go.RowKit Go.Maps Go.Sort Go.Proofs.YtfjenooajbdcmaaW.PrintWords Go.Proofs.YtfjenooajbdcmaaW.PrintLast Go.Proofs.YtfjenooajbdcmaaW.PrintMore Go.Proofs.Ytfjenooajbdcmaa.GM Go.Proofs.Ytfjenooajbdcmaa.GW
set_option linter.unusedVariables false
set_option maxHeartbeats 2000000 in
set_option maxRecDepth 100000 in
theorem seal_Intact.calls (A0 : Option Addr) (c0 : Nat) (l0 : List S34) (a1 a2 : Int) (r1 : List Int) (r2 : Int) (w : World) (hr0 : Kd.C k34 w A0 l0.length l0) (hc0 : l0.length ≤ c0) (h : seal_Intact.f l0 a1 a2 = some (r1, r2)) :
    Calls Try.prog 13 #[.slice A0 l0.length c0, .int .i64 a1, .int .i64 a2] w fun e w' => ∃ v0_ : Value, e = .returned (.tuple #[v0_, .int .i64 r2]) ∧ Kd.R (Kd.int .i64) 3 w' w.heap.size (fun _ => True) v0_ r1 ∧ Below w.heap.size w w' := by
  unfold seal_Intact.f at h
  by_cases hwf : (l0.all wf34) = true
  · rw [if_pos hwf] at h
    have HR0 := Aside0.mk hr0
    have HC0 := Aside0.mk hc0
    have HW := Aside0.mk (all_wf hwf)
    have HB := Aside0.mk (Below.refl w.heap.size w)
    clear hr0 hc0 hwf
    by_cases ha : askE l0 a1 [a2] = 0
    · rw [if_pos ha] at h
      simp only [Option.some.injEq, Prod.mk.injEq] at h
      obtain ⟨rfl, rfl⟩ := h
      have HA := Aside0.mk ha
      have HLEN : Aside0 (l0.length ≤ 128) := ⟨ask_len ha⟩
      clear ha
      go_enter Try.func13, Try.ntmps13
      go_wp2_with (first
        | ((with_reducible refine gqD (N := 5) rfl ?_); refine GS.bx (N := 5) (cs := #[.int .i64 a2]) (t := 3) ?_; intro g5 hg w1 hbox hb; have n0_ := Aside0.mk (lqT (GS.lB HB.out) hb); have B5 := Aside0.mk hbox; have G5 : Aside0 (w.heap.size ≤ g5) := ⟨by rw [hg]; exact (lqZ (GS.lB HB.out))⟩; clear HB; have HB := n0_; clear n0_ hb hbox hg; obtain ⟨hz5, hf5⟩ := GS.c1 B5.out)
        | ((with_reducible show Calls Try.prog 37 _ _ _); refine (asked_calls A0 c0 l0 a1 _ _ [a2] _ (GS.rC (Kd.C_below HR0.out HB.out)) HC0.out HW.out (C_new _ [a2] (by simp) (by unfold maxLen; simp))).mono ?_; rintro e w3 ⟨hae, hb⟩; obtain ⟨gm, hge, rfl, hm⟩ := hae.good HA.out; have GM_ : Aside0 (w.heap.size ≤ gm) := ⟨Nat.le_trans (lqZ (GS.lB HB.out)) hge⟩; have NG : Aside0 (g5 ≠ gm) := ⟨Nat.ne_of_lt (Nat.lt_of_lt_of_le (blk_lt (GS.bqX B5.out)) hge)⟩; have n0_ := Aside0.mk (lqT (GS.lB HB.out) hb); have n1_ := Aside0.mk (bqB (GS.bqX B5.out) hb); have HM_ := Aside0.mk hm; clear HB B5 hz5 hf5 hae hb hge hm; have HB := n0_; have B5 := n1_; clear n0_ n1_; obtain ⟨hz5, hf5⟩ := GS.c1 B5.out)
        | ((with_reducible show Calls Try.prog 38 _ _ _); refine (deleteFunc gm l0.length (ownP l0 a1) 39 #[.pointer (some ⟨g5, 0, none⟩)] (fun _ s => decide (s.fr > a2) || decide (s.tt ≤ a2)) _ HM_.out (pred39 a2 g5 gm _ NG.out (blk_lt (GS.bqX B5.out)) ((bqC B5.out 0).trans rfl)) eg39).mono ?_; rintro e w5 ⟨rfl, hm5, hg5⟩; have HM5 := Aside0.mk hm5; have n0_ := Aside0.mk (below_past (GS.lB HB.out) hg5 GM_.out); clear HB B5 HM_ hz5 hf5 hm5 hg5; have HB := n0_; clear n0_)
        | ((with_reducible show Calls Try.prog 41 _ _ _); refine (Try.keys41 _ _).mono ?_; rintro e W' ⟨rfl, rfl⟩)
        | ((with_reducible show Calls Try.prog 40 _ _ _); refine (HM.sorted HM5.out (L := intactL l0 a1 a2) (asc_intactL l0 a1 a2) HLEN.out (mem_intactL l0 a1 a2)).mono ?_; rintro e w9 ⟨v, rfl, hro, hb⟩; have HK9 := Aside0.mk (Kd.R_lower hro (lqZ (GS.lB HB.out))); have n0_ := Aside0.mk (lqT (GS.lB HB.out) hb); clear HB HM5 hb hro; have HB := n0_; clear n0_))
      go_ret2
      exact ⟨_, rfl, GS.rR HK9.out, GS.lB HB.out⟩
    · rw [if_neg ha] at h
      simp only [Option.some.injEq, Prod.mk.injEq] at h
      obtain ⟨rfl, rfl⟩ := h
      have HA := Aside0.mk ha
      have cn : (askE l0 a1 [a2] != 0) = true := bne_iff_ne.mpr ha
      clear ha
      go_enter Try.func13, Try.ntmps13
      go_wp2_with (first
        | ((with_reducible refine gqD (N := 5) rfl ?_); refine GS.bx (N := 5) (cs := #[.int .i64 a2]) (t := 3) ?_; intro g5 hg w1 hbox hb; have n0_ := Aside0.mk (lqT (GS.lB HB.out) hb); have B5 := Aside0.mk hbox; have G5 : Aside0 (w.heap.size ≤ g5) := ⟨by rw [hg]; exact (lqZ (GS.lB HB.out))⟩; clear HB; have HB := n0_; clear n0_ hb hbox hg; obtain ⟨hz5, hf5⟩ := GS.c1 B5.out)
        | ((with_reducible show Calls Try.prog 37 _ _ _); refine (asked_calls A0 c0 l0 a1 _ _ [a2] _ (GS.rC (Kd.C_below HR0.out HB.out)) HC0.out HW.out (C_new _ [a2] (by simp) (by unfold maxLen; simp))).mono ?_; rintro e w3 ⟨hae, hb⟩; obtain rfl := hae.bad HA.out; have n0_ := Aside0.mk (lqT (GS.lB HB.out) hb); clear HB B5 hz5 hf5 hae hb; have HB := n0_; clear n0_))
      go_ret2
      exact ⟨_, rfl, Kd.R_nil _ _ _ _ _, GS.lB HB.out⟩
  · rw [if_neg hwf] at h
    cases h
end Go.Proofs.Ytfjenooajbdcmaa.K
