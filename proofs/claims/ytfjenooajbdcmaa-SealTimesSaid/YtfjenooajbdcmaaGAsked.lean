/- By hand: seal.asked: how the seals of a place stand, or the error of a question. -/
import Derived.Test.YtfjenooajbdcmaaGFollow2
import Derived.Test.YtfjenooajbdcmaaGCont
namespace Go.Proofs.Ytfjenooajbdcmaa.K
open Go Go.RowKit Go.Maps Go.Proofs.YtfjenooajbdcmaaW.PrintWords Go.Proofs.YtfjenooajbdcmaaW.PrintLast Go.Proofs.YtfjenooajbdcmaaW.PrintMore Go.Proofs.Ytfjenooajbdcmaa.GM Go.Proofs.Ytfjenooajbdcmaa.GW
set_option linter.unusedVariables false
def badD (d : Int) : Bool := decide (d < 0) || decide (d > 100000)
def askE (l : List S34) (place : Int) (ds : List Int) : Int := if (fol l).2.2 ≠ 0 then 1 else if (decide (place < 1) || (decide (place > 1073741824) || ds.any badD)) = true then 2 else 0
def ownP (l : List S34) (place : Int) : Int → Option St := fun x => ((fol l).1 x).filter fun s => !(s.pl != place)
def AskEnd (l : List S34) (place : Int) (ds : List Int) (w : World) (e : Ending) (w' : World) : Prop :=
  (askE l place ds ≠ 0 ∧ e = .returned (.tuple #[.map none, .int .i64 (askE l place ds)])) ∨ (askE l place ds = 0 ∧ ∃ gm, w.heap.size ≤ gm ∧ e = .returned (.tuple #[.map (some gm), .int .i64 0]) ∧ HM w' gm l.length (ownP l place))
theorem FolEnd.bad {l : List S34} {w w' : World} {e : Ending} (h : FolEnd l w e w') (hz : (fol l).2.2 ≠ 0) : e = .returned (.tuple #[.map none, .int .i64 (fol l).2.1, .int .i64 (fol l).2.2]) := by
  rcases h with ⟨_, h⟩ | ⟨h, _⟩
  · exact h
  · exact absurd h hz
theorem FolEnd.good {l : List S34} {w w' : World} {e : Ending} (h : FolEnd l w e w') (hz : (fol l).2.2 = 0) : ∃ gm, w.heap.size ≤ gm ∧ e = .returned (.tuple #[.map (some gm), .int .i64 (-1), .int .i64 0]) ∧ HM w' gm l.length (fol l).1 := by
  rcases h with ⟨h, _⟩ | ⟨_, h⟩
  · exact absurd hz h
  · exact h
theorem eg57 (args : Array Value) (w : World) : (callFunc 57 args).run Try.prog w = .ok (.enter 57 args) w := enters_ Try.func57 (by kernel_rfl) rfl args w
theorem eg58 (args : Array Value) (w : World) : (callFunc 58 args).run Try.prog w = .ok (.enter 58 args) w := enters_ Try.func58 (by kernel_rfl) rfl args w
theorem eg39 (args : Array Value) (w : World) : (callFunc 39 args).run Try.prog w = .ok (.enter 39 args) w := enters_ Try.func39 (by kernel_rfl) rfl args w
set_option maxHeartbeats 2000000 in
set_option maxRecDepth 100000 in
theorem asked_calls (A0 : Option Addr) (c0 : Nat) (l0 : List S34) (place : Int) (Ad : Option Addr) (cd : Nat) (ds : List Int) (w : World) (hr0 : Kd.C k34 w A0 l0.length l0) (hc0 : l0.length ≤ c0) (hw : ∀ x ∈ l0, wf34 x = true) (hrd : Kd.C (Kd.int .i64) w Ad ds.length ds) :
    Calls Try.prog 37 #[.slice A0 l0.length c0, .int .i64 place, .slice Ad ds.length cd] w fun e w' => AskEnd l0 place ds w e w' ∧ Below w.heap.size w w' := by
  have HR0 := Aside0.mk hr0
  have HRD := Aside0.mk hrd
  have HC0 := Aside0.mk hc0
  have HW := Aside0.mk hw
  have HB := Aside0.mk (Below.refl w.heap.size w)
  clear hr0 hc0 hw hrd
  by_cases hfz : (fol l0).2.2 = 0
  · have HFZ := Aside0.mk hfz
    cases hx1 : decide (place < 1) with
    | true =>
      have HA : Aside0 (askE l0 place ds = 2) := ⟨by unfold askE; rw [if_neg (by rw [hfz]; decide), hx1]; rfl⟩
      clear hfz
      go_enter Try.func37, Try.ntmps37
      go_wp2_with (first
        | ((with_reducible refine gqD (N := 4) rfl ?_); refine GS.bx (N := 4) (cs := #[.int .i64 place]) (t := 3) ?_; intro g4 hg w1 hbox hb; have n0_ := Aside0.mk (lqT (GS.lB HB.out) hb); have B4 := Aside0.mk hbox; have G4 : Aside0 (w.heap.size ≤ g4) := ⟨by rw [hg]; exact (lqZ (GS.lB HB.out))⟩; clear HB; have HB := n0_; clear n0_ hb hbox hg; obtain ⟨hz4, hf4⟩ := GS.c1 B4.out)
        | ((with_reducible show Calls Try.prog 53 _ _ _); refine (follow_calls A0 c0 l0 _ (GS.rC (Kd.C_below HR0.out HB.out)) HC0.out HW.out).mono ?_; rintro e w3 ⟨hfe, hb⟩; obtain ⟨gm, hge, rfl, hm⟩ := hfe.good HFZ.out; have GM_ : Aside0 (w.heap.size ≤ gm) := ⟨Nat.le_trans (lqZ (GS.lB HB.out)) hge⟩; have NG : Aside0 (g4 ≠ gm) := ⟨Nat.ne_of_lt (Nat.lt_of_lt_of_le (blk_lt (GS.bqX B4.out)) hge)⟩; have n0_ := Aside0.mk (lqT (GS.lB HB.out) hb); have n1_ := Aside0.mk (bqB (GS.bqX B4.out) hb); have HM_ := Aside0.mk hm; clear HB B4 hz4 hf4 hfe hb hge hm; have HB := n0_; have B4 := n1_; clear n0_ n1_; obtain ⟨hz4, hf4⟩ := GS.c1 B4.out))
      go_ret2
      exact ⟨.inl ⟨by rw [HA.out]; decide, by rw [HA.out]; rfl⟩, GS.lB HB.out⟩
    | false =>
      cases hx2 : decide (place > 1073741824) with
      | true =>
        have HA : Aside0 (askE l0 place ds = 2) := ⟨by unfold askE; rw [if_neg (by rw [hfz]; decide), hx1, hx2]; rfl⟩
        clear hfz
        go_enter Try.func37, Try.ntmps37
        go_wp2_with (first
          | ((with_reducible refine gqD (N := 4) rfl ?_); refine GS.bx (N := 4) (cs := #[.int .i64 place]) (t := 3) ?_; intro g4 hg w1 hbox hb; have n0_ := Aside0.mk (lqT (GS.lB HB.out) hb); have B4 := Aside0.mk hbox; have G4 : Aside0 (w.heap.size ≤ g4) := ⟨by rw [hg]; exact (lqZ (GS.lB HB.out))⟩; clear HB; have HB := n0_; clear n0_ hb hbox hg; obtain ⟨hz4, hf4⟩ := GS.c1 B4.out)
          | ((with_reducible show Calls Try.prog 53 _ _ _); refine (follow_calls A0 c0 l0 _ (GS.rC (Kd.C_below HR0.out HB.out)) HC0.out HW.out).mono ?_; rintro e w3 ⟨hfe, hb⟩; obtain ⟨gm, hge, rfl, hm⟩ := hfe.good HFZ.out; have GM_ : Aside0 (w.heap.size ≤ gm) := ⟨Nat.le_trans (lqZ (GS.lB HB.out)) hge⟩; have NG : Aside0 (g4 ≠ gm) := ⟨Nat.ne_of_lt (Nat.lt_of_lt_of_le (blk_lt (GS.bqX B4.out)) hge)⟩; have n0_ := Aside0.mk (lqT (GS.lB HB.out) hb); have n1_ := Aside0.mk (bqB (GS.bqX B4.out) hb); have HM_ := Aside0.mk hm; clear HB B4 hz4 hf4 hfe hb hge hm; have HB := n0_; have B4 := n1_; clear n0_ n1_; obtain ⟨hz4, hf4⟩ := GS.c1 B4.out))
        go_ret2
        exact ⟨.inl ⟨by rw [HA.out]; decide, by rw [HA.out]; rfl⟩, GS.lB HB.out⟩
      | false =>
        cases hany : ds.any badD with
        | true =>
          have HA : Aside0 (askE l0 place ds = 2) := ⟨by unfold askE; rw [if_neg (by rw [hfz]; decide), hx1, hx2, hany]; rfl⟩
          have HANY := Aside0.mk hany
          clear hfz hany
          go_enter Try.func37, Try.ntmps37
          go_wp2_with (first
            | ((with_reducible refine gqD (N := 4) rfl ?_); refine GS.bx (N := 4) (cs := #[.int .i64 place]) (t := 3) ?_; intro g4 hg w1 hbox hb; have n0_ := Aside0.mk (lqT (GS.lB HB.out) hb); have B4 := Aside0.mk hbox; have G4 : Aside0 (w.heap.size ≤ g4) := ⟨by rw [hg]; exact (lqZ (GS.lB HB.out))⟩; clear HB; have HB := n0_; clear n0_ hb hbox hg; obtain ⟨hz4, hf4⟩ := GS.c1 B4.out)
            | ((with_reducible show Calls Try.prog 53 _ _ _); refine (follow_calls A0 c0 l0 _ (GS.rC (Kd.C_below HR0.out HB.out)) HC0.out HW.out).mono ?_; rintro e w3 ⟨hfe, hb⟩; obtain ⟨gm, hge, rfl, hm⟩ := hfe.good HFZ.out; have GM_ : Aside0 (w.heap.size ≤ gm) := ⟨Nat.le_trans (lqZ (GS.lB HB.out)) hge⟩; have NG : Aside0 (g4 ≠ gm) := ⟨Nat.ne_of_lt (Nat.lt_of_lt_of_le (blk_lt (GS.bqX B4.out)) hge)⟩; have n0_ := Aside0.mk (lqT (GS.lB HB.out) hb); have n1_ := Aside0.mk (bqB (GS.bqX B4.out) hb); have HM_ := Aside0.mk hm; clear HB B4 hz4 hf4 hfe hb hge hm; have HB := n0_; have B4 := n1_; clear n0_ n1_; obtain ⟨hz4, hf4⟩ := GS.c1 B4.out)
            | ((with_reducible show Calls Try.prog 23 _ _ _); refine (cont23 57 #[] eg57 badD Ad cd ds _ (GS.rC (Kd.C_below HRD.out HB.out)) (pred57 _)).mono ?_; rw [HANY.out]; rintro e w4 ⟨rfl, hb⟩; have n0_ := Aside0.mk (lqT (GS.lB HB.out) hb); have n1_ := Aside0.mk (bqB (GS.bqX B4.out) hb); have n2_ := Aside0.mk (HM_.out.kept (grown_of_below hb none) (by simp)); clear HB B4 HM_ hz4 hf4 hb; have HB := n0_; have B4 := n1_; have HM_ := n2_; clear n0_ n1_ n2_; obtain ⟨hz4, hf4⟩ := GS.c1 B4.out))
          go_ret2
          exact ⟨.inl ⟨by rw [HA.out]; decide, by rw [HA.out]; rfl⟩, GS.lB HB.out⟩
        | false =>
          have HA : Aside0 (askE l0 place ds = 0) := ⟨by unfold askE; rw [if_neg (by rw [hfz]; decide), hx1, hx2, hany]; rfl⟩
          have HANY := Aside0.mk hany
          clear hfz hany
          go_enter Try.func37, Try.ntmps37
          go_wp2_with (first
            | ((with_reducible refine gqD (N := 4) rfl ?_); refine GS.bx (N := 4) (cs := #[.int .i64 place]) (t := 3) ?_; intro g4 hg w1 hbox hb; have n0_ := Aside0.mk (lqT (GS.lB HB.out) hb); have B4 := Aside0.mk hbox; have G4 : Aside0 (w.heap.size ≤ g4) := ⟨by rw [hg]; exact (lqZ (GS.lB HB.out))⟩; clear HB; have HB := n0_; clear n0_ hb hbox hg; obtain ⟨hz4, hf4⟩ := GS.c1 B4.out)
            | ((with_reducible show Calls Try.prog 53 _ _ _); refine (follow_calls A0 c0 l0 _ (GS.rC (Kd.C_below HR0.out HB.out)) HC0.out HW.out).mono ?_; rintro e w3 ⟨hfe, hb⟩; obtain ⟨gm, hge, rfl, hm⟩ := hfe.good HFZ.out; have GM_ : Aside0 (w.heap.size ≤ gm) := ⟨Nat.le_trans (lqZ (GS.lB HB.out)) hge⟩; have NG : Aside0 (g4 ≠ gm) := ⟨Nat.ne_of_lt (Nat.lt_of_lt_of_le (blk_lt (GS.bqX B4.out)) hge)⟩; have n0_ := Aside0.mk (lqT (GS.lB HB.out) hb); have n1_ := Aside0.mk (bqB (GS.bqX B4.out) hb); have HM_ := Aside0.mk hm; clear HB B4 hz4 hf4 hfe hb hge hm; have HB := n0_; have B4 := n1_; clear n0_ n1_; obtain ⟨hz4, hf4⟩ := GS.c1 B4.out)
            | ((with_reducible show Calls Try.prog 23 _ _ _); refine (cont23 57 #[] eg57 badD Ad cd ds _ (GS.rC (Kd.C_below HRD.out HB.out)) (pred57 _)).mono ?_; rw [HANY.out]; rintro e w4 ⟨rfl, hb⟩; have n0_ := Aside0.mk (lqT (GS.lB HB.out) hb); have n1_ := Aside0.mk (bqB (GS.bqX B4.out) hb); have n2_ := Aside0.mk (HM_.out.kept (grown_of_below hb none) (by simp)); clear HB B4 HM_ hz4 hf4 hb; have HB := n0_; have B4 := n1_; have HM_ := n2_; clear n0_ n1_ n2_; obtain ⟨hz4, hf4⟩ := GS.c1 B4.out)
            | ((with_reducible show Calls Try.prog 38 _ _ _); refine (deleteFunc gm l0.length (fol l0).1 58 #[.pointer (some ⟨g4, 0, none⟩)] (fun _ s => s.pl != place) _ HM_.out (pred58 place g4 gm _ NG.out (blk_lt (GS.bqX B4.out)) ((bqC B4.out 0).trans rfl)) eg58).mono ?_; rintro e w5 ⟨rfl, hm5, hg5⟩; have HM5 := Aside0.mk hm5; have n0_ := Aside0.mk (below_past (GS.lB HB.out) hg5 GM_.out); clear HB B4 HM_ hz4 hf4 hm5 hg5; have HB := n0_; clear n0_))
          go_ret2
          exact ⟨.inr ⟨HA.out, gm, GM_.out, rfl, HM5.out⟩, GS.lB HB.out⟩
  · have HFZ := Aside0.mk hfz
    have HA : Aside0 (askE l0 place ds = 1) := ⟨by unfold askE; rw [if_pos hfz]⟩
    have cn : ((fol l0).2.2 != 0) = true := bne_iff_ne.mpr hfz
    clear hfz
    go_enter Try.func37, Try.ntmps37
    go_wp2_with (first
      | ((with_reducible refine gqD (N := 4) rfl ?_); refine GS.bx (N := 4) (cs := #[.int .i64 place]) (t := 3) ?_; intro g4 hg w1 hbox hb; have n0_ := Aside0.mk (lqT (GS.lB HB.out) hb); have B4 := Aside0.mk hbox; have G4 : Aside0 (w.heap.size ≤ g4) := ⟨by rw [hg]; exact (lqZ (GS.lB HB.out))⟩; clear HB; have HB := n0_; clear n0_ hb hbox hg; obtain ⟨hz4, hf4⟩ := GS.c1 B4.out)
      | ((with_reducible show Calls Try.prog 53 _ _ _); refine (follow_calls A0 c0 l0 _ (GS.rC (Kd.C_below HR0.out HB.out)) HC0.out HW.out).mono ?_; rintro e w3 ⟨hfe, hb⟩; obtain rfl := hfe.bad HFZ.out; have n0_ := Aside0.mk (lqT (GS.lB HB.out) hb); clear HB B4 hz4 hf4 hfe hb; have HB := n0_; clear n0_))
    go_ret2
    exact ⟨.inl ⟨by rw [HA.out]; decide, by rw [HA.out]; rfl⟩, GS.lB HB.out⟩
end Go.Proofs.Ytfjenooajbdcmaa.K
