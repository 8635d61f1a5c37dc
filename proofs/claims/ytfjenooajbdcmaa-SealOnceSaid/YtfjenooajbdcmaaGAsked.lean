/- By hand: slices.ContainsFunc at whole numbers, whatever the predicate captures; package seal's predicate of days. -/
import Derived.Test.YtfjenooajbdcmaaK0
import Derived.Test.YtfjenooajbdcmaaGDelete
import Derived.Test.YtfjenooajbdcmaaGFollow2
namespace Go.Proofs.Ytfjenooajbdcmaa.K
open Go Go.RowKit Go.Proofs.YtfjenooajbdcmaaW.PrintWords Go.Proofs.YtfjenooajbdcmaaW.PrintLast Go.Proofs.YtfjenooajbdcmaaW.PrintMore Go.Proofs.Ytfjenooajbdcmaa.GM
set_option linter.unusedVariables false
def idxI (p : Int → Bool) (xs : List Int) : Int := match xs.findIdx? p with | some i => (i : Int) | none => -1
theorem rdI_get (xs : List Int) (i : Nat) (h : i < xs.length) : Go.Proofs.YtfjenooajbdcmaaW.PrintWords.rd xs (i : Int) = xs[i] := by
  unfold Go.Proofs.YtfjenooajbdcmaaW.PrintWords.rd
  simp [List.getD_eq_getElem?_getD, h]
theorem idxI_none (p : Int → Bool) (xs : List Int) (h : ∀ t : Int, 0 ≤ t → t < xs.length → p (Go.Proofs.YtfjenooajbdcmaaW.PrintWords.rd xs t) = false) : idxI p xs = -1 := by
  have : xs.findIdx? p = none := by
    rw [List.findIdx?_eq_none_iff]
    intro x hx
    obtain ⟨i, hi, rfl⟩ := List.mem_iff_getElem.1 hx
    have := h i (by omega) (by omega)
    rwa [rdI_get xs i hi] at this
  simp [idxI, this]
theorem idxI_some (p : Int → Bool) (xs : List Int) (j : Int) (h0 : 0 ≤ j) (h1 : j < xs.length) (h : ∀ t : Int, 0 ≤ t → t < j → p (Go.Proofs.YtfjenooajbdcmaaW.PrintWords.rd xs t) = false) (hp : p (Go.Proofs.YtfjenooajbdcmaaW.PrintWords.rd xs j) = true) : idxI p xs = j := by
  obtain ⟨i, rfl⟩ := Int.eq_ofNat_of_zero_le h0
  have hi : i < xs.length := by omega
  rw [rdI_get xs i hi] at hp
  have : xs.findIdx? p = some i := by
    rw [List.findIdx?_eq_some_iff_getElem]
    refine ⟨hi, hp, fun t ht => ?_⟩
    have := h t (by omega) (by omega)
    rw [rdI_get xs t (by omega)] at this
    simp [this]
  simp [idxI, this]
theorem idxI_any (p : Int → Bool) (xs : List Int) : decide (idxI p xs ≥ 0) = xs.any p := by
  unfold idxI
  cases h : xs.findIdx? p with
  | none =>
    rw [List.findIdx?_eq_none_iff] at h
    have : xs.any p = false := by
      rw [List.any_eq_false]
      intro x hx
      simp [h x hx]
    rw [this]
    rfl
  | some i =>
    rw [List.findIdx?_eq_some_iff_getElem] at h
    obtain ⟨hi, hp, _⟩ := h
    have : xs.any p = true := List.any_eq_true.2 ⟨xs[i], List.getElem_mem hi, hp⟩
    rw [this]
    simp
/-- A predicate of a whole number, as a function value. -/
def PredI (g : Nat) (lb : Array Value) (p : Int → Bool) (w : World) : Prop :=
  ∀ W x, Below w.heap.size w W → Calls Try.prog g (#[.int .i64 x] ++ lb) W fun e w' => e = .returned (.bool (p x)) ∧ Below W.heap.size W w'
theorem PredI.below {g : Nat} {lb : Array Value} {p : Int → Bool} {w w1 : World} (h : PredI g lb p w) (hb : Below w.heap.size w w1) : PredI g lb p w1 := fun W x hW => h W x (below_step hb hW)
set_option maxHeartbeats 4000000 in
set_option maxRecDepth 100000 in
theorem idx51 (g : Nat) (lb : Array Value) (heg : ∀ args w, (callFunc g args).run Try.prog w = .ok (.enter g args) w) (p : Int → Bool) (A : Option Addr) (c : Nat) (xs : List Int) (w : World) (hr : Kd.C (Kd.int .i64) w A xs.length xs) (hf : PredI g lb p w) :
    Calls Try.prog 51 #[.slice A xs.length c, .func (.func g) #[] lb] w fun e w' => e = .returned (.int .i64 (idxI p xs)) ∧ Below w.heap.size w w' := by
  have HR := Aside0.mk hr
  have HF := Aside0.mk hf
  have HM : Aside0 (xs.length ≤ 9223372036854775807) := ⟨hr.2.1⟩
  clear hr hf
  go_enter Try.func51, Try.ntmps51
  go_wp2
  go_loopg [8] xs.length (fun kq v8 w' => ∃ j : Int, v8 = .int .i64 j ∧ Aside0 (0 ≤ j ∧ j + kq = xs.length) ∧ Aside0 (∀ t : Int, 0 ≤ t → t < j → p (Go.Proofs.YtfjenooajbdcmaaW.PrintWords.rd xs t) = false) ∧ Aside0 (Below w.heap.size w w'))
  case atStart => exact ⟨0, rfl, ⟨by omega, by omega⟩, ⟨fun t h1 h2 => by omega⟩, ⟨Below.refl _ _⟩⟩
  case round =>
    obtain ⟨j, rfl, HJ, HP, HB⟩ := hrel
    cases gk with
    | zero =>
      have cz : decide (j < (xs.length : Int)) = false := decide_eq_false (by have := HJ.out; omega)
      go_wp2
      go_ret
      exact ⟨by rw [idxI_none p xs (fun t h1 h2 => HP.out t h1 (by have := HJ.out; omega))]; rfl, HB.out⟩
    | succ gk =>
      have q1 : j < (xs.length : Int) := by have := HJ.out; omega
      have p1 : 0 ≤ j := HJ.out.1
      have cb1 : decide (j < (xs.length : Int)) = true := decide_eq_true q1
      have Q := Aside0.mk q1
      have hw : wrap64 (j + 1) = j + 1 := by unfold wrap64; have := HM.out; omega
      have HW := Aside0.mk hw
      clear hw
      obtain ⟨ad, e1, x0⟩ := Kd.at_int (Kd.C_below HR.out HB.out) j p1 q1
      cases e1
      replace p1 := eq_true p1
      replace q1 := eq_true q1
      have HCL := Aside0.mk (HF.out _ (Go.Proofs.YtfjenooajbdcmaaW.PrintWords.rd xs j) HB.out)
      cases cp : p (Go.Proofs.YtfjenooajbdcmaaW.PrintWords.rd xs j) with
      | true =>
        have CP := Aside0.mk cp
        clear cp
        go_wp2_with (first | ((with_reducible show Calls Try.prog g _ _ _); refine HCL.out.mono ?_; rw [CP.out]; rintro e w7 ⟨rfl, hb⟩; have HB2 := Aside0.mk (below_step HB.out hb); clear hb))
        go_ret
        exact ⟨by rw [idxI_some p xs j HJ.out.1 Q.out HP.out CP.out]; rfl, HB2.out⟩
      | false =>
        have CP := Aside0.mk cp
        clear cp
        go_wp2_with (first | ((with_reducible show Calls Try.prog g _ _ _); refine HCL.out.mono ?_; rw [CP.out]; rintro e w7 ⟨rfl, hb⟩; have HB2 := Aside0.mk (below_step HB.out hb); clear hb))
        go_roundg gk
        case measure => omega
        case rel => exact ⟨wrap64 (j + 1), rfl, ⟨by rw [HW.out]; have := HJ.out; omega⟩, ⟨by rw [HW.out]; intro t h1 h2; by_cases h3 : t = j; (· rw [h3]; exact CP.out); exact HP.out t h1 (by omega)⟩, HB2⟩
set_option maxHeartbeats 4000000 in
set_option maxRecDepth 100000 in
theorem cont23 (g : Nat) (lb : Array Value) (heg : ∀ args w, (callFunc g args).run Try.prog w = .ok (.enter g args) w) (p : Int → Bool) (A : Option Addr) (c : Nat) (xs : List Int) (w : World) (hr : Kd.C (Kd.int .i64) w A xs.length xs) (hf : PredI g lb p w) :
    Calls Try.prog 23 #[.slice A xs.length c, .func (.func g) #[] lb] w fun e w' => e = .returned (.bool (xs.any p)) ∧ Below w.heap.size w w' := by
  have HI := Aside0.mk (idx51 g lb heg p A c xs w hr hf)
  have HA := Aside0.mk (idxI_any p xs)
  clear hr hf
  go_enter Try.func23, Try.ntmps23
  go_wp2_with (first | ((with_reducible show Calls Try.prog 51 _ _ _); refine HI.out.mono ?_; rintro e w2 ⟨rfl, hb⟩; have HB := Aside0.mk hb; clear hb))
  go_ret
  exact ⟨by rw [← HA.out]; rfl, HB.out⟩
theorem pred57 (w : World) : PredI 57 #[] (fun d => decide (d < 0) || decide (d > 100000)) w := by
  intro W x hb
  show Calls Try.prog 57 #[.int .i64 x] W _
  clear hb
  cases c1 : decide (x < 0)
  · go_enter Try.func57, Try.ntmps57
    go_wp2
    all_goals (go_ret; exact ⟨by simp_all <;> omega, GS.lB (Below.refl _ _)⟩)
  · go_enter Try.func57, Try.ntmps57
    go_wp2
    all_goals (go_ret; exact ⟨by simp_all <;> omega, GS.lB (Below.refl _ _)⟩)
end Go.Proofs.Ytfjenooajbdcmaa.K
namespace Go.Proofs.Ytfjenooajbdcmaa.K
open Go Go.RowKit Go.Maps Go.Proofs.YtfjenooajbdcmaaW.PrintWords Go.Proofs.YtfjenooajbdcmaaW.PrintLast Go.Proofs.YtfjenooajbdcmaaW.PrintMore Go.Proofs.Ytfjenooajbdcmaa.GM Go.Proofs.Ytfjenooajbdcmaa.GW
set_option linter.unusedVariables false
def badD (d : Int) : Bool := decide (d < 0) || decide (d > 100000)
def askE (l : List S34) (place : Int) (ds : List Int) : Int := if (fol l).2.2 ≠ 0 then 1 else if (decide (place < 1) || (decide (place > 1073741824) || ds.any badD)) = true then 2 else 0
def ownP (l : List S34) (place : Int) : Int → Option St := fun x => ((fol l).1 x).filter fun s => !(s.pl != place)
def AskEnd (l : List S34) (place : Int) (ds : List Int) (w : World) (e : Ending) (w' : World) : Prop :=
  (askE l place ds ≠ 0 ∧ e = .returned (.tuple #[.map none, .int .i64 (askE l place ds)])) ∨ (askE l place ds = 0 ∧ ∃ gm, w.heap.size ≤ gm ∧ e = .returned (.tuple #[.map (some gm), .int .i64 0]) ∧ HM w' gm l.length (ownP l place))
theorem FolEnd.bad {l : List S34} {w w' : World} {e : Ending} (h : FolEnd l w e w') (hz : (fol l).2.2 ≠ 0) : e = .returned (.tuple #[.map none, .int .i64 (fol l).2.1, .int .i64 (fol l).2.2]) := by
  rcases h with ⟨_, h⟩ | ⟨h, _⟩
  · exact h
  · exact absurd h hz
theorem FolEnd.good {l : List S34} {w w' : World} {e : Ending} (h : FolEnd l w e w') (hz : (fol l).2.2 = 0) : ∃ gm, w.heap.size ≤ gm ∧ e = .returned (.tuple #[.map (some gm), .int .i64 (-1), .int .i64 0]) ∧ HM w' gm l.length (fol l).1 := by
  rcases h with ⟨h, _⟩ | ⟨_, h⟩
  · exact absurd hz h
  · exact h
theorem eg57 (args : Array Value) (w : World) : (callFunc 57 args).run Try.prog w = .ok (.enter 57 args) w := enters_ Try.func57 (by kernel_rfl) rfl args w
theorem eg58 (args : Array Value) (w : World) : (callFunc 58 args).run Try.prog w = .ok (.enter 58 args) w := enters_ Try.func58 (by kernel_rfl) rfl args w
theorem eg39 (args : Array Value) (w : World) : (callFunc 39 args).run Try.prog w = .ok (.enter 39 args) w := enters_ Try.func39 (by kernel_rfl) rfl args w
set_option maxHeartbeats 2000000 in
set_option maxRecDepth 100000 in
theorem asked_calls (A0 : Option Addr) (c0 : Nat) (l0 : List S34) (place : Int) (Ad : Option Addr) (cd : Nat) (ds : List Int) (w : World) (hr0 : Kd.C k34 w A0 l0.length l0) (hc0 : l0.length ≤ c0) (hw : ∀ x ∈ l0, wf34 x = true) (hrd : Kd.C (Kd.int .i64) w Ad ds.length ds) :
    Calls Try.prog 37 #[.slice A0 l0.length c0, .int .i64 place, .slice Ad ds.length cd] w fun e w' => AskEnd l0 place ds w e w' ∧ Below w.heap.size w w' := by
  have HR0 := Aside0.mk hr0
  have HRD := Aside0.mk hrd
  have HC0 := Aside0.mk hc0
  have HW := Aside0.mk hw
  have HB := Aside0.mk (Below.refl w.heap.size w)
  clear hr0 hc0 hw hrd
  by_cases hfz : (fol l0).2.2 = 0
  · have HFZ := Aside0.mk hfz
    cases hx1 : decide (place < 1) with
    | true =>
      have HA : Aside0 (askE l0 place ds = 2) := ⟨by unfold askE; rw [if_neg (by rw [hfz]; decide), hx1]; rfl⟩
      clear hfz
      go_enter Try.func37, Try.ntmps37
      go_wp2_with (first
        | ((with_reducible refine gqD (N := 4) rfl ?_); refine GS.bx (N := 4) (cs := #[.int .i64 place]) (t := 3) ?_; intro g4 hg w1 hbox hb; have n0_ := Aside0.mk (lqT (GS.lB HB.out) hb); have B4 := Aside0.mk hbox; have G4 : Aside0 (w.heap.size ≤ g4) := ⟨by rw [hg]; exact (lqZ (GS.lB HB.out))⟩; clear HB; have HB := n0_; clear n0_ hb hbox hg; obtain ⟨hz4, hf4⟩ := GS.c1 B4.out)
        | ((with_reducible show Calls Try.prog 53 _ _ _); refine (follow_calls A0 c0 l0 _ (GS.rC (Kd.C_below HR0.out HB.out)) HC0.out HW.out).mono ?_; rintro e w3 ⟨hfe, hb⟩; obtain ⟨gm, hge, rfl, hm⟩ := hfe.good HFZ.out; have GM_ : Aside0 (w.heap.size ≤ gm) := ⟨Nat.le_trans (lqZ (GS.lB HB.out)) hge⟩; have NG : Aside0 (g4 ≠ gm) := ⟨Nat.ne_of_lt (Nat.lt_of_lt_of_le (blk_lt (GS.bqX B4.out)) hge)⟩; have n0_ := Aside0.mk (lqT (GS.lB HB.out) hb); have n1_ := Aside0.mk (bqB (GS.bqX B4.out) hb); have HM_ := Aside0.mk hm; clear HB B4 hz4 hf4 hfe hb hge hm; have HB := n0_; have B4 := n1_; clear n0_ n1_; obtain ⟨hz4, hf4⟩ := GS.c1 B4.out))
      go_ret2
      exact ⟨.inl ⟨by rw [HA.out]; decide, by rw [HA.out]; rfl⟩, GS.lB HB.out⟩
    | false =>
      cases hx2 : decide (place > 1073741824) with
      | true =>
        have HA : Aside0 (askE l0 place ds = 2) := ⟨by unfold askE; rw [if_neg (by rw [hfz]; decide), hx1, hx2]; rfl⟩
        clear hfz
        go_enter Try.func37, Try.ntmps37
        go_wp2_with (first
          | ((with_reducible refine gqD (N := 4) rfl ?_); refine GS.bx (N := 4) (cs := #[.int .i64 place]) (t := 3) ?_; intro g4 hg w1 hbox hb; have n0_ := Aside0.mk (lqT (GS.lB HB.out) hb); have B4 := Aside0.mk hbox; have G4 : Aside0 (w.heap.size ≤ g4) := ⟨by rw [hg]; exact (lqZ (GS.lB HB.out))⟩; clear HB; have HB := n0_; clear n0_ hb hbox hg; obtain ⟨hz4, hf4⟩ := GS.c1 B4.out)
          | ((with_reducible show Calls Try.prog 53 _ _ _); refine (follow_calls A0 c0 l0 _ (GS.rC (Kd.C_below HR0.out HB.out)) HC0.out HW.out).mono ?_; rintro e w3 ⟨hfe, hb⟩; obtain ⟨gm, hge, rfl, hm⟩ := hfe.good HFZ.out; have GM_ : Aside0 (w.heap.size ≤ gm) := ⟨Nat.le_trans (lqZ (GS.lB HB.out)) hge⟩; have NG : Aside0 (g4 ≠ gm) := ⟨Nat.ne_of_lt (Nat.lt_of_lt_of_le (blk_lt (GS.bqX B4.out)) hge)⟩; have n0_ := Aside0.mk (lqT (GS.lB HB.out) hb); have n1_ := Aside0.mk (bqB (GS.bqX B4.out) hb); have HM_ := Aside0.mk hm; clear HB B4 hz4 hf4 hfe hb hge hm; have HB := n0_; have B4 := n1_; clear n0_ n1_; obtain ⟨hz4, hf4⟩ := GS.c1 B4.out))
        go_ret2
        exact ⟨.inl ⟨by rw [HA.out]; decide, by rw [HA.out]; rfl⟩, GS.lB HB.out⟩
      | false =>
        cases hany : ds.any badD with
        | true =>
          have HA : Aside0 (askE l0 place ds = 2) := ⟨by unfold askE; rw [if_neg (by rw [hfz]; decide), hx1, hx2, hany]; rfl⟩
          have HANY := Aside0.mk hany
          clear hfz hany
          go_enter Try.func37, Try.ntmps37
          go_wp2_with (first
            | ((with_reducible refine gqD (N := 4) rfl ?_); refine GS.bx (N := 4) (cs := #[.int .i64 place]) (t := 3) ?_; intro g4 hg w1 hbox hb; have n0_ := Aside0.mk (lqT (GS.lB HB.out) hb); have B4 := Aside0.mk hbox; have G4 : Aside0 (w.heap.size ≤ g4) := ⟨by rw [hg]; exact (lqZ (GS.lB HB.out))⟩; clear HB; have HB := n0_; clear n0_ hb hbox hg; obtain ⟨hz4, hf4⟩ := GS.c1 B4.out)
            | ((with_reducible show Calls Try.prog 53 _ _ _); refine (follow_calls A0 c0 l0 _ (GS.rC (Kd.C_below HR0.out HB.out)) HC0.out HW.out).mono ?_; rintro e w3 ⟨hfe, hb⟩; obtain ⟨gm, hge, rfl, hm⟩ := hfe.good HFZ.out; have GM_ : Aside0 (w.heap.size ≤ gm) := ⟨Nat.le_trans (lqZ (GS.lB HB.out)) hge⟩; have NG : Aside0 (g4 ≠ gm) := ⟨Nat.ne_of_lt (Nat.lt_of_lt_of_le (blk_lt (GS.bqX B4.out)) hge)⟩; have n0_ := Aside0.mk (lqT (GS.lB HB.out) hb); have n1_ := Aside0.mk (bqB (GS.bqX B4.out) hb); have HM_ := Aside0.mk hm; clear HB B4 hz4 hf4 hfe hb hge hm; have HB := n0_; have B4 := n1_; clear n0_ n1_; obtain ⟨hz4, hf4⟩ := GS.c1 B4.out)
            | ((with_reducible show Calls Try.prog 23 _ _ _); refine (cont23 57 #[] eg57 badD Ad cd ds _ (GS.rC (Kd.C_below HRD.out HB.out)) (pred57 _)).mono ?_; rw [HANY.out]; rintro e w4 ⟨rfl, hb⟩; have n0_ := Aside0.mk (lqT (GS.lB HB.out) hb); have n1_ := Aside0.mk (bqB (GS.bqX B4.out) hb); have n2_ := Aside0.mk (HM_.out.kept (grown_of_below hb none) (by simp)); clear HB B4 HM_ hz4 hf4 hb; have HB := n0_; have B4 := n1_; have HM_ := n2_; clear n0_ n1_ n2_; obtain ⟨hz4, hf4⟩ := GS.c1 B4.out))
          go_ret2
          exact ⟨.inl ⟨by rw [HA.out]; decide, by rw [HA.out]; rfl⟩, GS.lB HB.out⟩
        | false =>
          have HA : Aside0 (askE l0 place ds = 0) := ⟨by unfold askE; rw [if_neg (by rw [hfz]; decide), hx1, hx2, hany]; rfl⟩
          have HANY := Aside0.mk hany
          clear hfz hany
          go_enter Try.func37, Try.ntmps37
          go_wp2_with (first
            | ((with_reducible refine gqD (N := 4) rfl ?_); refine GS.bx (N := 4) (cs := #[.int .i64 place]) (t := 3) ?_; intro g4 hg w1 hbox hb; have n0_ := Aside0.mk (lqT (GS.lB HB.out) hb); have B4 := Aside0.mk hbox; have G4 : Aside0 (w.heap.size ≤ g4) := ⟨by rw [hg]; exact (lqZ (GS.lB HB.out))⟩; clear HB; have HB := n0_; clear n0_ hb hbox hg; obtain ⟨hz4, hf4⟩ := GS.c1 B4.out)
            | ((with_reducible show Calls Try.prog 53 _ _ _); refine (follow_calls A0 c0 l0 _ (GS.rC (Kd.C_below HR0.out HB.out)) HC0.out HW.out).mono ?_; rintro e w3 ⟨hfe, hb⟩; obtain ⟨gm, hge, rfl, hm⟩ := hfe.good HFZ.out; have GM_ : Aside0 (w.heap.size ≤ gm) := ⟨Nat.le_trans (lqZ (GS.lB HB.out)) hge⟩; have NG : Aside0 (g4 ≠ gm) := ⟨Nat.ne_of_lt (Nat.lt_of_lt_of_le (blk_lt (GS.bqX B4.out)) hge)⟩; have n0_ := Aside0.mk (lqT (GS.lB HB.out) hb); have n1_ := Aside0.mk (bqB (GS.bqX B4.out) hb); have HM_ := Aside0.mk hm; clear HB B4 hz4 hf4 hfe hb hge hm; have HB := n0_; have B4 := n1_; clear n0_ n1_; obtain ⟨hz4, hf4⟩ := GS.c1 B4.out)
            | ((with_reducible show Calls Try.prog 23 _ _ _); refine (cont23 57 #[] eg57 badD Ad cd ds _ (GS.rC (Kd.C_below HRD.out HB.out)) (pred57 _)).mono ?_; rw [HANY.out]; rintro e w4 ⟨rfl, hb⟩; have n0_ := Aside0.mk (lqT (GS.lB HB.out) hb); have n1_ := Aside0.mk (bqB (GS.bqX B4.out) hb); have n2_ := Aside0.mk (HM_.out.kept (grown_of_below hb none) (by simp)); clear HB B4 HM_ hz4 hf4 hb; have HB := n0_; have B4 := n1_; have HM_ := n2_; clear n0_ n1_ n2_; obtain ⟨hz4, hf4⟩ := GS.c1 B4.out)
            | ((with_reducible show Calls Try.prog 38 _ _ _); refine (deleteFunc gm l0.length (fol l0).1 58 #[.pointer (some ⟨g4, 0, none⟩)] (fun _ s => s.pl != place) _ HM_.out (pred58 place g4 gm _ NG.out (blk_lt (GS.bqX B4.out)) ((bqC B4.out 0).trans rfl)) eg58).mono ?_; rintro e w5 ⟨rfl, hm5, hg5⟩; have HM5 := Aside0.mk hm5; have n0_ := Aside0.mk (below_past (GS.lB HB.out) hg5 GM_.out); clear HB B4 HM_ hz4 hf4 hm5 hg5; have HB := n0_; clear n0_))
          go_ret2
          exact ⟨.inr ⟨HA.out, gm, GM_.out, rfl, HM5.out⟩, GS.lB HB.out⟩
  · have HFZ := Aside0.mk hfz
    have HA : Aside0 (askE l0 place ds = 1) := ⟨by unfold askE; rw [if_pos hfz]⟩
    have cn : ((fol l0).2.2 != 0) = true := bne_iff_ne.mpr hfz
    clear hfz
    go_enter Try.func37, Try.ntmps37
    go_wp2_with (first
      | ((with_reducible refine gqD (N := 4) rfl ?_); refine GS.bx (N := 4) (cs := #[.int .i64 place]) (t := 3) ?_; intro g4 hg w1 hbox hb; have n0_ := Aside0.mk (lqT (GS.lB HB.out) hb); have B4 := Aside0.mk hbox; have G4 : Aside0 (w.heap.size ≤ g4) := ⟨by rw [hg]; exact (lqZ (GS.lB HB.out))⟩; clear HB; have HB := n0_; clear n0_ hb hbox hg; obtain ⟨hz4, hf4⟩ := GS.c1 B4.out)
      | ((with_reducible show Calls Try.prog 53 _ _ _); refine (follow_calls A0 c0 l0 _ (GS.rC (Kd.C_below HR0.out HB.out)) HC0.out HW.out).mono ?_; rintro e w3 ⟨hfe, hb⟩; obtain rfl := hfe.bad HFZ.out; have n0_ := Aside0.mk (lqT (GS.lB HB.out) hb); clear HB B4 hz4 hf4 hfe hb; have HB := n0_; clear n0_))
    go_ret2
    exact ⟨.inl ⟨by rw [HA.out]; decide, by rw [HA.out]; rfl⟩, GS.lB HB.out⟩
end Go.Proofs.Ytfjenooajbdcmaa.K
