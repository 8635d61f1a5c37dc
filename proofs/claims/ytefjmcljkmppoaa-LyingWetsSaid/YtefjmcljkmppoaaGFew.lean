/- By hand: slices.ContainsFunc of rows, at few's closure. -/
import Derived.Test.YtefjmcljkmppoaaK0
import Derived.Test.YtefjmcljkmppoaaGW
import Derived.Test.YtefjmcljkmppoaaGShort
import Derived.Test.YtefjmcljkmppoaaGIdxP
import Derived.Deep.RegionLaw
import Derived.WalkSpells
namespace Go.Proofs.Ytefjmcljkmppoaa.K
open Go Go.RowKit Go.Proofs.YtefjmcljkmppoaaW.PrintWords Go.Proofs.YtefjmcljkmppoaaW.PrintLast Go.Proofs.YtefjmcljkmppoaaW.PrintMore Go.Proofs.Ytefjmcljkmppoaa.GW
set_option linter.unusedVariables false
set_option linter.unusedSimpArgs false
def idxL (p : List Int → Bool) (xs : List (List Int)) : Int := match xs.findIdx? p with | some i => (i : Int) | none => -1
theorem rdL_get (xs : List (List Int)) (i : Nat) (h : i < xs.length) : rd_L5 xs (i : Int) = xs[i] := by
  unfold rd_L5
  simp [List.getD_eq_getElem?_getD, h]
theorem idxL_none (p : List Int → Bool) (xs : List (List Int)) (h : ∀ t : Int, 0 ≤ t → t < xs.length → p (rd_L5 xs t) = false) : idxL p xs = -1 := by
  have : xs.findIdx? p = none := by
    rw [List.findIdx?_eq_none_iff]
    intro x hx
    obtain ⟨i, hi, rfl⟩ := List.mem_iff_getElem.1 hx
    have := h i (by omega) (by omega)
    rwa [rdL_get xs i hi] at this
  simp [idxL, this]
theorem idxL_some (p : List Int → Bool) (xs : List (List Int)) (j : Int) (h0 : 0 ≤ j) (h1 : j < xs.length) (h : ∀ t : Int, 0 ≤ t → t < j → p (rd_L5 xs t) = false) (hp : p (rd_L5 xs j) = true) : idxL p xs = j := by
  obtain ⟨i, rfl⟩ := Int.eq_ofNat_of_zero_le h0
  have hi : i < xs.length := by omega
  rw [rdL_get xs i hi] at hp
  have : xs.findIdx? p = some i := by
    rw [List.findIdx?_eq_some_iff_getElem]
    refine ⟨hi, hp, fun t ht => ?_⟩
    have := h t (by omega) (by omega)
    rw [rdL_get xs t (by omega)] at this
    simp [this]
  simp [idxL, this]
theorem idxL_any (p : List Int → Bool) (xs : List (List Int)) : decide (idxL p xs ≥ 0) = xs.any p := by
  unfold idxL
  cases h : xs.findIdx? p with
  | none =>
    rw [List.findIdx?_eq_none_iff] at h
    have : xs.any p = false := by
      rw [List.any_eq_false]
      intro x hx
      simp [h x hx]
    rw [this]
    rfl
  | some i =>
    rw [List.findIdx?_eq_some_iff_getElem] at h
    obtain ⟨hi, hp, _⟩ := h
    have : xs.any p = true := List.any_eq_true.2 ⟨xs[i], List.getElem_mem hi, hp⟩
    rw [this]
    simp
def PredL (g : Nat) (lb : Array Value) (p : List Int → Bool) (w : World) : Prop :=
  ∀ W (A : Option Addr) (c : Nat) (x : List Int), Below w.heap.size w W → Calls Try.prog g (#[.slice A x.length c] ++ lb) W fun e w' => e = .returned (.bool (p x)) ∧ Below W.heap.size W w'
set_option maxHeartbeats 4000000 in
set_option maxRecDepth 100000 in
theorem idxFL (g : Nat) (lb : Array Value) (heg : ∀ args w, (callFunc g args).run Try.prog w = .ok (.enter g args) w) (p : List Int → Bool) (A : Option Addr) (c : Nat) (xs : List (List Int)) (w : World) (hr : Kd.C (Kd.slice 3 (Kd.int .i64)) w A xs.length xs) (hf : PredL g lb p w) :
    Calls Try.prog 72 #[.slice A xs.length c, .func (.func g) #[] lb] w fun e w' => e = .returned (.int .i64 (idxL p xs)) ∧ Below w.heap.size w w' := by
  have HR := Aside0.mk hr
  have HF := Aside0.mk hf
  have HM : Aside0 (xs.length ≤ 9223372036854775807) := ⟨hr.2.1⟩
  clear hr hf
  go_enter Try.func72, Try.ntmps72
  go_wp2
  go_loopg [8] xs.length (fun kq v8 w' => ∃ j : Int, v8 = .int .i64 j ∧ Aside0 (0 ≤ j ∧ j + kq = xs.length) ∧ Aside0 (∀ t : Int, 0 ≤ t → t < j → p (rd_L5 xs t) = false) ∧ Aside0 (Below w.heap.size w w'))
  case atStart => exact ⟨0, rfl, ⟨by omega, by omega⟩, ⟨fun t h1 h2 => by omega⟩, ⟨Below.refl _ _⟩⟩
  case round =>
    obtain ⟨j, rfl, HJ, HP, HB⟩ := hrel
    cases gk with
    | zero =>
      have cz : decide (j < (xs.length : Int)) = false := decide_eq_false (by have := HJ.out; omega)
      go_wp2
      go_ret
      exact ⟨by rw [idxL_none p xs (fun t h1 h2 => HP.out t h1 (by have := HJ.out; omega))]; rfl, HB.out⟩
    | succ gk =>
      have q1 : j < (xs.length : Int) := by have := HJ.out; omega
      have p1 : 0 ≤ j := HJ.out.1
      have cb1 : decide (j < (xs.length : Int)) = true := decide_eq_true q1
      have Q := Aside0.mk q1
      have hw : wrap64 (j + 1) = j + 1 := by unfold wrap64; have := HM.out; omega
      have HW := Aside0.mk hw
      clear hw
      obtain ⟨ad, Ax, cx, e1, x0, lx, hx⟩ := at_L5 (Kd.C_below HR.out HB.out) j p1 q1
      cases e1
      replace p1 := eq_true p1
      replace q1 := eq_true q1
      cases cp : p (rd_L5 xs j) with
      | true =>
        have CP := Aside0.mk cp
        clear cp
        go_wp2_with fail
        refine (HF.out _ Ax cx (rd_L5 xs j) (by repeat (first | exact HB.out | apply pw_below_drewN | apply below_drew1))).mono ?_
        rw [CP.out]
        rintro e w7 ⟨rfl, hb⟩
        have HB2 := Aside0.mk (below_stepP (by repeat (first | exact HB.out | apply pw_below_drewN | apply below_drew1)) hb)
        clear hb
        go_wp2
        go_ret
        exact ⟨by rw [idxL_some p xs j HJ.out.1 Q.out HP.out CP.out]; rfl, HB2.out⟩
      | false =>
        have CP := Aside0.mk cp
        clear cp
        go_wp2_with fail
        refine (HF.out _ Ax cx (rd_L5 xs j) (by repeat (first | exact HB.out | apply pw_below_drewN | apply below_drew1))).mono ?_
        rw [CP.out]
        rintro e w7 ⟨rfl, hb⟩
        have HB2 := Aside0.mk (below_stepP (by repeat (first | exact HB.out | apply pw_below_drewN | apply below_drew1)) hb)
        clear hb
        go_wp2
        go_roundg gk
        case measure => omega
        case rel => exact ⟨wrap64 (j + 1), rfl, ⟨by rw [HW.out]; have := HJ.out; omega⟩, ⟨by rw [HW.out]; intro t h1 h2; by_cases h3 : t = j; (· rw [h3]; exact CP.out); exact HP.out t h1 (by omega)⟩, HB2⟩
set_option maxHeartbeats 4000000 in
set_option maxRecDepth 100000 in
theorem contFL (g : Nat) (lb : Array Value) (heg : ∀ args w, (callFunc g args).run Try.prog w = .ok (.enter g args) w) (p : List Int → Bool) (A : Option Addr) (c : Nat) (xs : List (List Int)) (w : World) (hr : Kd.C (Kd.slice 3 (Kd.int .i64)) w A xs.length xs) (hf : PredL g lb p w) :
    Calls Try.prog 40 #[.slice A xs.length c, .func (.func g) #[] lb] w fun e w' => e = .returned (.bool (xs.any p)) ∧ Below w.heap.size w w' := by
  have HI := Aside0.mk (idxFL g lb heg p A c xs w hr hf)
  have HA := Aside0.mk (idxL_any p xs)
  clear hr hf
  go_enter Try.func40, Try.ntmps40
  go_wp2_with (first | ((with_reducible show Calls Try.prog 72 _ _ _); refine HI.out.mono ?_; rintro e w2 ⟨rfl, hb⟩; have HB := Aside0.mk hb; clear hb))
  go_ret
  exact ⟨by rw [← HA.out]; rfl, HB.out⟩
def longP (l : List Int) : Bool := decide (66 < l.length)
theorem eg_few1 (args : Array Value) (w : World) : (callFunc 41 args).run Try.prog w = .ok (.enter 41 args) w := enters_ Try.func41 (by kernel_rfl) rfl args w
set_option maxHeartbeats 2000000 in
set_option maxRecDepth 100000 in
theorem pred_few (w : World) : PredL 41 #[] longP w := by
  intro W A c x hb
  show Calls Try.prog 41 #[.slice A x.length c] W _
  have HB := Aside0.mk (Below.refl W.heap.size W)
  clear hb
  unfold longP
  have e : decide ((66 : Int) < (x.length : Int)) = decide (66 < x.length) := decide_eq_decide.2 (by omega)
  go_enter Try.func41, Try.ntmps41
  go_wp2
  go_ret
  exact ⟨by rw [← e]; rfl, by first | exact HB.out | exact GS.lB HB.out⟩
def cont40.f (l0 : List (List Int)) : Option Bool := some (l0.any longP)
theorem cont40.calls (A0 : Option Addr) (c0 : Nat) (l0 : List (List Int)) (r : Bool) (w : World) (hr0 : Kd.C (Kd.slice 3 (Kd.int .i64)) w A0 l0.length l0) (hc0 : l0.length ≤ c0) (h : cont40.f l0 = some r) :
    Calls Try.prog 40 #[.slice A0 l0.length c0, .func (.func 41) #[] #[]] w fun e w' => e = .returned (.bool r) ∧ Below w.heap.size w w' := by
  obtain rfl := Option.some.inj h
  exact contFL 41 #[] eg_few1 longP A0 c0 l0 w hr0 (pred_few w)
end Go.Proofs.Ytefjmcljkmppoaa.K
