/- By hand: slices.ContainsFunc at whole numbers, whatever the predicate captures; here: whether a number is odd. -/
import Derived.Test.YtbkoghmbacdiiaaK0
import Derived.Test.YtbkoghmbacdiiaaGW
import Derived.Test.YtbkoghmbacdiiaaPFault
namespace Go.Proofs.Ytbkoghmbacdiiaa.K
open Go Go.RowKit Go.Proofs.YtbkoghmbacdiiaaW.PrintWords Go.Proofs.YtbkoghmbacdiiaaW.PrintLast Go.Proofs.YtbkoghmbacdiiaaW.PrintMore Go.Proofs.Ytbkoghmbacdiiaa.GW
set_option linter.unusedVariables false
theorem below_step {a w W : World} (h : Below a.heap.size a w) (h2 : Below w.heap.size w W) : Below a.heap.size a W := lqT h h2
def idxI (p : Int → Bool) (xs : List Int) : Int := match xs.findIdx? p with | some i => (i : Int) | none => -1
theorem rdI_get (xs : List Int) (i : Nat) (h : i < xs.length) : Go.Proofs.YtbkoghmbacdiiaaW.PrintWords.rd xs (i : Int) = xs[i] := by
  unfold Go.Proofs.YtbkoghmbacdiiaaW.PrintWords.rd
  simp [List.getD_eq_getElem?_getD, h]
theorem idxI_none (p : Int → Bool) (xs : List Int) (h : ∀ t : Int, 0 ≤ t → t < xs.length → p (Go.Proofs.YtbkoghmbacdiiaaW.PrintWords.rd xs t) = false) : idxI p xs = -1 := by
  have : xs.findIdx? p = none := by
    rw [List.findIdx?_eq_none_iff]
    intro x hx
    obtain ⟨i, hi, rfl⟩ := List.mem_iff_getElem.1 hx
    have := h i (by omega) (by omega)
    rwa [rdI_get xs i hi] at this
  simp [idxI, this]
theorem idxI_some (p : Int → Bool) (xs : List Int) (j : Int) (h0 : 0 ≤ j) (h1 : j < xs.length) (h : ∀ t : Int, 0 ≤ t → t < j → p (Go.Proofs.YtbkoghmbacdiiaaW.PrintWords.rd xs t) = false) (hp : p (Go.Proofs.YtbkoghmbacdiiaaW.PrintWords.rd xs j) = true) : idxI p xs = j := by
  obtain ⟨i, rfl⟩ := Int.eq_ofNat_of_zero_le h0
  have hi : i < xs.length := by omega
  rw [rdI_get xs i hi] at hp
  have : xs.findIdx? p = some i := by
    rw [List.findIdx?_eq_some_iff_getElem]
    refine ⟨hi, hp, fun t ht => ?_⟩
    have := h t (by omega) (by omega)
    rw [rdI_get xs t (by omega)] at this
    simp [this]
  simp [idxI, this]
theorem idxI_any (p : Int → Bool) (xs : List Int) : decide (idxI p xs ≥ 0) = xs.any p := by
  unfold idxI
  cases h : xs.findIdx? p with
  | none =>
    rw [List.findIdx?_eq_none_iff] at h
    have : xs.any p = false := by
      rw [List.any_eq_false]
      intro x hx
      simp [h x hx]
    rw [this]
    rfl
  | some i =>
    rw [List.findIdx?_eq_some_iff_getElem] at h
    obtain ⟨hi, hp, _⟩ := h
    have : xs.any p = true := List.any_eq_true.2 ⟨xs[i], List.getElem_mem hi, hp⟩
    rw [this]
    simp
/-- A predicate of a whole number, as a function value. -/
def PredI (g : Nat) (lb : Array Value) (p : Int → Bool) (w : World) : Prop :=
  ∀ W x, Below w.heap.size w W → Calls Try.prog g (#[.int .i64 x] ++ lb) W fun e w' => e = .returned (.bool (p x)) ∧ Below W.heap.size W w'
theorem PredI.below {g : Nat} {lb : Array Value} {p : Int → Bool} {w w1 : World} (h : PredI g lb p w) (hb : Below w.heap.size w w1) : PredI g lb p w1 := fun W x hW => h W x (below_step hb hW)
set_option maxHeartbeats 4000000 in
set_option maxRecDepth 100000 in
theorem idx50 (g : Nat) (lb : Array Value) (heg : ∀ args w, (callFunc g args).run Try.prog w = .ok (.enter g args) w) (p : Int → Bool) (A : Option Addr) (c : Nat) (xs : List Int) (w : World) (hr : Kd.C (Kd.int .i64) w A xs.length xs) (hf : PredI g lb p w) :
    Calls Try.prog 50 #[.slice A xs.length c, .func (.func g) #[] lb] w fun e w' => e = .returned (.int .i64 (idxI p xs)) ∧ Below w.heap.size w w' := by
  have HR := Aside0.mk hr
  have HF := Aside0.mk hf
  have HM : Aside0 (xs.length ≤ 9223372036854775807) := ⟨hr.2.1⟩
  clear hr hf
  go_enter Try.func50, Try.ntmps50
  go_wp2
  go_loopg [8] xs.length (fun kq v8 w' => ∃ j : Int, v8 = .int .i64 j ∧ Aside0 (0 ≤ j ∧ j + kq = xs.length) ∧ Aside0 (∀ t : Int, 0 ≤ t → t < j → p (Go.Proofs.YtbkoghmbacdiiaaW.PrintWords.rd xs t) = false) ∧ Aside0 (Below w.heap.size w w'))
  case atStart => exact ⟨0, rfl, ⟨by omega, by omega⟩, ⟨fun t h1 h2 => by omega⟩, ⟨Below.refl _ _⟩⟩
  case round =>
    obtain ⟨j, rfl, HJ, HP, HB⟩ := hrel
    cases gk with
    | zero =>
      have cz : decide (j < (xs.length : Int)) = false := decide_eq_false (by have := HJ.out; omega)
      go_wp2
      go_ret
      exact ⟨by rw [idxI_none p xs (fun t h1 h2 => HP.out t h1 (by have := HJ.out; omega))]; rfl, HB.out⟩
    | succ gk =>
      have q1 : j < (xs.length : Int) := by have := HJ.out; omega
      have p1 : 0 ≤ j := HJ.out.1
      have cb1 : decide (j < (xs.length : Int)) = true := decide_eq_true q1
      have Q := Aside0.mk q1
      have hw : wrap64 (j + 1) = j + 1 := by unfold wrap64; have := HM.out; omega
      have HW := Aside0.mk hw
      clear hw
      obtain ⟨ad, e1, x0⟩ := Kd.at_int (Kd.C_below HR.out HB.out) j p1 q1
      cases e1
      replace p1 := eq_true p1
      replace q1 := eq_true q1
      have HCL := Aside0.mk (HF.out _ (Go.Proofs.YtbkoghmbacdiiaaW.PrintWords.rd xs j) HB.out)
      cases cp : p (Go.Proofs.YtbkoghmbacdiiaaW.PrintWords.rd xs j) with
      | true =>
        have CP := Aside0.mk cp
        clear cp
        go_wp2_with (first | ((with_reducible show Calls Try.prog g _ _ _); refine HCL.out.mono ?_; rw [CP.out]; rintro e w7 ⟨rfl, hb⟩; have HB2 := Aside0.mk (below_step HB.out hb); clear hb))
        go_ret
        exact ⟨by rw [idxI_some p xs j HJ.out.1 Q.out HP.out CP.out]; rfl, HB2.out⟩
      | false =>
        have CP := Aside0.mk cp
        clear cp
        go_wp2_with (first | ((with_reducible show Calls Try.prog g _ _ _); refine HCL.out.mono ?_; rw [CP.out]; rintro e w7 ⟨rfl, hb⟩; have HB2 := Aside0.mk (below_step HB.out hb); clear hb))
        go_roundg gk
        case measure => omega
        case rel => exact ⟨wrap64 (j + 1), rfl, ⟨by rw [HW.out]; have := HJ.out; omega⟩, ⟨by rw [HW.out]; intro t h1 h2; by_cases h3 : t = j; (· rw [h3]; exact CP.out); exact HP.out t h1 (by omega)⟩, HB2⟩
set_option maxHeartbeats 4000000 in
set_option maxRecDepth 100000 in
theorem cont30 (g : Nat) (lb : Array Value) (heg : ∀ args w, (callFunc g args).run Try.prog w = .ok (.enter g args) w) (p : Int → Bool) (A : Option Addr) (c : Nat) (xs : List Int) (w : World) (hr : Kd.C (Kd.int .i64) w A xs.length xs) (hf : PredI g lb p w) :
    Calls Try.prog 30 #[.slice A xs.length c, .func (.func g) #[] lb] w fun e w' => e = .returned (.bool (xs.any p)) ∧ Below w.heap.size w w' := by
  have HI := Aside0.mk (idx50 g lb heg p A c xs w hr hf)
  have HA := Aside0.mk (idxI_any p xs)
  clear hr hf
  go_enter Try.func30, Try.ntmps30
  go_wp2_with (first | ((with_reducible show Calls Try.prog 50 _ _ _); refine HI.out.mono ?_; rintro e w2 ⟨rfl, hb⟩; have HB := Aside0.mk hb; clear hb))
  go_ret
  exact ⟨by rw [← HA.out]; rfl, HB.out⟩
def odd (x : Int) : Bool := Int.tmod x 2 != 0
theorem pred31 (w : World) : PredI 31 #[] odd w := by
  intro W x hb
  show Calls Try.prog 31 #[.int .i64 x] W _
  clear hb
  have HB := Aside0.mk (Below.refl W.heap.size W)
  go_enter Try.func31, Try.ntmps31
  go_wp2
  go_ret
  exact ⟨rfl, HB.out⟩
theorem eg31 (args : Array Value) (w : World) : (callFunc 31 args).run Try.prog w = .ok (.enter 31 args) w := enters_ Try.func31 (by kernel_rfl) rfl args w
def odd30.f (a : List Int) : Option Bool := some (a.any odd)
theorem odd30.calls (A0 : Option Addr) (c0 : Nat) (l0 : List Int) (r : Bool) (w : World) (hr0 : Kd.C (Kd.int .i64) w A0 l0.length l0) (hc0 : l0.length ≤ c0) (h : odd30.f l0 = some r) :
    Calls Try.prog 30 #[.slice A0 l0.length c0, .func (.func 31) #[] #[]] w fun e w' => e = .returned (.bool r) ∧ Below w.heap.size w w' := by
  obtain rfl := Option.some.inj h
  exact cont30 31 #[] eg31 odd A0 c0 l0 w hr0 (pred31 w)
end Go.Proofs.Ytbkoghmbacdiiaa.K
