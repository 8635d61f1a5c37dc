/- By hand: slices.ContainsFunc at whole numbers, at SuspectLimits' closure: whether a number is not in the captured slice. -/
import Derived.Test.YtfhmjleimampeaaK0
import Derived.Test.YtfhmjleimampeaaGW
import Derived.Test.YtfhmjleimampeaaPFault
import Derived.Test.YtfhmjleimampeaaK25
namespace Go.Proofs.Ytfhmjleimampeaa.K
open Go Go.RowKit Go.Proofs.YtfhmjleimampeaaW.PrintWords Go.Proofs.YtfhmjleimampeaaW.PrintLast Go.Proofs.YtfhmjleimampeaaW.PrintMore Go.Proofs.Ytfhmjleimampeaa.GW
set_option linter.unusedVariables false
set_option linter.unusedSimpArgs false
theorem below_stepI {a w W : World} (h : Below a.heap.size a w) (h2 : Below w.heap.size w W) : Below a.heap.size a W := lqT h h2
def idxI (p : Int → Bool) (xs : List Int) : Int := match xs.findIdx? p with | some i => (i : Int) | none => -1
theorem rdI_get (xs : List Int) (i : Nat) (h : i < xs.length) : Go.Proofs.YtfhmjleimampeaaW.PrintWords.rd xs (i : Int) = xs[i] := by
  unfold Go.Proofs.YtfhmjleimampeaaW.PrintWords.rd
  simp [List.getD_eq_getElem?_getD, h]
theorem idxI_none (p : Int → Bool) (xs : List Int) (h : ∀ t : Int, 0 ≤ t → t < xs.length → p (Go.Proofs.YtfhmjleimampeaaW.PrintWords.rd xs t) = false) : idxI p xs = -1 := by
  have : xs.findIdx? p = none := by
    rw [List.findIdx?_eq_none_iff]
    intro x hx
    obtain ⟨i, hi, rfl⟩ := List.mem_iff_getElem.1 hx
    have := h i (by omega) (by omega)
    rwa [rdI_get xs i hi] at this
  simp [idxI, this]
theorem idxI_some (p : Int → Bool) (xs : List Int) (j : Int) (h0 : 0 ≤ j) (h1 : j < xs.length) (h : ∀ t : Int, 0 ≤ t → t < j → p (Go.Proofs.YtfhmjleimampeaaW.PrintWords.rd xs t) = false) (hp : p (Go.Proofs.YtfhmjleimampeaaW.PrintWords.rd xs j) = true) : idxI p xs = j := by
  obtain ⟨i, rfl⟩ := Int.eq_ofNat_of_zero_le h0
  have hi : i < xs.length := by omega
  rw [rdI_get xs i hi] at hp
  have : xs.findIdx? p = some i := by
    rw [List.findIdx?_eq_some_iff_getElem]
    refine ⟨hi, hp, fun t ht => ?_⟩
    have := h t (by omega) (by omega)
    rw [rdI_get xs t (by omega)] at this
    simp [this]
  simp [idxI, this]
theorem idxI_any (p : Int → Bool) (xs : List Int) : decide (idxI p xs ≥ 0) = xs.any p := by
  unfold idxI
  cases h : xs.findIdx? p with
  | none =>
    rw [List.findIdx?_eq_none_iff] at h
    have : xs.any p = false := by
      rw [List.any_eq_false]
      intro x hx
      simp [h x hx]
    rw [this]
    rfl
  | some i =>
    rw [List.findIdx?_eq_some_iff_getElem] at h
    obtain ⟨hi, hp, _⟩ := h
    have : xs.any p = true := List.any_eq_true.2 ⟨xs[i], List.getElem_mem hi, hp⟩
    rw [this]
    simp
/-- A predicate of a whole number, as a function value. -/
def PredI (g : Nat) (lb : Array Value) (p : Int → Bool) (w : World) : Prop :=
  ∀ W x, Below w.heap.size w W → Calls Try.prog g (#[.int .i64 x] ++ lb) W fun e w' => e = .returned (.bool (p x)) ∧ Below W.heap.size W w'
theorem PredI.below {g : Nat} {lb : Array Value} {p : Int → Bool} {w w1 : World} (h : PredI g lb p w) (hb : Below w.heap.size w w1) : PredI g lb p w1 := fun W x hW => h W x (below_stepI hb hW)
set_option maxHeartbeats 4000000 in
set_option maxRecDepth 100000 in
theorem idx57 (g : Nat) (lb : Array Value) (heg : ∀ args w, (callFunc g args).run Try.prog w = .ok (.enter g args) w) (p : Int → Bool) (A : Option Addr) (c : Nat) (xs : List Int) (w : World) (hr : Kd.C (Kd.int .i64) w A xs.length xs) (hf : PredI g lb p w) :
    Calls Try.prog 57 #[.slice A xs.length c, .func (.func g) #[] lb] w fun e w' => e = .returned (.int .i64 (idxI p xs)) ∧ Below w.heap.size w w' := by
  have HR := Aside0.mk hr
  have HF := Aside0.mk hf
  have HM : Aside0 (xs.length ≤ 9223372036854775807) := ⟨hr.2.1⟩
  clear hr hf
  go_enter Try.func57, Try.ntmps57
  go_wp2
  go_loopg [8] xs.length (fun kq v8 w' => ∃ j : Int, v8 = .int .i64 j ∧ Aside0 (0 ≤ j ∧ j + kq = xs.length) ∧ Aside0 (∀ t : Int, 0 ≤ t → t < j → p (Go.Proofs.YtfhmjleimampeaaW.PrintWords.rd xs t) = false) ∧ Aside0 (Below w.heap.size w w'))
  case atStart => exact ⟨0, rfl, ⟨by omega, by omega⟩, ⟨fun t h1 h2 => by omega⟩, ⟨Below.refl _ _⟩⟩
  case round =>
    obtain ⟨j, rfl, HJ, HP, HB⟩ := hrel
    cases gk with
    | zero =>
      have cz : decide (j < (xs.length : Int)) = false := decide_eq_false (by have := HJ.out; omega)
      go_wp2
      go_ret
      exact ⟨by rw [idxI_none p xs (fun t h1 h2 => HP.out t h1 (by have := HJ.out; omega))]; rfl, HB.out⟩
    | succ gk =>
      have q1 : j < (xs.length : Int) := by have := HJ.out; omega
      have p1 : 0 ≤ j := HJ.out.1
      have cb1 : decide (j < (xs.length : Int)) = true := decide_eq_true q1
      have Q := Aside0.mk q1
      have hw : wrap64 (j + 1) = j + 1 := by unfold wrap64; have := HM.out; omega
      have HW := Aside0.mk hw
      clear hw
      obtain ⟨ad, e1, x0⟩ := Kd.at_int (Kd.C_below HR.out HB.out) j p1 q1
      cases e1
      replace p1 := eq_true p1
      replace q1 := eq_true q1
      have HCL := Aside0.mk (HF.out _ (Go.Proofs.YtfhmjleimampeaaW.PrintWords.rd xs j) HB.out)
      cases cp : p (Go.Proofs.YtfhmjleimampeaaW.PrintWords.rd xs j) with
      | true =>
        have CP := Aside0.mk cp
        clear cp
        go_wp2_with (first | ((with_reducible show Calls Try.prog g _ _ _); refine HCL.out.mono ?_; rw [CP.out]; rintro e w7 ⟨rfl, hb⟩; have HB2 := Aside0.mk (below_stepI HB.out hb); clear hb))
        go_ret
        exact ⟨by rw [idxI_some p xs j HJ.out.1 Q.out HP.out CP.out]; rfl, HB2.out⟩
      | false =>
        have CP := Aside0.mk cp
        clear cp
        go_wp2_with (first | ((with_reducible show Calls Try.prog g _ _ _); refine HCL.out.mono ?_; rw [CP.out]; rintro e w7 ⟨rfl, hb⟩; have HB2 := Aside0.mk (below_stepI HB.out hb); clear hb))
        go_roundg gk
        case measure => omega
        case rel => exact ⟨wrap64 (j + 1), rfl, ⟨by rw [HW.out]; have := HJ.out; omega⟩, ⟨by rw [HW.out]; intro t h1 h2; by_cases h3 : t = j; (· rw [h3]; exact CP.out); exact HP.out t h1 (by omega)⟩, HB2⟩
set_option maxHeartbeats 4000000 in
set_option maxRecDepth 100000 in
theorem contF31 (g : Nat) (lb : Array Value) (heg : ∀ args w, (callFunc g args).run Try.prog w = .ok (.enter g args) w) (p : Int → Bool) (A : Option Addr) (c : Nat) (xs : List Int) (w : World) (hr : Kd.C (Kd.int .i64) w A xs.length xs) (hf : PredI g lb p w) :
    Calls Try.prog 31 #[.slice A xs.length c, .func (.func g) #[] lb] w fun e w' => e = .returned (.bool (xs.any p)) ∧ Below w.heap.size w w' := by
  have HI := Aside0.mk (idx57 g lb heg p A c xs w hr hf)
  have HA := Aside0.mk (idxI_any p xs)
  clear hr hf
  go_enter Try.func31, Try.ntmps31
  go_wp2_with (first | ((with_reducible show Calls Try.prog 57 _ _ _); refine HI.out.mono ?_; rintro e w2 ⟨rfl, hb⟩; have HB := Aside0.mk hb; clear hb))
  go_ret
  exact ⟨by rw [← HA.out]; rfl, HB.out⟩
theorem index_ev (l : List Int) (x : Int) (hl : l.length ≤ 1000) : ∀ (suf : List Int) (i : Nat), l.drop i = suf → ∃ r : Int, Ev (fun k => slices_Index_int_int.l0 k l x (l.length : Int) (i : Int)) r ∧ decide (r ≥ 0) = suf.any (fun y => x == y)
  | [], i, h => by
    have := drop_endI h
    exact ⟨-1, Ev.succ (Ev.const _) (fun k => by rw [slices_Index_int_int.l0, if_neg (by omega)]), rfl⟩
  | y :: suf, i, h => by
    obtain ⟨hi, hy, hd, _⟩ := drop_atI h
    by_cases c : x = y
    · refine ⟨(i : Int), Ev.succ (Ev.const _) (fun k => by rw [slices_Index_int_int.l0, if_pos (by omega), if_pos (by omega), if_pos (by omega), hy, if_pos c]), ?_⟩
      rw [decide_eq_true (by omega)]
      simp [c]
    · obtain ⟨r, hr, he⟩ := index_ev l x hl suf (i + 1) hd
      refine ⟨r, Ev.succ hr (fun k => by rw [slices_Index_int_int.l0, if_pos (by omega), if_pos (by omega), if_pos (by omega), hy, if_neg c, wrap_up (by omega)]), ?_⟩
      rw [he]
      simp [c]
def inL (l : List Int) (x : Int) : Bool := l.any (fun y => x == y)
theorem contI_ev (l : List Int) (x : Int) (hl : l.length ≤ 1000) : Ev (fun k => slices_Contains_int_int.f k l x) (inL l x) := by
  obtain ⟨r, hr, he⟩ := index_ev l x hl l 0 rfl
  unfold slices_Contains_int_int.f
  refine Ev.bind (g := fun k => slices_Index_int_int.f k l x) hr ?_
  rw [he]
  exact Ev.const _
theorem pred32 (gb : Nat) (A : Option Addr) (c : Nat) (l : List Int) (hl : l.length ≤ 1000) (w : World) (hr : Kd.C (Kd.int .i64) w A l.length l) (hc : l.length ≤ c) (hg : w.heap[gb]? = some (.cells #[.slice A l.length c] 31 (0, 0))) :
    PredI 32 #[.pointer (some ⟨gb, 0, none⟩)] (fun x => !(inL l x)) w := by
  intro W x hb
  show Calls Try.prog 32 #[.int .i64 x, .pointer (some ⟨gb, 0, none⟩)] W _
  obtain ⟨k, hk⟩ := (contI_ev l x hl).one
  have HK := Aside0.mk hk
  have HR := Aside0.mk (Kd.C_below hr hb)
  have HC := Aside0.mk hc
  have z0 : W.cell? ⟨gb, 0, none⟩ = some (.slice A l.length c) := (blk_cell (bqB hg hb) 0).trans rfl
  have HB := Aside0.mk (Below.refl W.heap.size W)
  clear hk hr hc hg hb
  go_enter Try.func32, Try.ntmps32
  go_wp2_with (first | ((with_reducible show Calls Try.prog 30 _ _ _); refine (slices_Contains_int_int.calls k A c l x _ _ HR.out HC.out HK.out).mono ?_; rintro e w4 ⟨rfl, hd⟩; have n0_ := Aside0.mk (lqT (GS.lB HB.out) hd.below); clear HB hd; have HB := n0_; clear n0_))
  go_ret
  exact ⟨rfl, HB.out⟩
theorem eg32 (args : Array Value) (w : World) : (callFunc 32 args).run Try.prog w = .ok (.enter 32 args) w := enters_ Try.func32 (by kernel_rfl) rfl args w
def cont31.f (a b : List Int) : Option Bool := if b.length ≤ 1000 then some (a.any (fun x => !(inL b x))) else none
theorem cont31.calls (gb : Nat) (A0 : Option Addr) (c0 : Nat) (l0 : List Int) (A1 : Option Addr) (c1 : Nat) (l1 : List Int) (r : Bool) (w : World) (hr0 : Kd.C (Kd.int .i64) w A0 l0.length l0) (hc0 : l0.length ≤ c0) (hr1 : Kd.C (Kd.int .i64) w A1 l1.length l1) (hc1 : l1.length ≤ c1)
    (hg : w.heap[gb]? = some (.cells #[.slice A1 l1.length c1] 31 (0, 0))) (h : cont31.f l0 l1 = some r) :
    Calls Try.prog 31 #[.slice A0 l0.length c0, .func (.func 32) #[] #[.pointer (some ⟨gb, 0, none⟩)]] w fun e w' => e = .returned (.bool r) ∧ Below w.heap.size w w' := by
  unfold cont31.f at h
  by_cases hl : l1.length ≤ 1000
  · rw [if_pos hl] at h
    obtain rfl := Option.some.inj h
    exact contF31 32 #[.pointer (some ⟨gb, 0, none⟩)] eg32 (fun x => !(inL l1 x)) A0 c0 l0 w hr0 (pred32 gb A1 c1 l1 hl w hr1 hc1 hg)
  · rw [if_neg hl] at h; cases h
end Go.Proofs.Ytfhmjleimampeaa.K
