/- By hand: slices.Contains at whole numbers; slices.ContainsFunc at the closures of the laws SealSame, SealEnds and SealOnce. -/
import Derived.Test.YtfjenooajbdcmaaGCheck
import Derived.Test.YtfjenooajbdcmaaGW
namespace Go.Proofs.Ytfjenooajbdcmaa.K
open Go Go.RowKit Go.Proofs.YtfjenooajbdcmaaW.PrintWords Go.Proofs.YtfjenooajbdcmaaW.PrintLast Go.Proofs.YtfjenooajbdcmaaW.PrintMore Go.Proofs.Ytfjenooajbdcmaa.GM Go.Proofs.Ytfjenooajbdcmaa.GW
set_option linter.unusedVariables false
def hasI (xs : List Int) (x : Int) : Bool := xs.any fun y => x == y
set_option maxHeartbeats 4000000 in
set_option maxRecDepth 100000 in
theorem idx52 (x : Int) (A : Option Addr) (c : Nat) (xs : List Int) (w : World) (hr : Kd.C (Kd.int .i64) w A xs.length xs) :
    Calls Try.prog 52 #[.slice A xs.length c, .int .i64 x] w fun e w' => e = .returned (.int .i64 (idxI (fun y => x == y) xs)) ∧ Below w.heap.size w w' := by
  have HR := Aside0.mk hr
  have HM : Aside0 (xs.length ≤ 9223372036854775807) := ⟨hr.2.1⟩
  clear hr
  go_enter Try.func52, Try.ntmps52
  go_wp2
  go_loopg [8] xs.length (fun kq v8 w' => ∃ j : Int, v8 = .int .i64 j ∧ Aside0 (0 ≤ j ∧ j + kq = xs.length) ∧ Aside0 (∀ t : Int, 0 ≤ t → t < j → (x == Go.Proofs.YtfjenooajbdcmaaW.PrintWords.rd xs t) = false) ∧ Aside0 (Below w.heap.size w w'))
  case atStart => exact ⟨0, rfl, ⟨by omega, by omega⟩, ⟨fun t h1 h2 => by omega⟩, ⟨Below.refl _ _⟩⟩
  case round =>
    obtain ⟨j, rfl, HJ, HP, HB⟩ := hrel
    cases gk with
    | zero =>
      have cz : decide (j < (xs.length : Int)) = false := decide_eq_false (by have := HJ.out; omega)
      go_wp2
      go_ret
      exact ⟨by rw [idxI_none _ xs (fun t h1 h2 => HP.out t h1 (by have := HJ.out; omega))]; rfl, HB.out⟩
    | succ gk =>
      have q1 : j < (xs.length : Int) := by have := HJ.out; omega
      have p1 : 0 ≤ j := HJ.out.1
      have cb1 : decide (j < (xs.length : Int)) = true := decide_eq_true q1
      have Q := Aside0.mk q1
      have hw : wrap64 (j + 1) = j + 1 := by unfold wrap64; have := HM.out; omega
      have HW := Aside0.mk hw
      clear hw
      obtain ⟨ad, e1, x0⟩ := Kd.at_int (Kd.C_below HR.out HB.out) j p1 q1
      cases e1
      replace p1 := eq_true p1
      replace q1 := eq_true q1
      cases cp : (x == Go.Proofs.YtfjenooajbdcmaaW.PrintWords.rd xs j) with
      | true =>
        have CP := Aside0.mk cp
        go_wp2
        go_ret
        exact ⟨by rw [idxI_some _ xs j HJ.out.1 Q.out HP.out CP.out]; rfl, HB.out⟩
      | false =>
        have CP := Aside0.mk cp
        go_wp2
        go_roundg gk
        case measure => omega
        case rel => exact ⟨wrap64 (j + 1), rfl, ⟨by rw [HW.out]; have := HJ.out; omega⟩, ⟨by rw [HW.out]; intro t h1 h2; by_cases h3 : t = j; (· rw [h3]; exact CP.out); exact HP.out t h1 (by omega)⟩, HB⟩
theorem cont25 (x : Int) (A : Option Addr) (c : Nat) (xs : List Int) (w : World) (hr : Kd.C (Kd.int .i64) w A xs.length xs) :
    Calls Try.prog 25 #[.slice A xs.length c, .int .i64 x] w fun e w' => e = .returned (.bool (hasI xs x)) ∧ Below w.heap.size w w' := by
  have HI := Aside0.mk (idx52 x A c xs w hr)
  have HA := Aside0.mk (idxI_any (fun y => x == y) xs)
  clear hr
  go_enter Try.func25, Try.ntmps25
  go_wp2_with (first | ((with_reducible show Calls Try.prog 52 _ _ _); refine HI.out.mono ?_; rintro e w2 ⟨rfl, hb⟩; have HB := Aside0.mk hb; clear hb))
  go_ret
  exact ⟨by unfold hasI; rw [← HA.out]; rfl, HB.out⟩
theorem clo24 (x : Int) (g : Nat) (A : Option Addr) (c : Nat) (xs : List Int) (w : World) (hr : Kd.C (Kd.int .i64) w A xs.length xs) (hg : w.cell? ⟨g, 0, none⟩ = some (.slice A xs.length c)) :
    Calls Try.prog 24 #[.int .i64 x, .pointer (some ⟨g, 0, none⟩)] w fun e w' => e = .returned (.bool (hasI xs x)) ∧ Below w.heap.size w w' := by
  have HI := Aside0.mk (cont25 x A c xs w hr)
  clear hr
  go_enter Try.func24, Try.ntmps24
  go_wp2_with (first | ((with_reducible show Calls Try.prog 25 _ _ _); refine HI.out.mono ?_; rintro e w2 ⟨rfl, hb⟩; have HB := Aside0.mk hb; clear hb))
  go_ret
  exact ⟨rfl, HB.out⟩
theorem clo27 (x : Int) (g : Nat) (A : Option Addr) (c : Nat) (xs : List Int) (w : World) (hr : Kd.C (Kd.int .i64) w A xs.length xs) (hg : w.cell? ⟨g, 0, none⟩ = some (.slice A xs.length c)) :
    Calls Try.prog 27 #[.int .i64 x, .pointer (some ⟨g, 0, none⟩)] w fun e w' => e = .returned (.bool (hasI xs x)) ∧ Below w.heap.size w w' := by
  have HI := Aside0.mk (cont25 x A c xs w hr)
  clear hr
  go_enter Try.func27, Try.ntmps27
  go_wp2_with (first | ((with_reducible show Calls Try.prog 25 _ _ _); refine HI.out.mono ?_; rintro e w2 ⟨rfl, hb⟩; have HB := Aside0.mk hb; clear hb))
  go_ret
  exact ⟨rfl, HB.out⟩
theorem clo26 (x : Int) (g g' : Nat) (A A' : Option Addr) (c c' : Nat) (xs xs' : List Int) (w : World) (hr : Kd.C (Kd.int .i64) w A xs.length xs) (hr' : Kd.C (Kd.int .i64) w A' xs'.length xs') (hg : w.cell? ⟨g, 0, none⟩ = some (.slice A xs.length c)) (hg' : w.heap[g']? = some (.cells #[.slice A' xs'.length c'] 28 (0, 0))) :
    Calls Try.prog 26 #[.int .i64 x, .pointer (some ⟨g, 0, none⟩), .pointer (some ⟨g', 0, none⟩)] w fun e w' => e = .returned (.bool (!(hasI xs x) && hasI xs' x)) ∧ Below w.heap.size w w' := by
  have HI := Aside0.mk (cont25 x A c xs w hr)
  have HR' := Aside0.mk hr'
  have HG' := Aside0.mk hg'
  clear hr hr' hg'
  cases hh : hasI xs x with
  | true =>
    have HH := Aside0.mk hh
    go_enter Try.func26, Try.ntmps26
    go_wp2_with (first | ((with_reducible show Calls Try.prog 25 _ _ _); refine HI.out.mono ?_; rw [HH.out]; rintro e w2 ⟨rfl, hb⟩; have HB := Aside0.mk hb; clear hb))
    go_ret
    exact ⟨rfl, HB.out⟩
  | false =>
    have HH := Aside0.mk hh
    go_enter Try.func26, Try.ntmps26
    go_wp2_with (first
      | ((with_reducible show Calls Try.prog 25 #[.slice A' _ _, _] _ _); refine (cont25 x A' c' xs' _ (Kd.C_below HR'.out HB.out)).mono ?_; rintro e w3 ⟨rfl, hb⟩; have n0_ := Aside0.mk (below_step HB.out hb); clear hb HB; have HB := n0_; clear n0_)
      | ((with_reducible show Calls Try.prog 25 _ _ _); refine HI.out.mono ?_; rw [HH.out]; rintro e w2 ⟨rfl, hb⟩; have HB := Aside0.mk hb; have hc := (bqC (bqB HG'.out hb) 0).trans rfl; clear hb))
    go_ret
    exact ⟨by rw [Bool.not_false, Bool.true_and]; rfl, HB.out⟩
theorem eg24 (args : Array Value) (w : World) : (callFunc 24 args).run Try.prog w = .ok (.enter 24 args) w := enters_ Try.func24 (by kernel_rfl) rfl args w
theorem eg26 (args : Array Value) (w : World) : (callFunc 26 args).run Try.prog w = .ok (.enter 26 args) w := enters_ Try.func26 (by kernel_rfl) rfl args w
theorem eg27 (args : Array Value) (w : World) : (callFunc 27 args).run Try.prog w = .ok (.enter 27 args) w := enters_ Try.func27 (by kernel_rfl) rfl args w
theorem eg22 (args : Array Value) (w : World) : (callFunc 22 args).run Try.prog w = .ok (.enter 22 args) w := enters_ Try.func22 (by kernel_rfl) rfl args w
def contB.f (a b : List Int) : Option Bool := some (a.any (hasI b))
def contC.f (a b c : List Int) : Option Bool := some (a.any fun x => !(hasI b x) && hasI c x)
theorem contB.calls (A0 : Option Addr) (c0 : Nat) (l0 : List Int) (A1 : Option Addr) (c1 : Nat) (l1 : List Int) (r : Bool) (w : World) (hr0 : Kd.C (Kd.int .i64) w A0 l0.length l0) (hc0 : l0.length ≤ c0) (hr1 : Kd.C (Kd.int .i64) w A1 l1.length l1) (hc1 : l1.length ≤ c1) (h : contB.f l0 l1 = some r)
    (fn g : Nat) (hfn : fn = 24 ∨ fn = 27) (hg : w.heap[g]? = some (.cells #[.slice A1 l1.length c1] 28 (0, 0))) :
    Calls Try.prog 23 #[.slice A0 l0.length c0, .func (.func fn) #[] #[.pointer (some ⟨g, 0, none⟩)]] w fun e w' => e = .returned (.bool r) ∧ Below w.heap.size w w' := by
  obtain rfl := Option.some.inj h
  rcases hfn with rfl | rfl
  · exact cont23 24 _ eg24 (hasI l1) A0 c0 l0 w hr0 (fun W x hb => clo24 x g A1 c1 l1 W (Kd.C_below hr1 hb) ((bqC (bqB hg hb) 0).trans rfl))
  · exact cont23 27 _ eg27 (hasI l1) A0 c0 l0 w hr0 (fun W x hb => clo27 x g A1 c1 l1 W (Kd.C_below hr1 hb) ((bqC (bqB hg hb) 0).trans rfl))
theorem contC.calls (A0 : Option Addr) (c0 : Nat) (l0 : List Int) (A1 : Option Addr) (c1 : Nat) (l1 : List Int) (A2 : Option Addr) (c2 : Nat) (l2 : List Int) (r : Bool) (w : World) (hr0 : Kd.C (Kd.int .i64) w A0 l0.length l0) (hc0 : l0.length ≤ c0) (hr1 : Kd.C (Kd.int .i64) w A1 l1.length l1) (hc1 : l1.length ≤ c1) (hr2 : Kd.C (Kd.int .i64) w A2 l2.length l2) (hc2 : l2.length ≤ c2) (h : contC.f l0 l1 l2 = some r)
    (g g' : Nat) (hg : w.heap[g]? = some (.cells #[.slice A1 l1.length c1] 28 (0, 0))) (hg' : w.heap[g']? = some (.cells #[.slice A2 l2.length c2] 28 (0, 0))) :
    Calls Try.prog 23 #[.slice A0 l0.length c0, .func (.func 26) #[] #[.pointer (some ⟨g, 0, none⟩), .pointer (some ⟨g', 0, none⟩)]] w fun e w' => e = .returned (.bool r) ∧ Below w.heap.size w w' := by
  obtain rfl := Option.some.inj h
  exact cont23 26 _ eg26 (fun x => !(hasI l1 x) && hasI l2 x) A0 c0 l0 w hr0 (fun W x hb => clo26 x g g' A1 A2 c1 c2 l1 l2 W (Kd.C_below hr1 hb) (Kd.C_below hr2 hb) ((bqC (bqB hg hb) 0).trans rfl) (bqB hg' hb))
/-! ### at sealings -/
def idxS (p : S34 → Bool) (xs : List S34) : Int := match xs.findIdx? p with | some i => (i : Int) | none => -1
theorem idxS_none (p : S34 → Bool) (xs : List S34) (h : ∀ t : Int, 0 ≤ t → t < xs.length → p (rd_T34 xs t) = false) : idxS p xs = -1 := by
  have : xs.findIdx? p = none := by
    rw [List.findIdx?_eq_none_iff]
    intro x hx
    obtain ⟨i, hi, rfl⟩ := List.mem_iff_getElem.1 hx
    have := h i (by omega) (by omega)
    rwa [rd34_get xs i hi] at this
  simp [idxS, this]
theorem idxS_some (p : S34 → Bool) (xs : List S34) (j : Int) (h0 : 0 ≤ j) (h1 : j < xs.length) (h : ∀ t : Int, 0 ≤ t → t < j → p (rd_T34 xs t) = false) (hp : p (rd_T34 xs j) = true) : idxS p xs = j := by
  obtain ⟨i, rfl⟩ := Int.eq_ofNat_of_zero_le h0
  have hi : i < xs.length := by omega
  rw [rd34_get xs i hi] at hp
  have : xs.findIdx? p = some i := by
    rw [List.findIdx?_eq_some_iff_getElem]
    refine ⟨hi, hp, fun t ht => ?_⟩
    have := h t (by omega) (by omega)
    rw [rd34_get xs t (by omega)] at this
    simp [this]
  simp [idxS, this]
theorem idxS_any (p : S34 → Bool) (xs : List S34) : decide (idxS p xs ≥ 0) = xs.any p := by
  unfold idxS
  cases h : xs.findIdx? p with
  | none =>
    rw [List.findIdx?_eq_none_iff] at h
    have : xs.any p = false := by
      rw [List.any_eq_false]
      intro x hx
      simp [h x hx]
    rw [this]
    rfl
  | some i =>
    rw [List.findIdx?_eq_some_iff_getElem] at h
    obtain ⟨hi, hp, _⟩ := h
    have : xs.any p = true := List.any_eq_true.2 ⟨xs[i], List.getElem_mem hi, hp⟩
    rw [this]
    simp
/-- A predicate of an event, as a function value. -/
def PredS (g : Nat) (lb : Array Value) (p : S34 → Bool) (w : World) : Prop :=
  ∀ W x, Below w.heap.size w W → Calls Try.prog g (#[.agg #[.int .i64 x.f0, .int .i64 x.f1, .int .i64 x.f2, .int .i64 x.f3]] ++ lb) W fun e w' => e = .returned (.bool (p x)) ∧ Below W.heap.size W w'
set_option maxHeartbeats 4000000 in
set_option maxRecDepth 100000 in
theorem idx50 (g : Nat) (lb : Array Value) (heg : ∀ args w, (callFunc g args).run Try.prog w = .ok (.enter g args) w) (p : S34 → Bool) (A : Option Addr) (c : Nat) (xs : List S34) (w : World) (hr : Kd.C k34 w A xs.length xs) (hf : PredS g lb p w) :
    Calls Try.prog 50 #[.slice A xs.length c, .func (.func g) #[] lb] w fun e w' => e = .returned (.int .i64 (idxS p xs)) ∧ Below w.heap.size w w' := by
  have hu34 := Try.underlying34
  have HR := Aside0.mk hr
  have HF := Aside0.mk hf
  have HM : Aside0 (xs.length ≤ 9223372036854775807) := ⟨hr.2.1⟩
  clear hr hf
  go_enter Try.func50, Try.ntmps50
  go_wp2
  go_loopg [8] xs.length (fun kq v8 w' => ∃ j : Int, v8 = .int .i64 j ∧ Aside0 (0 ≤ j ∧ j + kq = xs.length) ∧ Aside0 (∀ t : Int, 0 ≤ t → t < j → p (rd_T34 xs t) = false) ∧ Aside0 (Below w.heap.size w w'))
  case atStart => exact ⟨0, rfl, ⟨by omega, by omega⟩, ⟨fun t h1 h2 => by omega⟩, ⟨Below.refl _ _⟩⟩
  case round =>
    obtain ⟨j, rfl, HJ, HP, HB⟩ := hrel
    cases gk with
    | zero =>
      have cz : decide (j < (xs.length : Int)) = false := decide_eq_false (by have := HJ.out; omega)
      go_wp2
      go_ret
      exact ⟨by rw [idxS_none p xs (fun t h1 h2 => HP.out t h1 (by have := HJ.out; omega))]; rfl, HB.out⟩
    | succ gk =>
      have q1 : j < (xs.length : Int) := by have := HJ.out; omega
      have p1 : 0 ≤ j := HJ.out.1
      have cb1 : decide (j < (xs.length : Int)) = true := decide_eq_true q1
      have Q := Aside0.mk q1
      have hw : wrap64 (j + 1) = j + 1 := by unfold wrap64; have := HM.out; omega
      have HW := Aside0.mk hw
      clear hw
      obtain ⟨ad, e1, x0, x1, x2, x3⟩ := at_T34 (Kd.C_below HR.out HB.out) j p1 q1
      cases e1
      replace p1 := eq_true p1
      replace q1 := eq_true q1
      have HCL := Aside0.mk (HF.out _ (rd_T34 xs j) HB.out)
      cases cp : p (rd_T34 xs j) with
      | true =>
        have CP := Aside0.mk cp
        clear cp
        go_wp2_with (first | ((with_reducible show Calls Try.prog g _ _ _); refine HCL.out.mono ?_; rw [CP.out]; rintro e w7 ⟨rfl, hb⟩; have HB2 := Aside0.mk (below_step HB.out hb); clear hb))
        go_ret
        exact ⟨by rw [idxS_some p xs j HJ.out.1 Q.out HP.out CP.out]; rfl, HB2.out⟩
      | false =>
        have CP := Aside0.mk cp
        clear cp
        go_wp2_with (first | ((with_reducible show Calls Try.prog g _ _ _); refine HCL.out.mono ?_; rw [CP.out]; rintro e w7 ⟨rfl, hb⟩; have HB2 := Aside0.mk (below_step HB.out hb); clear hb))
        go_roundg gk
        case measure => omega
        case rel => exact ⟨wrap64 (j + 1), rfl, ⟨by rw [HW.out]; have := HJ.out; omega⟩, ⟨by rw [HW.out]; intro t h1 h2; by_cases h3 : t = j; (· rw [h3]; exact CP.out); exact HP.out t h1 (by omega)⟩, HB2⟩
set_option maxHeartbeats 4000000 in
set_option maxRecDepth 100000 in
theorem cont21 (g : Nat) (lb : Array Value) (heg : ∀ args w, (callFunc g args).run Try.prog w = .ok (.enter g args) w) (p : S34 → Bool) (A : Option Addr) (c : Nat) (xs : List S34) (w : World) (hr : Kd.C k34 w A xs.length xs) (hf : PredS g lb p w) :
    Calls Try.prog 21 #[.slice A xs.length c, .func (.func g) #[] lb] w fun e w' => e = .returned (.bool (xs.any p)) ∧ Below w.heap.size w w' := by
  have HI := Aside0.mk (idx50 g lb heg p A c xs w hr hf)
  have HA := Aside0.mk (idxS_any p xs)
  clear hr hf
  go_enter Try.func21, Try.ntmps21
  go_wp2_with (first | ((with_reducible show Calls Try.prog 50 _ _ _); refine HI.out.mono ?_; rintro e w2 ⟨rfl, hb⟩; have HB := Aside0.mk hb; clear hb))
  go_ret
  exact ⟨by rw [← HA.out]; rfl, HB.out⟩
def appl (s place day : Int) (x : S34) : Bool := (x.f3 == 1) && ((x.f2 == s) && ((x.f1 == place) && decide (x.f0 ≤ day)))
set_option maxHeartbeats 4000000 in
set_option maxRecDepth 100000 in
theorem clo22 (s place day : Int) (x : S34) (g1 g2 g3 : Nat) (w : World) (h1 : w.heap[g1]? = some (.cells #[.int .i64 s] 3 (0, 0))) (h2 : w.heap[g2]? = some (.cells #[.int .i64 place] 3 (0, 0))) (h3 : w.heap[g3]? = some (.cells #[.int .i64 day] 3 (0, 0))) :
    Calls Try.prog 22 #[.agg #[.int .i64 x.f0, .int .i64 x.f1, .int .i64 x.f2, .int .i64 x.f3], .pointer (some ⟨g1, 0, none⟩), .pointer (some ⟨g2, 0, none⟩), .pointer (some ⟨g3, 0, none⟩)] w fun e w' => e = .returned (.bool (appl s place day x)) ∧ Below w.heap.size w w' := by
  have hu34 := Try.underlying34
  have y1 := blk_lt h1
  have y2 := blk_lt h2
  have y3 := blk_lt h3
  have z1 : g1 ≠ w.heap.size := Nat.ne_of_lt y1
  have z2 : g2 ≠ w.heap.size := Nat.ne_of_lt y2
  have z3 : g3 ≠ w.heap.size := Nat.ne_of_lt y3
  have c1 : w.cell? ⟨g1, 0, none⟩ = some (.int .i64 s) := (bqC h1 0).trans rfl
  have c2 : w.cell? ⟨g2, 0, none⟩ = some (.int .i64 place) := (bqC h2 0).trans rfl
  have c3 : w.cell? ⟨g3, 0, none⟩ = some (.int .i64 day) := (bqC h3 0).trans rfl
  clear h1 h2 h3
  obtain ⟨r, hr⟩ : ∃ r, r = appl s place day x := ⟨_, rfl⟩
  rw [← hr]
  unfold appl at hr
  cases b1 : (x.f3 == 1) with
  | false =>
    rw [b1] at hr
    subst hr
    go_enter Try.func22, Try.ntmps22
    go_wp2
    go_ret
    exact ⟨rfl, GS.lB (Below.refl _ _)⟩
  | true =>
    cases b2 : (x.f2 == s) with
    | false =>
      rw [b1, b2] at hr
      subst hr
      go_enter Try.func22, Try.ntmps22
      go_wp2
      go_ret
      exact ⟨rfl, GS.lB (Below.refl _ _)⟩
    | true =>
      cases b3 : (x.f1 == place) with
      | false =>
        rw [b1, b2, b3] at hr
        subst hr
        go_enter Try.func22, Try.ntmps22
        go_wp2
        go_ret
        exact ⟨rfl, GS.lB (Below.refl _ _)⟩
      | true =>
        rw [b1, b2, b3] at hr
        subst hr
        go_enter Try.func22, Try.ntmps22
        go_wp2
        go_ret
        exact ⟨rfl, GS.lB (Below.refl _ _)⟩
def contS.f (l : List S34) (s place day : Int) : Option Bool := some (l.any (appl s place day))
theorem contS.calls (A0 : Option Addr) (c0 : Nat) (l0 : List S34) (a1 a2 a3 : Int) (r : Bool) (w : World) (hr0 : Kd.C k34 w A0 l0.length l0) (hc0 : l0.length ≤ c0) (h : contS.f l0 a1 a2 a3 = some r)
    (g1 g2 g3 : Nat) (h1 : w.heap[g1]? = some (.cells #[.int .i64 a1] 3 (0, 0))) (h2 : w.heap[g2]? = some (.cells #[.int .i64 a2] 3 (0, 0))) (h3 : w.heap[g3]? = some (.cells #[.int .i64 a3] 3 (0, 0))) :
    Calls Try.prog 21 #[.slice A0 l0.length c0, .func (.func 22) #[] #[.pointer (some ⟨g1, 0, none⟩), .pointer (some ⟨g2, 0, none⟩), .pointer (some ⟨g3, 0, none⟩)]] w fun e w' => e = .returned (.bool r) ∧ Below w.heap.size w w' := by
  obtain rfl := Option.some.inj h
  exact cont21 22 _ eg22 (appl a1 a2 a3) A0 c0 l0 w hr0 (fun W x hb => clo22 a1 a2 a3 x g1 g2 g3 W (bqB h1 hb) (bqB h2 hb) (bqB h3 hb))
end Go.Proofs.Ytfjenooajbdcmaa.K
