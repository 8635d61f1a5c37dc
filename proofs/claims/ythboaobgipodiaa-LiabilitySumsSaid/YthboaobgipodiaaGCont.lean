/- By hand: slices.ContainsFunc at the closure of liability.sent (an exposure sent later than on a day). -/
import Derived.Test.YthboaobgipodiaaK0
import Derived.Test.YthboaobgipodiaaGW
namespace Go.Proofs.Ythboaobgipodiaa.K
open Go.RowKit Go.Proofs.YthboaobgipodiaaW.PrintWords Go.Proofs.YthboaobgipodiaaW.PrintLast Go.Proofs.YthboaobgipodiaaW.PrintMore Go.Proofs.Ythboaobgipodiaa.GW
set_option linter.unusedVariables false
set_option linter.unusedSimpArgs false

def idxF (p : S35 → Bool) (xs : List S35) : Int := match xs.findIdx? p with | some i => (i : Int) | none => -1
theorem rd_get (xs : List S35) (i : Nat) (h : i < xs.length) : rd_T35 xs (i : Int) = xs[i] := by
  unfold rd_T35
  simp [List.getD_eq_getElem?_getD, h]
theorem idxF_none (p : S35 → Bool) (xs : List S35) (h : ∀ t : Int, 0 ≤ t → t < xs.length → p (rd_T35 xs t) = false) : idxF p xs = -1 := by
  have : xs.findIdx? p = none := by
    rw [List.findIdx?_eq_none_iff]
    intro x hx
    obtain ⟨i, hi, rfl⟩ := List.mem_iff_getElem.1 hx
    have := h i (by omega) (by omega)
    rwa [rd_get xs i hi] at this
  simp [idxF, this]
theorem idxF_some (p : S35 → Bool) (xs : List S35) (j : Int) (h0 : 0 ≤ j) (h1 : j < xs.length) (h : ∀ t : Int, 0 ≤ t → t < j → p (rd_T35 xs t) = false) (hp : p (rd_T35 xs j) = true) : idxF p xs = j := by
  obtain ⟨i, rfl⟩ := Int.eq_ofNat_of_zero_le h0
  have hi : i < xs.length := by omega
  rw [rd_get xs i hi] at hp
  have : xs.findIdx? p = some i := by
    rw [List.findIdx?_eq_some_iff_getElem]
    refine ⟨hi, hp, fun t ht => ?_⟩
    have := h t (by omega) (by omega)
    rw [rd_get xs t (by omega)] at this
    simp [this]
  simp [idxF, this]
set_option maxHeartbeats 4000000 in
set_option maxRecDepth 100000 in
theorem sent54.calls (g : Nat) (day : Int) (x : S35) (w : World) (b : w.heap[g]? = some (.cells #[.int .i64 day] 3 (0, 0))) :
    Calls Try.prog 54 #[.agg #[.int .i64 x.f0, .int .i64 x.f1, .int .i64 x.f2, .int .i64 x.f3, .int .i64 x.f4], .pointer (some ⟨g, 0, none⟩)] w fun e w' => e = .returned (.bool (decide (x.f3 > day))) ∧ Below w.heap.size w w' := by
  have hu35 := Try.underlying35
  have z0 : w.cell? ⟨g, 0, none⟩ = some (.int .i64 day) := (blk_cell b 0).trans rfl
  have hl := blk_lt b
  clear b
  go_enter Try.func54, Try.ntmps54
  go_wp2
  repeat (go_quiet (fail); try go_wp2)
  go_ret
  exact ⟨rfl, by repeat (first | exact Below.refl _ _ | apply pw_below_drewN | apply below_drew1 | apply below_alloc)⟩

set_option maxHeartbeats 4000000 in
set_option maxRecDepth 100000 in
theorem idx66_54.calls (c1 : Value) (p : S35 → Bool) (A : Option Addr) (c : Nat) (xs : List S35) (w : World) (hr : Kd.C k35 w A xs.length xs)
    (hf : ∀ W x, Below w.heap.size w W → Calls Try.prog 54 #[.agg #[.int .i64 x.f0, .int .i64 x.f1, .int .i64 x.f2, .int .i64 x.f3, .int .i64 x.f4], c1] W fun e w' => e = .returned (.bool (p x)) ∧ Below W.heap.size W w') :
    Calls Try.prog 66 #[.slice A xs.length c, .func (.func 54) #[] #[c1]] w fun e w' => e = .returned (.int .i64 (idxF p xs)) ∧ Below w.heap.size w w' := by
  have hu35 := Try.underlying35
  have HR := Aside0.mk hr
  have HF := Aside0.mk hf
  have HM : Aside0 (xs.length ≤ 9223372036854775807) := ⟨hr.2.1⟩
  clear hr hf
  go_enter Try.func66, Try.ntmps66
  go_wp2
  go_loopg [8] xs.length (fun kq v8 w' => ∃ j : Int, v8 = .int .i64 j ∧ Aside0 (0 ≤ j ∧ j + kq = xs.length) ∧ Aside0 (∀ t : Int, 0 ≤ t → t < j → p (rd_T35 xs t) = false) ∧ Aside0 (Below w.heap.size w w'))
  case atStart => exact ⟨0, rfl, ⟨by omega, by omega⟩, ⟨fun t h1 h2 => by omega⟩, ⟨Below.refl _ _⟩⟩
  case round =>
    obtain ⟨j, rfl, HJ, HP, HB⟩ := hrel
    cases gk with
    | zero =>
      have cz : decide (j < (xs.length : Int)) = false := decide_eq_false (by have := HJ.out; omega)
      go_wp2
      go_ret
      exact ⟨by rw [idxF_none p xs (fun t h1 h2 => HP.out t h1 (by have := HJ.out; omega))]; rfl, HB.out⟩
    | succ gk =>
      have q1 : j < (xs.length : Int) := by have := HJ.out; omega
      have p1 : 0 ≤ j := HJ.out.1
      have cb1 : decide (j < (xs.length : Int)) = true := decide_eq_true q1
      have Q := Aside0.mk q1
      have hw : wrap64 (j + 1) = j + 1 := by unfold wrap64; have := HM.out; omega
      have HW := Aside0.mk hw
      clear hw
      obtain ⟨ad, e1, x0, x1, x2, x3, x4⟩ := at_T35 (Kd.C_below HR.out HB.out) j p1 q1
      cases e1
      replace p1 := eq_true p1
      replace q1 := eq_true q1
      cases cp : p (rd_T35 xs j) with
      | true =>
        have CP := Aside0.mk cp
        clear cp
        go_wp2_with fail
        refine (HF.out _ (rd_T35 xs j) (by repeat (first | exact HB.out | apply pw_below_drewN | apply below_drew1))).mono ?_
        rw [CP.out]
        rintro e w7 ⟨rfl, hb⟩
        have HB2 := Aside0.mk (below_step (by repeat (first | exact HB.out | apply pw_below_drewN | apply below_drew1)) hb)
        clear hb
        go_wp2
        go_ret
        exact ⟨by rw [idxF_some p xs j HJ.out.1 Q.out HP.out CP.out]; rfl, HB2.out⟩
      | false =>
        have CP := Aside0.mk cp
        clear cp
        go_wp2_with fail
        refine (HF.out _ (rd_T35 xs j) (by repeat (first | exact HB.out | apply pw_below_drewN | apply below_drew1))).mono ?_
        rw [CP.out]
        rintro e w7 ⟨rfl, hb⟩
        have HB2 := Aside0.mk (below_step (by repeat (first | exact HB.out | apply pw_below_drewN | apply below_drew1)) hb)
        clear hb
        go_wp2
        go_roundg gk
        case measure => omega
        case rel => exact ⟨wrap64 (j + 1), rfl, ⟨by rw [HW.out]; have := HJ.out; omega⟩, ⟨by rw [HW.out]; intro t h1 h2; by_cases h3 : t = j; (· rw [h3]; exact CP.out); exact HP.out t h1 (by omega)⟩, HB2⟩


theorem idxF_any (p : S35 → Bool) (xs : List S35) : decide (idxF p xs ≥ 0) = xs.any p := by
  unfold idxF
  cases h : xs.findIdx? p with
  | none =>
    rw [List.findIdx?_eq_none_iff] at h
    have : xs.any p = false := by
      rw [List.any_eq_false]
      intro x hx
      simp [h x hx]
    rw [this]
    rfl
  | some i =>
    rw [List.findIdx?_eq_some_iff_getElem] at h
    obtain ⟨hi, hp, _⟩ := h
    have : xs.any p = true := List.any_eq_true.2 ⟨xs[i], List.getElem_mem hi, hp⟩
    rw [this]
    simp
def cont53.f (l : List S35) (day : Int) : Option Bool := some (l.any fun x => decide (x.f3 > day))
set_option maxHeartbeats 4000000 in
set_option maxRecDepth 100000 in
theorem cont53.calls (A : Option Addr) (c : Nat) (l : List S35) (day : Int) (r : Bool) (w : World) (hr : Kd.C k35 w A l.length l) (hc : l.length ≤ c) (h : cont53.f l day = some r)
    (g : Nat) (hb : w.heap[g]? = some (.cells #[.int .i64 day] 3 (0, 0))) :
    Calls Try.prog 53 #[.slice A l.length c, .func (.func 54) #[] #[.pointer (some ⟨g, 0, none⟩)]] w fun e w' => e = .returned (.bool r) ∧ Below w.heap.size w w' := by
  obtain rfl := Option.some.inj h
  have hany := idxF_any (fun x => decide (x.f3 > day)) l
  have HA := Aside0.mk hany
  have HR := Aside0.mk hr
  have HF : Aside0 (∀ W (x : S35), Below w.heap.size w W → Calls Try.prog 54 #[.agg #[.int .i64 x.f0, .int .i64 x.f1, .int .i64 x.f2, .int .i64 x.f3, .int .i64 x.f4], .pointer (some ⟨g, 0, none⟩)] W fun e w' => e = .returned (.bool (decide (x.f3 > day))) ∧ Below W.heap.size W w') :=
    ⟨fun W x hB => sent54.calls g day x W (blk_below hb hB)⟩
  clear hr hb h hany
  go_enter Try.func53, Try.ntmps53
  go_wp2_with (go_at_call 66; refine (idx66_54.calls _ (fun x => decide (x.f3 > day)) A c l _ HR.out HF.out).mono ?_; rintro e w2 ⟨rfl, hb⟩; have HB := Aside0.mk hb; clear hb)
  go_ret
  exact ⟨by rw [← HA.out]; rfl, HB.out⟩
end Go.Proofs.Ythboaobgipodiaa.K
