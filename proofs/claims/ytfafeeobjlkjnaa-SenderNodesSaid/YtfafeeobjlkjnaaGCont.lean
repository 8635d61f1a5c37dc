/- By hand: slices.ContainsFunc at the closure of SenderNodes. -/
import Derived.Test.YtfafeeobjlkjnaaKCont
import Derived.Test.YtfafeeobjlkjnaaGDel
import Derived.Test.YtfafeeobjlkjnaaGPure
namespace Go.Proofs.Ytfafeeobjlkjnaa.K
open Go.RowKit Go.Proofs.YtfafeeobjlkjnaaW.PrintWords Go.Proofs.YtfafeeobjlkjnaaW.PrintLast Go.Proofs.YtfafeeobjlkjnaaW.PrintMore Go.Proofs.Ytfafeeobjlkjnaa.GW
set_option linter.unusedVariables false
set_option linter.unusedSimpArgs false

set_option maxHeartbeats 4000000 in
set_option maxRecDepth 100000 in
theorem idx50_37.calls (c1 c2 : Value) (p : S33 → Bool) (A : Option Addr) (c : Nat) (xs : List S33) (w : World) (hr : Kd.C k33 w A xs.length xs)
    (hf : ∀ W x, Below w.heap.size w W → Calls Try.prog 37 #[.agg #[.int .i64 x.f0, .int .i64 x.f1, .int .i64 x.f2, .int .i64 x.f3.f0, .int .i64 x.f3.f1, .int .i64 x.f3.f2, .int .i64 x.f3.f3, .int .i64 x.f3.f4, .int .i64 x.f3.f5, .int .i64 x.f3.f6], c1, c2] W fun e w' => e = .returned (.bool (p x)) ∧ Below W.heap.size W w') :
    Calls Try.prog 50 #[.slice A xs.length c, .func (.func 37) #[] #[c1, c2]] w fun e w' => e = .returned (.int .i64 (idxF p xs)) ∧ Below w.heap.size w w' := by
  have hu33 := Try.underlying33
  have hu26 := Try.underlying26
  have HR := Aside0.mk hr
  have HF := Aside0.mk hf
  have HM : Aside0 (xs.length ≤ 9223372036854775807) := ⟨hr.2.1⟩
  clear hr hf
  go_enter Try.func50, Try.ntmps50
  go_wp2
  go_loopg [8] xs.length (fun kq v8 w' => ∃ j : Int, v8 = .int .i64 j ∧ Aside0 (0 ≤ j ∧ j + kq = xs.length) ∧ Aside0 (∀ t : Int, 0 ≤ t → t < j → p (rd_T33 xs t) = false) ∧ Aside0 (Below w.heap.size w w'))
  case atStart => exact ⟨0, rfl, ⟨by omega, by omega⟩, ⟨fun t h1 h2 => by omega⟩, ⟨Below.refl _ _⟩⟩
  case round =>
    obtain ⟨j, rfl, HJ, HP, HB⟩ := hrel
    cases gk with
    | zero =>
      have cz : decide (j < (xs.length : Int)) = false := decide_eq_false (by have := HJ.out; omega)
      go_wp2
      go_ret
      exact ⟨by rw [idxF_none p xs (fun t h1 h2 => HP.out t h1 (by have := HJ.out; omega))]; rfl, HB.out⟩
    | succ gk =>
      have q1 : j < (xs.length : Int) := by have := HJ.out; omega
      have p1 : 0 ≤ j := HJ.out.1
      have cb1 : decide (j < (xs.length : Int)) = true := decide_eq_true q1
      have Q := Aside0.mk q1
      have hw : wrap64 (j + 1) = j + 1 := by unfold wrap64; have := HM.out; omega
      have HW := Aside0.mk hw
      clear hw
      obtain ⟨ad, e1, x0, x1, x2, x3, x4, x5, x6, x7, x8, x9⟩ := at_T33 (Kd.C_below HR.out HB.out) j p1 q1
      cases e1
      replace p1 := eq_true p1
      replace q1 := eq_true q1
      cases cp : p (rd_T33 xs j) with
      | true =>
        have CP := Aside0.mk cp
        clear cp
        go_wp2_with fail
        refine (HF.out _ (rd_T33 xs j) (by repeat (first | exact HB.out | apply pw_below_drewN | apply below_drew1))).mono ?_
        rw [CP.out]
        rintro e w7 ⟨rfl, hb⟩
        have HB2 := Aside0.mk (below_step (by repeat (first | exact HB.out | apply pw_below_drewN | apply below_drew1)) hb)
        clear hb
        go_wp2
        go_ret
        exact ⟨by rw [idxF_some p xs j HJ.out.1 Q.out HP.out CP.out]; rfl, HB2.out⟩
      | false =>
        have CP := Aside0.mk cp
        clear cp
        go_wp2_with fail
        refine (HF.out _ (rd_T33 xs j) (by repeat (first | exact HB.out | apply pw_below_drewN | apply below_drew1))).mono ?_
        rw [CP.out]
        rintro e w7 ⟨rfl, hb⟩
        have HB2 := Aside0.mk (below_step (by repeat (first | exact HB.out | apply pw_below_drewN | apply below_drew1)) hb)
        clear hb
        go_wp2
        go_roundg gk
        case measure => omega
        case rel => exact ⟨wrap64 (j + 1), rfl, ⟨by rw [HW.out]; have := HJ.out; omega⟩, ⟨by rw [HW.out]; intro t h1 h2; by_cases h3 : t = j; (· rw [h3]; exact CP.out); exact HP.out t h1 (by omega)⟩, HB2⟩


theorem idxF_any (p : S33 → Bool) (xs : List S33) : decide (idxF p xs ≥ 0) = xs.any p := by
  unfold idxF
  cases h : xs.findIdx? p with
  | none =>
    rw [List.findIdx?_eq_none_iff] at h
    have : xs.any p = false := by
      rw [List.any_eq_false]
      intro x hx
      simp [h x hx]
    rw [this]
    rfl
  | some i =>
    rw [List.findIdx?_eq_some_iff_getElem] at h
    obtain ⟨hi, hp, _⟩ := h
    have : xs.any p = true := List.any_eq_true.2 ⟨xs[i], List.getElem_mem hi, hp⟩
    rw [this]
    simp
theorem wrap_at (n : Int) (h0 : 0 ≤ n) (h1 : n ≤ 1000000) : wrap64 n = n := by unfold wrap64; omega
theorem index55_some (l : List S33) (hl : l.length ≤ 1000) (x : S33) : ∀ (d i k : Nat), i + d = l.length → d + 1 ≤ k → (api_Envelope_55.l0 k l (l.length : Int) (i : Int) x.f0 x.f1 x.f2 x.f3.f0 x.f3.f1 x.f3.f2 x.f3.f3 x.f3.f4 x.f3.f5 x.f3.f6).isSome = true
  | d, i, 0, h, hk => by omega
  | 0, i, k + 1, h, hk => by rw [api_Envelope_55.l0, if_neg (by omega)]; rfl
  | d + 1, i, k + 1, h, hk => by
    have hi : (i : Int) < (l.length : Int) := by omega
    have h0 : (0 : Int) ≤ (i : Int) := by omega
    have hw : wrap64 ((i : Int) + 1) = ((i + 1 : Nat) : Int) := by rw [wrap_at _ (by omega) (by omega)]; omega
    rw [api_Envelope_55.l0, if_pos hi, if_pos h0, if_pos hi, hw]
    split
    · rfl
    · exact index55_some l hl x d (i + 1) k (by omega) (by omega)
theorem nodes1_some (k : Nat) (x : S33) (n a b : Int) (P : List S33) (hk : P.length + 2 ≤ k) (hl : P.length ≤ 1000) : (spilelaw42_SenderNodes_1.f k x.f0 x.f1 x.f2 x.f3.f0 x.f3.f1 x.f3.f2 x.f3.f3 x.f3.f4 x.f3.f5 x.f3.f6 n a b P).isSome = true := by
  unfold spilelaw42_SenderNodes_1.f api_Envelope_38.f api_Envelope_55.f
  split
  · have := index55_some P hl x P.length 0 k (by omega) (by omega)
    obtain ⟨v, hv⟩ := Option.isSome_iff_exists.1 this
    rw [show ((0 : Nat) : Int) = 0 from rfl] at hv
    rw [hv]
    rfl
  · rfl
def pC (k : Nat) (n a b : Int) (P : List S33) (x : S33) : Bool := (spilelaw42_SenderNodes_1.f k x.f0 x.f1 x.f2 x.f3.f0 x.f3.f1 x.f3.f2 x.f3.f3 x.f3.f4 x.f3.f5 x.f3.f6 n a b P).getD true
theorem pC_eq {k : Nat} {P : List S33} (n a b : Int) (x : S33) (hk : P.length + 2 ≤ k) (hl : P.length ≤ 1000) : spilelaw42_SenderNodes_1.f k x.f0 x.f1 x.f2 x.f3.f0 x.f3.f1 x.f3.f2 x.f3.f3 x.f3.f4 x.f3.f5 x.f3.f6 n a b P = some (pC k n a b P x) := by
  obtain ⟨v, hv⟩ := Option.isSome_iff_exists.1 (nodes1_some k x n a b P hk hl)
  unfold pC
  rw [hv]
  rfl
def cont36.f (k : Nat) (l : List S33) (n a b : Int) (P : List S33) : Option Bool := if P.length + 2 ≤ k ∧ P.length ≤ 1000 then some (l.any (pC k n a b P)) else none
theorem cont36.mono : ∀ l n a b P k, LeO (cont36.f k l n a b P) (cont36.f (k + 1) l n a b P) := by
  intro l n a b P k r h
  unfold cont36.f at h ⊢
  by_cases hk : P.length + 2 ≤ k ∧ P.length ≤ 1000
  · rw [if_pos hk] at h
    rw [if_pos ⟨by omega, hk.2⟩, ← h]
    congr 2
    funext x
    have h1 := pC_eq n a b x hk.1 hk.2
    have h2 := pC_eq (k := k + 1) n a b x (by omega) hk.2
    have h3 := spilelaw42_SenderNodes_1.mono x.f0 x.f1 x.f2 x.f3.f0 x.f3.f1 x.f3.f2 x.f3.f3 x.f3.f4 x.f3.f5 x.f3.f6 n a b P k _ h1
    rw [h2] at h3
    exact Option.some.inj h3
  · rw [if_neg hk] at h
    cases h
set_option maxHeartbeats 4000000 in
set_option maxRecDepth 100000 in
theorem cont36.calls (k : Nat) (A : Option Addr) (c : Nat) (l : List S33) (n a b : Int) (A2 : Option Addr) (c2 : Nat) (P : List S33) (r : Bool) (w : World) (hr : Kd.C k33 w A l.length l) (hc : l.length ≤ c) (hr2 : Kd.C k33 w A2 P.length P) (hc2 : P.length ≤ c2) (h : cont36.f k l n a b P = some r)
    (gN gO : Nat) (hbN : w.heap[gN]? = some (.cells #[.int .i64 n] 3 (0, 0))) (hbO : w.heap[gO]? = some (.cells #[.int .i64 a, .int .i64 b, .slice A2 P.length c2] 24 (0, 0))) :
    Calls Try.prog 36 #[.slice A l.length c, .func (.func 37) #[] #[.pointer (some ⟨gN, 0, none⟩), .pointer (some ⟨gO, 0, none⟩)]] w fun e w' => e = .returned (.bool r) ∧ Below w.heap.size w w' := by
  unfold cont36.f at h
  by_cases hk : P.length + 2 ≤ k ∧ P.length ≤ 1000
  · rw [if_pos hk] at h
    obtain rfl := Option.some.inj h
    have hany := idxF_any (pC k n a b P) l
    have HA := Aside0.mk hany
    have HR := Aside0.mk hr
    have HF : Aside0 (∀ W x, Below w.heap.size w W → Calls Try.prog 37 #[.agg #[.int .i64 x.f0, .int .i64 x.f1, .int .i64 x.f2, .int .i64 x.f3.f0, .int .i64 x.f3.f1, .int .i64 x.f3.f2, .int .i64 x.f3.f3, .int .i64 x.f3.f4, .int .i64 x.f3.f5, .int .i64 x.f3.f6], .pointer (some ⟨gN, 0, none⟩), .pointer (some ⟨gO, 0, none⟩)] W fun e w' => e = .returned (.bool (pC k n a b P x)) ∧ Below W.heap.size W w') :=
      ⟨fun W x hb => spilelaw42_SenderNodes_1.calls k gN gO x.f0 x.f1 x.f2 x.f3.f0 x.f3.f1 x.f3.f2 x.f3.f3 x.f3.f4 x.f3.f5 x.f3.f6 n a b A2 c2 P (pC k n a b P x) W (Kd.C_below hr2 hb) hc2 (blk_below hbN hb) (blk_below hbO hb) (pC_eq n a b x hk.1 hk.2)⟩
    clear hr hr2 hbN hbO h hany
    go_enter Try.func36, Try.ntmps36
    go_wp2_with (go_at_call 50; refine (idx50_37.calls _ _ (pC k n a b P) A c l _ HR.out HF.out).mono ?_; rintro e w2 ⟨rfl, hb⟩; have HB := Aside0.mk hb; clear hb)
    go_ret
    exact ⟨by rw [← HA.out]; rfl, HB.out⟩
  · rw [if_neg hk] at h
    cases h
end Go.Proofs.Ytfafeeobjlkjnaa.K
