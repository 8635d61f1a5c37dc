-- PRINTED by print.py (a twelfth state) out of the translation. Not trusted: Lean checks it.
import Derived.Test.YtmcmbjkjilcmeaaK0
import Derived.Test.YtmcmbjkjilcmeaaGShort
import Derived.Test.YtmcmbjkjilcmeaaGSym
import Derived.Test.YtmcmbjkjilcmeaaK1
namespace Go.Proofs.Ytmcmbjkjilcmeaa.K
open Go.RowKit Go.Proofs.YtmcmbjkjilcmeaaW.PrintWords Go.Proofs.YtmcmbjkjilcmeaaW.PrintLast Go.Proofs.YtmcmbjkjilcmeaaW.PrintMore
attribute [local go_sem] max2_int min2_int max_two min_two max_three min_three max_four min_four   -- for this text's walks alone
set_option linter.unusedVariables false
set_option linter.unusedSimpArgs false

attribute [local go_sem high] eqA40
-- GIVEN: function 76 (profile_at)

/-! ### spileref08_Few: function 53 -/
def spileref08_Few.f (l0 : List (S33)) : Option (Bool) := some (decide ((l0.length : Int) ≤ 33))
set_option maxHeartbeats 8000000 in
set_option maxRecDepth 100000 in
theorem spileref08_Few.calls (A0 : Option Addr) (c0 : Nat) (l0 : List (S33)) (r : Bool) (w : World) (hr0 : Kd.C k33 w A0 l0.length l0) (hc0 : l0.length ≤ c0) (h : spileref08_Few.f l0 = some r) :
  Calls Try.prog 53 #[.slice A0 l0.length c0] w fun e w' => e = .returned (.bool r) ∧ Drawn0 w w' := by
 have HR0 := Aside0.mk hr0
 have HC0 := Aside0.mk hc0
 clear hr0 hc0
 have H : (some (decide ((l0.length : Int) ≤ 33))) = some r := h
 clear h
 obtain rfl := Option.some.inj H
 go_enter Try.func53, Try.ntmps53
 go_wp2
 go_ret
 exact ⟨by first | rfl | (simp; done) | (simp [*]; done), by repeat (first | exact Drawn0.refl _ | apply Drawn0.step)⟩

/-! ### spileref09_Few: function 33 -/
def spileref09_Few.l0 : Nat → List (S24) → Int → Option (Bool)
 | 0, _, _ => none
 | k + 1, x0, x3 => if x3 < (x0.length : Int) then (if 0 ≤ x3 then ((spileref08_Few.f ((rd_T24 x0 x3).f2)).bind fun t334 => (if t334 = true then (if (((rd_T24 x0 x3).f0).size : Int) > 70 then (some false) else (spileref09_Few.l0 k x0 (wrap64 (x3 + 1)))) else (some false))) else (none)) else (some (decide ((x0.length : Int) ≤ 33)))
def spileref09_Few.f (k : Nat) (l0 : List (S24)) : Option (Bool) := spileref09_Few.l0 k l0 0
theorem spileref09_Few.mono_l : ∀ k, (∀ y0 y1, LeO (spileref09_Few.l0 k y0 y1) (spileref09_Few.l0 (k + 1) y0 y1))
 | 0 => fun _ _ r h => by simp [spileref09_Few.l0] at h
 | k + 1 => by
  have ih0 := spileref09_Few.mono_l k
  ·intro y0 y1
   unfold spileref09_Few.l0
   repeat' first
   | (with_reducible exact ih0 _ _)
   | (with_reducible exact LeO.refl _)
   | (with_reducible exact LeO.none _)
   | (with_reducible refine LeO.ite ?_ ?_)
   | (with_reducible refine LeO.bind ?_ (fun _ => ?_))
   | exact ih0 _ _
   | exact LeO.none _
   | refine LeO.ite ?_ ?_
   | refine LeO.bind ?_ (fun _ => ?_)
theorem spileref09_Few.mono : ∀ a0 k, LeO (spileref09_Few.f k a0) (spileref09_Few.f (k + 1) a0) := by
 intro a0 k
 have ih0 := spileref09_Few.mono_l k
 unfold spileref09_Few.f
 repeat' first
   | (with_reducible exact ih0 _ _)
   | (with_reducible exact LeO.refl _)
   | (with_reducible exact LeO.none _)
   | (with_reducible refine LeO.ite ?_ ?_)
   | (with_reducible refine LeO.bind ?_ (fun _ => ?_))
   | exact ih0 _ _
   | exact LeO.none _
   | refine LeO.ite ?_ ?_
   | refine LeO.bind ?_ (fun _ => ?_)
set_option maxHeartbeats 8000000 in
set_option maxRecDepth 100000 in
theorem spileref09_Few.calls (k : Nat) (A0 : Option Addr) (c0 : Nat) (l0 : List (S24)) (r : Bool) (w : World) (hr0 : Kd.C k24 w A0 l0.length l0) (hc0 : l0.length ≤ c0) (h : spileref09_Few.f k l0 = some r) :
  Calls Try.prog 33 #[.slice A0 l0.length c0] w fun e w' => e = .returned (.bool r) ∧ Drawn0 w w' := by
 have HR0 := Aside0.mk hr0
 have HC0 := Aside0.mk hc0
 clear hr0 hc0
 have H : (spileref09_Few.l0 k l0 0) = some r := h
 clear h
 have H' := Aside0.mk H
 clear H
 go_enter Try.func33, Try.ntmps33
 go_wp2
 go_loopg [3] k (fun kq v3 w' => ∃ (x3_1 : Int), v3 = .int .i64 x3_1 ∧ Aside0 (spileref09_Few.l0 kq l0 x3_1 = some r) ∧ Aside0 (kq ≤ k) ∧ Drawn0 w w')
 case atStart => exact ⟨(0), (by first | rfl | (simp; done) | (simp [*]; done)), H', ⟨Nat.le_refl _⟩, by repeat (first | exact Drawn0.refl _ | apply Drawn0.step)⟩
 case round =>
  clear H'
  obtain ⟨x3_1, rfl, HA, HK1, ⟨m1, rfl⟩⟩ := hrel
  cases gk with
  | zero => exact absurd HA.out (by simp [spileref09_Few.l0])
  | succ k1 =>
   have H := HA.out
   clear HA
   simp only [spileref09_Few.l0] at H
   by_cases c2 : x3_1 < (l0.length : Int)
   ·rw [if_pos c2] at H
    have c2b0 : decide (x3_1 < (l0.length : Int)) = true := decide_eq_true c2
    clear c2
    by_cases c3 : 0 ≤ x3_1
    ·rw [if_pos c3] at H
     have c3b0 : decide (0 ≤ x3_1) = true := decide_eq_true c3
     clear c3
     replace H := Option.bind_eq_some_iff.mp H
     obtain ⟨t334, A40, H⟩ := H
     replace H : (if t334 = true then (if (((rd_T24 l0 x3_1).f0).size : Int) > 70 then (some false) else (spileref09_Few.l0 k1 l0 (wrap64 (x3_1 + 1)))) else (some false)) = some r := H
     have A4 := Aside0.mk A40
     clear A40
     by_cases c5 : t334 = true
     ·subst c5
      have H1 : (if (((rd_T24 l0 x3_1).f0).size : Int) > 70 then (some false) else (spileref09_Few.l0 k1 l0 (wrap64 (x3_1 + 1)))) = some r := by rw [if_pos rfl] at H; exact H
      clear H
      have H := H1
      clear H1
      by_cases c6 : (((rd_T24 l0 x3_1).f0).size : Int) > 70
      ·rw [if_pos c6] at H
       have c6b0 : decide (70 < (((rd_T24 l0 x3_1).f0).size : Int)) = true := decide_eq_true c6
       have c6b1 : decide (70 < ((rd_T24 l0 x3_1).f0).size) = true := decide_eq_true (by omega)
       clear c6
       obtain rfl := Option.some.inj H
       have p333 : 0 ≤ (x3_1 : Int) := of_decide_eq_true (by first | (with_reducible assumption) | assumption)
       have q333 : x3_1 < (l0.length : Int) := of_decide_eq_true (by first | (with_reducible assumption) | assumption)
       obtain ⟨ad333, A333_2, c333_2, e333, hx333_0, hx333_1, hx333_2, hx333_3, hl333_2, hi333_2⟩ := at_T24 HR0.out x3_1 p333 q333
       cases e333
       have HR333_2 := Aside0.mk hi333_2
       have HC333_2 := Aside0.mk hl333_2
       clear hi333_2 hl333_2
       replace p333 := eq_true p333
       replace q333 := eq_true q333
       go_wp2_with (first | ((with_reducible refine gqC (f := 53) rfl ?_); refine GS.gL (some 15) Try.func53 #[.slice A333_2 ((rd_T24 l0 x3_1).f2).length c333_2] ?_; (with_reducible refine (spileref08_Few.calls _ _ ((rd_T24 l0 x3_1).f2) true _ ?side1 ?side2 A4.out).mono ?_); (case side1 => exact GS.rC HR333_2.out); (case side2 => exact HC333_2.out); rintro e w' ⟨rfl, ⟨nd, rfl⟩⟩; refine ⟨_, rfl, ?_⟩; have p335 : 0 ≤ (x3_1 : Int) := of_decide_eq_true (by first | (with_reducible assumption) | assumption); have q335 : x3_1 < (l0.length : Int) := of_decide_eq_true (by first | (with_reducible assumption) | assumption); obtain ⟨ad335, A335_2, c335_2, e335, hx335_0, hx335_1, hx335_2, hx335_3, hl335_2, hi335_2⟩ := at_T24 HR0.out x3_1 p335 q335; obtain rfl : ad333 = ad335 := (by injection e335); have HR335_2 := Aside0.mk hi335_2; have HC335_2 := Aside0.mk hl335_2; clear hi335_2 hl335_2; replace p335 := eq_true p335; replace q335 := eq_true q335; have ea_ := Option.some.inj (hx333_2.symm.trans hx335_2); injection ea_ with ea_ en_ ec_; subst ea_; subst ec_; clear en_))
       go_ret
       exact ⟨by first | rfl | (simp; done) | (simp [*]; done), by repeat (first | exact Drawn0.refl _ | apply Drawn0.step)⟩
      ·rw [if_neg c6] at H
       have c6b0 : decide (70 < (((rd_T24 l0 x3_1).f0).size : Int)) = false := decide_eq_false c6
       have c6b1 : decide (70 < ((rd_T24 l0 x3_1).f0).size) = false := decide_eq_false (by omega)
       clear c6
       have H' := Aside0.mk H
       clear H
       have p333 : 0 ≤ (x3_1 : Int) := of_decide_eq_true (by first | (with_reducible assumption) | assumption)
       have q333 : x3_1 < (l0.length : Int) := of_decide_eq_true (by first | (with_reducible assumption) | assumption)
       obtain ⟨ad333, A333_2, c333_2, e333, hx333_0, hx333_1, hx333_2, hx333_3, hl333_2, hi333_2⟩ := at_T24 HR0.out x3_1 p333 q333
       cases e333
       have HR333_2 := Aside0.mk hi333_2
       have HC333_2 := Aside0.mk hl333_2
       clear hi333_2 hl333_2
       replace p333 := eq_true p333
       replace q333 := eq_true q333
       go_wp2_with (first | ((with_reducible refine gqC (f := 53) rfl ?_); refine GS.gL (some 15) Try.func53 #[.slice A333_2 ((rd_T24 l0 x3_1).f2).length c333_2] ?_; (with_reducible refine (spileref08_Few.calls _ _ ((rd_T24 l0 x3_1).f2) true _ ?side1 ?side2 A4.out).mono ?_); (case side1 => exact GS.rC HR333_2.out); (case side2 => exact HC333_2.out); rintro e w' ⟨rfl, ⟨nd, rfl⟩⟩; refine ⟨_, rfl, ?_⟩; have p335 : 0 ≤ (x3_1 : Int) := of_decide_eq_true (by first | (with_reducible assumption) | assumption); have q335 : x3_1 < (l0.length : Int) := of_decide_eq_true (by first | (with_reducible assumption) | assumption); obtain ⟨ad335, A335_2, c335_2, e335, hx335_0, hx335_1, hx335_2, hx335_3, hl335_2, hi335_2⟩ := at_T24 HR0.out x3_1 p335 q335; obtain rfl : ad333 = ad335 := (by injection e335); have HR335_2 := Aside0.mk hi335_2; have HC335_2 := Aside0.mk hl335_2; clear hi335_2 hl335_2; replace p335 := eq_true p335; replace q335 := eq_true q335; have ea_ := Option.some.inj (hx333_2.symm.trans hx335_2); injection ea_ with ea_ en_ ec_; subst ea_; subst ec_; clear en_))
       go_roundg k1
       case measure => have := HK1.out; omega
       case rel => exact ⟨(wrap64 (x3_1 + 1)), (by first | rfl | (simp; done) | (simp [*]; done)), H', ⟨by have := HK1.out; omega⟩, by repeat (first | exact Drawn0.refl _ | apply Drawn0.step)⟩
     ·replace c5 := Bool.eq_false_iff.mpr c5
      subst c5
      have H1 : (some false) = some r := by rw [if_neg (show ¬ (false = true) by decide)] at H; exact H
      clear H
      have H := H1
      clear H1
      obtain rfl := Option.some.inj H
      have p333 : 0 ≤ (x3_1 : Int) := of_decide_eq_true (by first | (with_reducible assumption) | assumption)
      have q333 : x3_1 < (l0.length : Int) := of_decide_eq_true (by first | (with_reducible assumption) | assumption)
      obtain ⟨ad333, A333_2, c333_2, e333, hx333_0, hx333_1, hx333_2, hx333_3, hl333_2, hi333_2⟩ := at_T24 HR0.out x3_1 p333 q333
      cases e333
      have HR333_2 := Aside0.mk hi333_2
      have HC333_2 := Aside0.mk hl333_2
      clear hi333_2 hl333_2
      replace p333 := eq_true p333
      replace q333 := eq_true q333
      go_wp2_with (first | ((with_reducible refine gqC (f := 53) rfl ?_); refine GS.gL (some 15) Try.func53 #[.slice A333_2 ((rd_T24 l0 x3_1).f2).length c333_2] ?_; (with_reducible refine (spileref08_Few.calls _ _ ((rd_T24 l0 x3_1).f2) false _ ?side1 ?side2 A4.out).mono ?_); (case side1 => exact GS.rC HR333_2.out); (case side2 => exact HC333_2.out); rintro e w' ⟨rfl, ⟨nd, rfl⟩⟩; refine ⟨_, rfl, ?_⟩))
      go_ret
      exact ⟨by first | rfl | (simp; done) | (simp [*]; done), by repeat (first | exact Drawn0.refl _ | apply Drawn0.step)⟩
    ·rw [if_neg c3] at H
     exact absurd H (by simp)
   ·rw [if_neg c2] at H
    have c2b0 : decide (x3_1 < (l0.length : Int)) = false := decide_eq_false c2
    clear c2
    obtain rfl := Option.some.inj H
    go_wp2
    go_ret
    exact ⟨by first | rfl | (simp; done) | (simp [*]; done), by repeat (first | exact Drawn0.refl _ | apply Drawn0.step)⟩

end Go.Proofs.Ytmcmbjkjilcmeaa.K
