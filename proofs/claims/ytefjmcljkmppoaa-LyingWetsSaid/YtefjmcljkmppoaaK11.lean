import Derived.Test.YtefjmcljkmppoaaK0
import Derived.Test.YtefjmcljkmppoaaK10
namespace Go.Proofs.Ytefjmcljkmppoaa.K
open Go.RowKit Go.Proofs.YtefjmcljkmppoaaW.PrintWords Go.Proofs.YtefjmcljkmppoaaW.PrintLast Go.Proofs.YtefjmcljkmppoaaW.PrintMore
attribute [local go_sem] max2_int min2_int max_two min_two max_three min_three max_four min_four   -- for this text's walks alone
set_option linter.unusedVariables false
set_option linter.unusedSimpArgs false
mutual
def spileref08_Check.l0 : Nat → List (S39) → Int → Option (Int)
 | 0, _, _ => none
 | k + 1, x0, x3 => if x3 < (x0.length : Int) then (if 0 ≤ x3 then ((spileref08_isLength.f ((rd_T39 x0 x3).f0)).bind fun t348 => (if t348 = true then ((spileref08_isLength.f ((rd_T39 x0 x3).f1)).bind fun t350 => (if t350 = true then (spileref08_Check.l0 k x0 (wrap64 (x3 + 1))) else (some 2))) else (some 2))) else (none)) else (spileref08_Check.l1 k x0 0)
def spileref08_Check.l1 : Nat → List (S39) → Int → Option (Int)
 | 0, _, _ => none
 | k + 1, x0, x4 => if x4 < (x0.length : Int) then (if x4 = 0 then (if 0 ≤ x4 then (if ((rd_T39 x0 x4).f0) = 0 then (if x4 > 0 then (if 0 ≤ (wrap64 (x4 - 1)) then (if (wrap64 (x4 - 1)) < (x0.length : Int) then (spileref08_Check.j2 k x0 x4 (decide (((rd_T39 x0 (wrap64 (x4 - 1))).f0) ≥ ((rd_T39 x0 x4).f0)))) else (none)) else (none)) else (spileref08_Check.j2 k x0 x4 false)) else (spileref08_Check.j2 k x0 x4 true)) else (none)) else (if x4 > 0 then (if 0 ≤ (wrap64 (x4 - 1)) then (if (wrap64 (x4 - 1)) < (x0.length : Int) then (if 0 ≤ x4 then (spileref08_Check.j2 k x0 x4 (decide (((rd_T39 x0 (wrap64 (x4 - 1))).f0) ≥ ((rd_T39 x0 x4).f0)))) else (none)) else (none)) else (none)) else (spileref08_Check.j2 k x0 x4 false))) else (spileref08_Check.l2 k x0 0)
def spileref08_Check.j2 : Nat → List (S39) → Int → Bool → Option (Int)
 | 0, _, _, _ => none
 | k + 1, x0, x4, x69 => if x69 = true then (some 5) else (spileref08_Check.l1 k x0 (wrap64 (x4 + 1)))
def spileref08_Check.l2 : Nat → List (S39) → Int → Option (Int)
 | 0, _, _ => none
 | k + 1, x0, x5 => if x5 < (x0.length : Int) then (if 0 ≤ x5 then (if ((rd_T39 x0 x5).f1) = 0 then (some 16) else (spileref08_Check.l2 k x0 (wrap64 (x5 + 1)))) else (none)) else (spileref08_Check.l3 k x0 false 1)
def spileref08_Check.l3 : Nat → List (S39) → Bool → Int → Option (Int)
 | 0, _, _, _ => none
 | k + 1, x0, x6, x7 => if x7 < (x0.length : Int) then (if x6 = true then (if 0 ≤ x7 then (if 0 ≤ (wrap64 (x7 - 1)) then (if (wrap64 (x7 - 1)) < (x0.length : Int) then (if ((rd_T39 x0 x7).f1) > ((rd_T39 x0 (wrap64 (x7 - 1))).f1) then (some 10) else (spileref08_Check.l3 k x0 true (wrap64 (x7 + 1)))) else (none)) else (none)) else (none)) else (if 0 ≤ x7 then (if 0 ≤ (wrap64 (x7 - 1)) then (if (wrap64 (x7 - 1)) < (x0.length : Int) then (spileref08_Check.l3 k x0 (decide (((rd_T39 x0 x7).f1) < ((rd_T39 x0 (wrap64 (x7 - 1))).f1))) (wrap64 (x7 + 1))) else (none)) else (none)) else (none))) else (some 0)
end
def spileref08_Check.f (k : Nat) (l0 : List (S39)) : Option (Int) := if (l0.length : Int) < 2 then (some 9) else (if (l0.length : Int) > 32 then (some 8) else (spileref08_Check.l0 k l0 0))
set_option maxHeartbeats 8000000 in
set_option maxRecDepth 100000 in
theorem spileref08_Check.calls (k : Nat) (A0 : Option Addr) (c0 : Nat) (l0 : List (S39)) (r : Int) (w : World) (hr0 : Kd.C k39 w A0 l0.length l0) (hc0 : l0.length ≤ c0) (h : spileref08_Check.f k l0 = some r) :
  Calls Try.prog 30 #[.slice A0 l0.length c0] w fun e w' => e = .returned (.int .i64 r) ∧ Drawn0 w w' := by
 have HR0 := Aside0.mk hr0
 have HC0 := Aside0.mk hc0
 clear hr0 hc0
 have H : (if (l0.length : Int) < 2 then (some 9) else (if (l0.length : Int) > 32 then (some 8) else (spileref08_Check.l0 k l0 0))) = some r := h
 clear h
 by_cases c2 : (l0.length : Int) < 2
 ·rw [if_pos c2] at H
  have c2b0 : decide ((l0.length : Int) < 2) = true := decide_eq_true c2
  have c2b1 : decide (l0.length < 2) = true := decide_eq_true (by omega)
  clear c2
  obtain rfl := Option.some.inj H
  go_enter Try.func30, Try.ntmps30
  go_wp2
  repeat (go_quiet (fail); try go_wp2)
  go_ret
  exact ⟨by first | rfl | (simp; done) | (simp [*]; done), by repeat (first | exact Drawn0.refl _ | apply Drawn0.step)⟩
 ·rw [if_neg c2] at H
  have c2b0 : decide ((l0.length : Int) < 2) = false := decide_eq_false c2
  have c2b1 : decide (l0.length < 2) = false := decide_eq_false (by omega)
  clear c2
  by_cases c3 : (l0.length : Int) > 32
  ·rw [if_pos c3] at H
   have c3b0 : decide (32 < (l0.length : Int)) = true := decide_eq_true c3
   have c3b1 : decide (32 < l0.length) = true := decide_eq_true (by omega)
   clear c3
   obtain rfl := Option.some.inj H
   go_enter Try.func30, Try.ntmps30
   go_wp2
   repeat (go_quiet (fail); try go_wp2)
   go_ret
   exact ⟨by first | rfl | (simp; done) | (simp [*]; done), by repeat (first | exact Drawn0.refl _ | apply Drawn0.step)⟩
  ·rw [if_neg c3] at H
   have c3b0 : decide (32 < (l0.length : Int)) = false := decide_eq_false c3
   have c3b1 : decide (32 < l0.length) = false := decide_eq_false (by omega)
   clear c3
   have H' := Aside0.mk H
   clear H
   go_enter Try.func30, Try.ntmps30
   go_wp2
   repeat (go_quiet (fail); try go_wp2)
   go_loopg [3] k (fun kq v3 w' => ∃ (x3_1 : Int), v3 = .int .i64 x3_1 ∧ Aside0 (spileref08_Check.l0 kq l0 x3_1 = some r) ∧ Aside0 (kq ≤ k) ∧ Drawn0 w w')
   case atStart => exact ⟨(0), (by first | rfl | (simp; done) | (simp [*]; done)), H', ⟨Nat.le_refl _⟩, by repeat (first | exact Drawn0.refl _ | apply Drawn0.step)⟩
   case round =>
    clear H'
    try clear c2b0
    try clear c2b1
    try clear c3b0
    try clear c3b1
    obtain ⟨x3_1, rfl, HA, HK1, ⟨m1, rfl⟩⟩ := hrel
    cases gk with
    | zero => exact absurd HA.out (by simp [spileref08_Check.l0])
    | succ k1 =>
     have H := HA.out
     clear HA
     simp only [spileref08_Check.l0] at H
     by_cases c4 : x3_1 < (l0.length : Int)
     ·rw [if_pos c4] at H
      have c4b0 : decide (x3_1 < (l0.length : Int)) = true := decide_eq_true c4
      clear c4
      by_cases c5 : 0 ≤ x3_1
      ·rw [if_pos c5] at H
       have c5b0 : decide (0 ≤ x3_1) = true := decide_eq_true c5
       clear c5
       replace H := Option.bind_eq_some_iff.mp H
       obtain ⟨t348, A60, H⟩ := H
       try (set_option simprocs false in dsimp only at H)
       have A6 := Aside0.mk A60
       clear A60
       by_cases c7 : t348 = true
       ·subst c7
        rw [if_pos rfl] at H
        replace H := Option.bind_eq_some_iff.mp H
        obtain ⟨t350, A80, H⟩ := H
        try (set_option simprocs false in dsimp only at H)
        have A8 := Aside0.mk A80
        clear A80
        by_cases c9 : t350 = true
        ·subst c9
         rw [if_pos rfl] at H
         have H' := Aside0.mk H
         clear H
         have p347 : 0 ≤ (x3_1 : Int) := of_decide_eq_true (by first | (with_reducible assumption) | assumption)
         have q347 : x3_1 < (l0.length : Int) := of_decide_eq_true (by first | (with_reducible assumption) | assumption)
         obtain ⟨ad347, e347, hx347_0, hx347_1⟩ := at_T39 HR0.out x3_1 p347 q347
         cases e347
         replace p347 := eq_true p347
         replace q347 := eq_true q347
         go_wp2_with (first | (go_at_call 63; (with_reducible refine (spileref08_isLength.calls ((rd_T39 l0 x3_1).f0) true _ A6.out).mono ?_); rintro e w' ⟨rfl, ⟨nd, rfl⟩⟩; (try first | exact ⟨rfl, _, World.drewN_drewN _ _ _⟩ | exact ⟨rfl, _, Eq.trans (World.drewN_drewN _ _ _) (congrArg (World.drewN _) (Nat.add_assoc _ _ _))⟩); have p349 : 0 ≤ (x3_1 : Int) := of_decide_eq_true (by first | (with_reducible assumption) | assumption); have q349 : x3_1 < (l0.length : Int) := of_decide_eq_true (by first | (with_reducible assumption) | assumption); obtain ⟨ad349, e349, hx349_0, hx349_1⟩ := at_T39 HR0.out x3_1 p349 q349; obtain rfl : ad347 = ad349 := (by injection e349); replace p349 := eq_true p349; replace q349 := eq_true q349) | (go_at_call 63; (with_reducible refine (spileref08_isLength.calls ((rd_T39 l0 x3_1).f1) true _ A8.out).mono ?_); rintro e w' ⟨rfl, ⟨nd, rfl⟩⟩; (try first | exact ⟨rfl, _, World.drewN_drewN _ _ _⟩ | exact ⟨rfl, _, Eq.trans (World.drewN_drewN _ _ _) (congrArg (World.drewN _) (Nat.add_assoc _ _ _))⟩)))
         repeat (go_quiet (first | (go_at_call 63; (with_reducible refine (spileref08_isLength.calls ((rd_T39 l0 x3_1).f0) true _ A6.out).mono ?_); rintro e w' ⟨rfl, ⟨nd, rfl⟩⟩; (try first | exact ⟨rfl, _, World.drewN_drewN _ _ _⟩ | exact ⟨rfl, _, Eq.trans (World.drewN_drewN _ _ _) (congrArg (World.drewN _) (Nat.add_assoc _ _ _))⟩); have p349 : 0 ≤ (x3_1 : Int) := of_decide_eq_true (by first | (with_reducible assumption) | assumption); have q349 : x3_1 < (l0.length : Int) := of_decide_eq_true (by first | (with_reducible assumption) | assumption); obtain ⟨ad349, e349, hx349_0, hx349_1⟩ := at_T39 HR0.out x3_1 p349 q349; obtain rfl : ad347 = ad349 := (by injection e349); replace p349 := eq_true p349; replace q349 := eq_true q349) | (go_at_call 63; (with_reducible refine (spileref08_isLength.calls ((rd_T39 l0 x3_1).f1) true _ A8.out).mono ?_); rintro e w' ⟨rfl, ⟨nd, rfl⟩⟩; (try first | exact ⟨rfl, _, World.drewN_drewN _ _ _⟩ | exact ⟨rfl, _, Eq.trans (World.drewN_drewN _ _ _) (congrArg (World.drewN _) (Nat.add_assoc _ _ _))⟩))); try go_wp2_with (first | (go_at_call 63; (with_reducible refine (spileref08_isLength.calls ((rd_T39 l0 x3_1).f0) true _ A6.out).mono ?_); rintro e w' ⟨rfl, ⟨nd, rfl⟩⟩; (try first | exact ⟨rfl, _, World.drewN_drewN _ _ _⟩ | exact ⟨rfl, _, Eq.trans (World.drewN_drewN _ _ _) (congrArg (World.drewN _) (Nat.add_assoc _ _ _))⟩); have p349 : 0 ≤ (x3_1 : Int) := of_decide_eq_true (by first | (with_reducible assumption) | assumption); have q349 : x3_1 < (l0.length : Int) := of_decide_eq_true (by first | (with_reducible assumption) | assumption); obtain ⟨ad349, e349, hx349_0, hx349_1⟩ := at_T39 HR0.out x3_1 p349 q349; obtain rfl : ad347 = ad349 := (by injection e349); replace p349 := eq_true p349; replace q349 := eq_true q349) | (go_at_call 63; (with_reducible refine (spileref08_isLength.calls ((rd_T39 l0 x3_1).f1) true _ A8.out).mono ?_); rintro e w' ⟨rfl, ⟨nd, rfl⟩⟩; (try first | exact ⟨rfl, _, World.drewN_drewN _ _ _⟩ | exact ⟨rfl, _, Eq.trans (World.drewN_drewN _ _ _) (congrArg (World.drewN _) (Nat.add_assoc _ _ _))⟩))))
         go_roundg k1
         case measure => have := HK1.out; omega
         case rel => exact ⟨(wrap64 (x3_1 + 1)), (by first | rfl | (simp; done) | (simp [*]; done)), H', ⟨by have := HK1.out; omega⟩, by repeat (first | exact Drawn0.refl _ | apply Drawn0.step)⟩
        ·replace c9 := Bool.eq_false_iff.mpr c9
         subst c9
         rw [if_neg (show ¬ (false = true) by decide)] at H
         obtain rfl := Option.some.inj H
         have p347 : 0 ≤ (x3_1 : Int) := of_decide_eq_true (by first | (with_reducible assumption) | assumption)
         have q347 : x3_1 < (l0.length : Int) := of_decide_eq_true (by first | (with_reducible assumption) | assumption)
         obtain ⟨ad347, e347, hx347_0, hx347_1⟩ := at_T39 HR0.out x3_1 p347 q347
         cases e347
         replace p347 := eq_true p347
         replace q347 := eq_true q347
         go_wp2_with (first | (go_at_call 63; (with_reducible refine (spileref08_isLength.calls ((rd_T39 l0 x3_1).f0) true _ A6.out).mono ?_); rintro e w' ⟨rfl, ⟨nd, rfl⟩⟩; (try first | exact ⟨rfl, _, World.drewN_drewN _ _ _⟩ | exact ⟨rfl, _, Eq.trans (World.drewN_drewN _ _ _) (congrArg (World.drewN _) (Nat.add_assoc _ _ _))⟩); have p349 : 0 ≤ (x3_1 : Int) := of_decide_eq_true (by first | (with_reducible assumption) | assumption); have q349 : x3_1 < (l0.length : Int) := of_decide_eq_true (by first | (with_reducible assumption) | assumption); obtain ⟨ad349, e349, hx349_0, hx349_1⟩ := at_T39 HR0.out x3_1 p349 q349; obtain rfl : ad347 = ad349 := (by injection e349); replace p349 := eq_true p349; replace q349 := eq_true q349) | (go_at_call 63; (with_reducible refine (spileref08_isLength.calls ((rd_T39 l0 x3_1).f1) false _ A8.out).mono ?_); rintro e w' ⟨rfl, ⟨nd, rfl⟩⟩; (try first | exact ⟨rfl, _, World.drewN_drewN _ _ _⟩ | exact ⟨rfl, _, Eq.trans (World.drewN_drewN _ _ _) (congrArg (World.drewN _) (Nat.add_assoc _ _ _))⟩)))
         repeat (go_quiet (first | (go_at_call 63; (with_reducible refine (spileref08_isLength.calls ((rd_T39 l0 x3_1).f0) true _ A6.out).mono ?_); rintro e w' ⟨rfl, ⟨nd, rfl⟩⟩; (try first | exact ⟨rfl, _, World.drewN_drewN _ _ _⟩ | exact ⟨rfl, _, Eq.trans (World.drewN_drewN _ _ _) (congrArg (World.drewN _) (Nat.add_assoc _ _ _))⟩); have p349 : 0 ≤ (x3_1 : Int) := of_decide_eq_true (by first | (with_reducible assumption) | assumption); have q349 : x3_1 < (l0.length : Int) := of_decide_eq_true (by first | (with_reducible assumption) | assumption); obtain ⟨ad349, e349, hx349_0, hx349_1⟩ := at_T39 HR0.out x3_1 p349 q349; obtain rfl : ad347 = ad349 := (by injection e349); replace p349 := eq_true p349; replace q349 := eq_true q349) | (go_at_call 63; (with_reducible refine (spileref08_isLength.calls ((rd_T39 l0 x3_1).f1) false _ A8.out).mono ?_); rintro e w' ⟨rfl, ⟨nd, rfl⟩⟩; (try first | exact ⟨rfl, _, World.drewN_drewN _ _ _⟩ | exact ⟨rfl, _, Eq.trans (World.drewN_drewN _ _ _) (congrArg (World.drewN _) (Nat.add_assoc _ _ _))⟩))); try go_wp2_with (first | (go_at_call 63; (with_reducible refine (spileref08_isLength.calls ((rd_T39 l0 x3_1).f0) true _ A6.out).mono ?_); rintro e w' ⟨rfl, ⟨nd, rfl⟩⟩; (try first | exact ⟨rfl, _, World.drewN_drewN _ _ _⟩ | exact ⟨rfl, _, Eq.trans (World.drewN_drewN _ _ _) (congrArg (World.drewN _) (Nat.add_assoc _ _ _))⟩); have p349 : 0 ≤ (x3_1 : Int) := of_decide_eq_true (by first | (with_reducible assumption) | assumption); have q349 : x3_1 < (l0.length : Int) := of_decide_eq_true (by first | (with_reducible assumption) | assumption); obtain ⟨ad349, e349, hx349_0, hx349_1⟩ := at_T39 HR0.out x3_1 p349 q349; obtain rfl : ad347 = ad349 := (by injection e349); replace p349 := eq_true p349; replace q349 := eq_true q349) | (go_at_call 63; (with_reducible refine (spileref08_isLength.calls ((rd_T39 l0 x3_1).f1) false _ A8.out).mono ?_); rintro e w' ⟨rfl, ⟨nd, rfl⟩⟩; (try first | exact ⟨rfl, _, World.drewN_drewN _ _ _⟩ | exact ⟨rfl, _, Eq.trans (World.drewN_drewN _ _ _) (congrArg (World.drewN _) (Nat.add_assoc _ _ _))⟩))))
         go_ret
         exact ⟨by first | rfl | (simp; done) | (simp [*]; done), by repeat (first | exact Drawn0.refl _ | apply Drawn0.step)⟩
       ·replace c7 := Bool.eq_false_iff.mpr c7
        subst c7
        rw [if_neg (show ¬ (false = true) by decide)] at H
        obtain rfl := Option.some.inj H
        have p347 : 0 ≤ (x3_1 : Int) := of_decide_eq_true (by first | (with_reducible assumption) | assumption)
        have q347 : x3_1 < (l0.length : Int) := of_decide_eq_true (by first | (with_reducible assumption) | assumption)
        obtain ⟨ad347, e347, hx347_0, hx347_1⟩ := at_T39 HR0.out x3_1 p347 q347
        cases e347
        replace p347 := eq_true p347
        replace q347 := eq_true q347
        go_wp2_with (first | (go_at_call 63; (with_reducible refine (spileref08_isLength.calls ((rd_T39 l0 x3_1).f0) false _ A6.out).mono ?_); rintro e w' ⟨rfl, ⟨nd, rfl⟩⟩; (try first | exact ⟨rfl, _, World.drewN_drewN _ _ _⟩ | exact ⟨rfl, _, Eq.trans (World.drewN_drewN _ _ _) (congrArg (World.drewN _) (Nat.add_assoc _ _ _))⟩)))
        repeat (go_quiet (first | (go_at_call 63; (with_reducible refine (spileref08_isLength.calls ((rd_T39 l0 x3_1).f0) false _ A6.out).mono ?_); rintro e w' ⟨rfl, ⟨nd, rfl⟩⟩; (try first | exact ⟨rfl, _, World.drewN_drewN _ _ _⟩ | exact ⟨rfl, _, Eq.trans (World.drewN_drewN _ _ _) (congrArg (World.drewN _) (Nat.add_assoc _ _ _))⟩))); try go_wp2_with (first | (go_at_call 63; (with_reducible refine (spileref08_isLength.calls ((rd_T39 l0 x3_1).f0) false _ A6.out).mono ?_); rintro e w' ⟨rfl, ⟨nd, rfl⟩⟩; (try first | exact ⟨rfl, _, World.drewN_drewN _ _ _⟩ | exact ⟨rfl, _, Eq.trans (World.drewN_drewN _ _ _) (congrArg (World.drewN _) (Nat.add_assoc _ _ _))⟩))))
        go_ret
        exact ⟨by first | rfl | (simp; done) | (simp [*]; done), by repeat (first | exact Drawn0.refl _ | apply Drawn0.step)⟩
      ·rw [if_neg c5] at H
       exact absurd H (by simp)
     ·rw [if_neg c4] at H
      have c4b0 : decide (x3_1 < (l0.length : Int)) = false := decide_eq_false c4
      clear c4
      have H' := Aside0.mk H
      clear H
      go_wp2
      repeat (go_quiet (fail); try go_wp2)
      go_loopg [4] k1 (fun kq v4 w' => ∃ (x4_2 : Int), v4 = .int .i64 x4_2 ∧ Aside0 (spileref08_Check.l1 kq l0 x4_2 = some r) ∧ Aside0 (kq ≤ k1) ∧ Drawn0 w w')
      case atStart => exact ⟨(0), (by first | rfl | (simp; done) | (simp [*]; done)), H', ⟨Nat.le_refl _⟩, by repeat (first | exact Drawn0.refl _ | apply Drawn0.step)⟩
      case round =>
       clear H'
       try clear c4b0
       obtain ⟨x4_2, rfl, HA, HK2, ⟨m2, rfl⟩⟩ := hrel
       cases gk with
       | zero => exact absurd HA.out (by simp [spileref08_Check.l1])
       | succ k2 =>
        have H := HA.out
        clear HA
        simp only [spileref08_Check.l1] at H
        by_cases c10 : x4_2 < (l0.length : Int)
        ·rw [if_pos c10] at H
         have c10b0 : decide (x4_2 < (l0.length : Int)) = true := decide_eq_true c10
         clear c10
         have HC11 := Aside0.mk H
         clear H
         go_upto_region 13 with (fail)
         repeat (go_quiet (fail); go_upto_region 13 with (fail))
         go_cut [69] (fun v69 wc => ∃ (kq : Nat) (x69_10 : Bool), v69 = .bool x69_10 ∧ Aside0 (spileref08_Check.j2 kq l0 x4_2 x69_10 = some r) ∧ Aside0 (kq ≤ k2) ∧ Drawn0 w wc)
         case first =>
          have H := HC11.out
          clear HC11
          by_cases c12 : x4_2 = 0
          ·rw [if_pos c12] at H
           have c12b0 : (x4_2 == 0) = true := beq_iff_eq.mpr c12
           have c12b1 : (x4_2 != 0) = false := bne_eq_false_iff_eq.mpr c12
           clear c12
           (first | rw [c12b0] | (simp only [i64_w, i32_w]; rw [c12b0]) | skip)
           by_cases c13 : 0 ≤ x4_2
           ·rw [if_pos c13] at H
            have c13b0 : decide (0 ≤ x4_2) = true := decide_eq_true c13
            clear c13
            by_cases c14 : ((rd_T39 l0 x4_2).f0) = 0
            ·rw [if_pos c14] at H
             have c14b0 : (((rd_T39 l0 x4_2).f0) == 0) = true := beq_iff_eq.mpr c14
             have c14b1 : (((rd_T39 l0 x4_2).f0) != 0) = false := bne_eq_false_iff_eq.mpr c14
             clear c14
             by_cases c15 : x4_2 > 0
             ·rw [if_pos c15] at H
              have c15b0 : decide (0 < x4_2) = true := decide_eq_true c15
              clear c15
              obtain ⟨ji16, hji16⟩ : ∃ j_ : Int, (wrap64 (x4_2 - 1)) = j_ := ⟨_, rfl⟩
              replace H : (if 0 ≤ (ji16) then (if (ji16) < (l0.length : Int) then (spileref08_Check.j2 k2 l0 x4_2 (decide (((rd_T39 l0 (ji16)).f0) ≥ ((rd_T39 l0 x4_2).f0)))) else (none)) else (none)) = some r := by first | (rw [hji16] at H; exact H) | (simp only [hji16] at H ⊢; exact H)
              have hji16w : (IntKind.i64.wrap (x4_2 - 1)) = ji16 := (i64_w _).trans hji16
              by_cases c17 : 0 ≤ (ji16)
              ·rw [if_pos c17] at H
               have c17b0 : decide (0 ≤ (ji16)) = true := decide_eq_true c17
               clear c17
               by_cases c18 : (ji16) < (l0.length : Int)
               ·rw [if_pos c18] at H
                have c18b0 : decide ((ji16) < (l0.length : Int)) = true := decide_eq_true c18
                clear c18
                have H' := Aside0.mk H
                clear H
                have p351 : 0 ≤ (x4_2 : Int) := of_decide_eq_true (by first | (with_reducible assumption) | assumption)
                have q351 : x4_2 < (l0.length : Int) := of_decide_eq_true (by first | (with_reducible assumption) | assumption)
                obtain ⟨ad351, e351, hx351_0, hx351_1⟩ := at_T39 HR0.out x4_2 p351 q351
                cases e351
                replace p351 := eq_true p351
                replace q351 := eq_true q351
                have p352 : 0 ≤ ((ji16) : Int) := of_decide_eq_true (by first | (with_reducible assumption) | assumption)
                have q352 : (ji16) < (l0.length : Int) := of_decide_eq_true (by first | (with_reducible assumption) | assumption)
                obtain ⟨ad352, e352, hx352_0, hx352_1⟩ := at_T39 HR0.out (ji16) p352 q352
                obtain rfl : ad351 = ad352 := (by injection e352)
                replace p352 := eq_true p352
                replace q352 := eq_true q352
                have p353 : 0 ≤ (x4_2 : Int) := of_decide_eq_true (by first | (with_reducible assumption) | assumption)
                have q353 : x4_2 < (l0.length : Int) := of_decide_eq_true (by first | (with_reducible assumption) | assumption)
                obtain ⟨ad353, e353, hx353_0, hx353_1⟩ := at_T39 HR0.out x4_2 p353 q353
                obtain rfl : ad351 = ad353 := (by injection e353)
                replace p353 := eq_true p353
                replace q353 := eq_true q353
                go_wp2
                repeat (go_quiet (fail); try go_wp2)
                go_meet
                case rel => exact ⟨_, (decide (((rd_T39 l0 (ji16)).f0) ≥ ((rd_T39 l0 x4_2).f0))), (by first | rfl | (simp; done) | (simp only [← hji16] <;> (first | rfl | simp)) | (simp [*]; done)), H', ⟨by have := HK1.out; have := HK2.out; first | omega | exact Nat.le_refl _⟩, by repeat (first | exact Drawn0.refl _ | apply Drawn0.step)⟩
               ·rw [if_neg c18] at H
                exact absurd H (by simp)
              ·rw [if_neg c17] at H
               exact absurd H (by simp)
             ·rw [if_neg c15] at H
              have c15b0 : decide (0 < x4_2) = false := decide_eq_false c15
              clear c15
              have H' := Aside0.mk H
              clear H
              have p351 : 0 ≤ (x4_2 : Int) := of_decide_eq_true (by first | (with_reducible assumption) | assumption)
              have q351 : x4_2 < (l0.length : Int) := of_decide_eq_true (by first | (with_reducible assumption) | assumption)
              obtain ⟨ad351, e351, hx351_0, hx351_1⟩ := at_T39 HR0.out x4_2 p351 q351
              cases e351
              replace p351 := eq_true p351
              replace q351 := eq_true q351
              go_wp2
              repeat (go_quiet (fail); try go_wp2)
              go_meet
              case rel => exact ⟨_, (false), (by first | rfl | (simp; done) | (simp [*]; done)), H', ⟨by have := HK1.out; have := HK2.out; first | omega | exact Nat.le_refl _⟩, by repeat (first | exact Drawn0.refl _ | apply Drawn0.step)⟩
            ·rw [if_neg c14] at H
             have c14b0 : (((rd_T39 l0 x4_2).f0) == 0) = false := beq_eq_false_iff_ne.mpr c14
             have c14b1 : (((rd_T39 l0 x4_2).f0) != 0) = true := bne_iff_ne.mpr c14
             have H' := Aside0.mk H
             clear H
             have p351 : 0 ≤ (x4_2 : Int) := of_decide_eq_true (by first | (with_reducible assumption) | assumption)
             have q351 : x4_2 < (l0.length : Int) := of_decide_eq_true (by first | (with_reducible assumption) | assumption)
             obtain ⟨ad351, e351, hx351_0, hx351_1⟩ := at_T39 HR0.out x4_2 p351 q351
             cases e351
             replace p351 := eq_true p351
             replace q351 := eq_true q351
             go_wp2
             repeat (go_quiet (fail); try go_wp2)
             go_meet
             case rel => exact ⟨_, (true), (by first | rfl | (simp; done) | (simp [*]; done)), H', ⟨by have := HK1.out; have := HK2.out; first | omega | exact Nat.le_refl _⟩, by repeat (first | exact Drawn0.refl _ | apply Drawn0.step)⟩
           ·rw [if_neg c13] at H
            exact absurd H (by simp)
          ·rw [if_neg c12] at H
           have c12b0 : (x4_2 == 0) = false := beq_eq_false_iff_ne.mpr c12
           have c12b1 : (x4_2 != 0) = true := bne_iff_ne.mpr c12
           (first | rw [c12b0] | (simp only [i64_w, i32_w]; rw [c12b0]) | skip)
           by_cases c19 : x4_2 > 0
           ·rw [if_pos c19] at H
            have c19b0 : decide (0 < x4_2) = true := decide_eq_true c19
            clear c19
            obtain ⟨ji20, hji20⟩ : ∃ j_ : Int, (wrap64 (x4_2 - 1)) = j_ := ⟨_, rfl⟩
            replace H : (if 0 ≤ (ji20) then (if (ji20) < (l0.length : Int) then (if 0 ≤ x4_2 then (spileref08_Check.j2 k2 l0 x4_2 (decide (((rd_T39 l0 (ji20)).f0) ≥ ((rd_T39 l0 x4_2).f0)))) else (none)) else (none)) else (none)) = some r := by first | (rw [hji20] at H; exact H) | (simp only [hji20] at H ⊢; exact H)
            have hji20w : (IntKind.i64.wrap (x4_2 - 1)) = ji20 := (i64_w _).trans hji20
            by_cases c21 : 0 ≤ (ji20)
            ·rw [if_pos c21] at H
             have c21b0 : decide (0 ≤ (ji20)) = true := decide_eq_true c21
             clear c21
             by_cases c22 : (ji20) < (l0.length : Int)
             ·rw [if_pos c22] at H
              have c22b0 : decide ((ji20) < (l0.length : Int)) = true := decide_eq_true c22
              clear c22
              by_cases c23 : 0 ≤ x4_2
              ·rw [if_pos c23] at H
               have c23b0 : decide (0 ≤ x4_2) = true := decide_eq_true c23
               clear c23
               have H' := Aside0.mk H
               clear H
               have p354 : 0 ≤ ((ji20) : Int) := of_decide_eq_true (by first | (with_reducible assumption) | assumption)
               have q354 : (ji20) < (l0.length : Int) := of_decide_eq_true (by first | (with_reducible assumption) | assumption)
               obtain ⟨ad354, e354, hx354_0, hx354_1⟩ := at_T39 HR0.out (ji20) p354 q354
               cases e354
               replace p354 := eq_true p354
               replace q354 := eq_true q354
               have p355 : 0 ≤ (x4_2 : Int) := of_decide_eq_true (by first | (with_reducible assumption) | assumption)
               have q355 : x4_2 < (l0.length : Int) := of_decide_eq_true (by first | (with_reducible assumption) | assumption)
               obtain ⟨ad355, e355, hx355_0, hx355_1⟩ := at_T39 HR0.out x4_2 p355 q355
               obtain rfl : ad354 = ad355 := (by injection e355)
               replace p355 := eq_true p355
               replace q355 := eq_true q355
               go_wp2
               repeat (go_quiet (fail); try go_wp2)
               go_meet
               case rel => exact ⟨_, (decide (((rd_T39 l0 (ji20)).f0) ≥ ((rd_T39 l0 x4_2).f0))), (by first | rfl | (simp; done) | (simp only [← hji20] <;> (first | rfl | simp)) | (simp [*]; done)), H', ⟨by have := HK1.out; have := HK2.out; first | omega | exact Nat.le_refl _⟩, by repeat (first | exact Drawn0.refl _ | apply Drawn0.step)⟩
              ·rw [if_neg c23] at H
               exact absurd H (by simp)
             ·rw [if_neg c22] at H
              exact absurd H (by simp)
            ·rw [if_neg c21] at H
             exact absurd H (by simp)
           ·rw [if_neg c19] at H
            have c19b0 : decide (0 < x4_2) = false := decide_eq_false c19
            clear c19
            have H' := Aside0.mk H
            clear H
            go_wp2
            repeat (go_quiet (fail); try go_wp2)
            go_meet
            case rel => exact ⟨_, (false), (by first | rfl | (simp; done) | (simp [*]; done)), H', ⟨by have := HK1.out; have := HK2.out; first | omega | exact Nat.le_refl _⟩, by repeat (first | exact Drawn0.refl _ | apply Drawn0.step)⟩
         case rest =>
          clear HC11
          try clear c10b0
          obtain ⟨kq, x69_10, rfl, HA, HJ10, ⟨mc10, rfl⟩⟩ := hcut
          cases kq with
          | zero => exact absurd HA.out (by simp [spileref08_Check.j2])
          | succ kj10 =>
           have H := HA.out
           clear HA
           simp only [spileref08_Check.j2] at H
           by_cases c24 : x69_10 = true
           ·subst c24
            rw [if_pos rfl] at H
            obtain rfl := Option.some.inj H
            go_wp2
            repeat (go_quiet (fail); try go_wp2)
            go_ret
            exact ⟨by first | rfl | (simp; done) | (simp [*]; done), by repeat (first | exact Drawn0.refl _ | apply Drawn0.step)⟩
           ·replace c24 := Bool.eq_false_iff.mpr c24
            subst c24
            rw [if_neg (show ¬ (false = true) by decide)] at H
            have H' := Aside0.mk H
            clear H
            go_wp2
            repeat (go_quiet (fail); try go_wp2)
            go_roundg kj10
            case measure => have := HK1.out; have := HK2.out; have := HJ10.out; omega
            case rel => exact ⟨(wrap64 (x4_2 + 1)), (by first | rfl | (simp; done) | (simp [*]; done)), H', ⟨by have := HK1.out; have := HK2.out; have := HJ10.out; omega⟩, by repeat (first | exact Drawn0.refl _ | apply Drawn0.step)⟩
        ·rw [if_neg c10] at H
         have c10b0 : decide (x4_2 < (l0.length : Int)) = false := decide_eq_false c10
         clear c10
         have H' := Aside0.mk H
         clear H
         go_wp2
         repeat (go_quiet (fail); try go_wp2)
         go_loopg [5] k2 (fun kq v5 w' => ∃ (x5_3 : Int), v5 = .int .i64 x5_3 ∧ Aside0 (spileref08_Check.l2 kq l0 x5_3 = some r) ∧ Aside0 (kq ≤ k2) ∧ Drawn0 w w')
         case atStart => exact ⟨(0), (by first | rfl | (simp; done) | (simp [*]; done)), H', ⟨Nat.le_refl _⟩, by repeat (first | exact Drawn0.refl _ | apply Drawn0.step)⟩
         case round =>
          clear H'
          try clear c10b0
          obtain ⟨x5_3, rfl, HA, HK3, ⟨m3, rfl⟩⟩ := hrel
          cases gk with
          | zero => exact absurd HA.out (by simp [spileref08_Check.l2])
          | succ k3 =>
           have H := HA.out
           clear HA
           simp only [spileref08_Check.l2] at H
           by_cases c25 : x5_3 < (l0.length : Int)
           ·rw [if_pos c25] at H
            have c25b0 : decide (x5_3 < (l0.length : Int)) = true := decide_eq_true c25
            clear c25
            by_cases c26 : 0 ≤ x5_3
            ·rw [if_pos c26] at H
             have c26b0 : decide (0 ≤ x5_3) = true := decide_eq_true c26
             clear c26
             by_cases c27 : ((rd_T39 l0 x5_3).f1) = 0
             ·rw [if_pos c27] at H
              have c27b0 : (((rd_T39 l0 x5_3).f1) == 0) = true := beq_iff_eq.mpr c27
              have c27b1 : (((rd_T39 l0 x5_3).f1) != 0) = false := bne_eq_false_iff_eq.mpr c27
              clear c27
              obtain rfl := Option.some.inj H
              have p356 : 0 ≤ (x5_3 : Int) := of_decide_eq_true (by first | (with_reducible assumption) | assumption)
              have q356 : x5_3 < (l0.length : Int) := of_decide_eq_true (by first | (with_reducible assumption) | assumption)
              obtain ⟨ad356, e356, hx356_0, hx356_1⟩ := at_T39 HR0.out x5_3 p356 q356
              cases e356
              replace p356 := eq_true p356
              replace q356 := eq_true q356
              go_wp2
              repeat (go_quiet (fail); try go_wp2)
              go_ret
              exact ⟨by first | rfl | (simp; done) | (simp [*]; done), by repeat (first | exact Drawn0.refl _ | apply Drawn0.step)⟩
             ·rw [if_neg c27] at H
              have c27b0 : (((rd_T39 l0 x5_3).f1) == 0) = false := beq_eq_false_iff_ne.mpr c27
              have c27b1 : (((rd_T39 l0 x5_3).f1) != 0) = true := bne_iff_ne.mpr c27
              have H' := Aside0.mk H
              clear H
              have p356 : 0 ≤ (x5_3 : Int) := of_decide_eq_true (by first | (with_reducible assumption) | assumption)
              have q356 : x5_3 < (l0.length : Int) := of_decide_eq_true (by first | (with_reducible assumption) | assumption)
              obtain ⟨ad356, e356, hx356_0, hx356_1⟩ := at_T39 HR0.out x5_3 p356 q356
              cases e356
              replace p356 := eq_true p356
              replace q356 := eq_true q356
              go_wp2
              repeat (go_quiet (fail); try go_wp2)
              go_roundg k3
              case measure => have := HK1.out; have := HK2.out; have := HK3.out; omega
              case rel => exact ⟨(wrap64 (x5_3 + 1)), (by first | rfl | (simp; done) | (simp [*]; done)), H', ⟨by have := HK1.out; have := HK2.out; have := HK3.out; omega⟩, by repeat (first | exact Drawn0.refl _ | apply Drawn0.step)⟩
            ·rw [if_neg c26] at H
             exact absurd H (by simp)
           ·rw [if_neg c25] at H
            have c25b0 : decide (x5_3 < (l0.length : Int)) = false := decide_eq_false c25
            clear c25
            have H' := Aside0.mk H
            clear H
            go_wp2
            repeat (go_quiet (fail); try go_wp2)
            go_loopg [6, 7] k3 (fun kq v6 v7 w' => ∃ (x6_4 : Bool) (x7_4 : Int), v6 = .bool x6_4 ∧ v7 = .int .i64 x7_4 ∧ Aside0 (spileref08_Check.l3 kq l0 x6_4 x7_4 = some r) ∧ Aside0 (kq ≤ k3) ∧ Drawn0 w w')
            case atStart => exact ⟨(false), (1), (by first | rfl | (simp; done) | (simp [*]; done)), (by first | rfl | (simp; done) | (simp [*]; done)), H', ⟨Nat.le_refl _⟩, by repeat (first | exact Drawn0.refl _ | apply Drawn0.step)⟩
            case round =>
             clear H'
             try clear c25b0
             obtain ⟨x6_4, x7_4, rfl, rfl, HA, HK4, ⟨m4, rfl⟩⟩ := hrel
             cases gk with
             | zero => exact absurd HA.out (by simp [spileref08_Check.l3])
             | succ k4 =>
              have H := HA.out
              clear HA
              simp only [spileref08_Check.l3] at H
              by_cases c28 : x7_4 < (l0.length : Int)
              ·rw [if_pos c28] at H
               have c28b0 : decide (x7_4 < (l0.length : Int)) = true := decide_eq_true c28
               clear c28
               by_cases c29 : x6_4 = true
               ·subst c29
                rw [if_pos rfl] at H
                by_cases c30 : 0 ≤ x7_4
                ·rw [if_pos c30] at H
                 have c30b0 : decide (0 ≤ x7_4) = true := decide_eq_true c30
                 clear c30
                 obtain ⟨ji31, hji31⟩ : ∃ j_ : Int, (wrap64 (x7_4 - 1)) = j_ := ⟨_, rfl⟩
                 replace H : (if 0 ≤ (ji31) then (if (ji31) < (l0.length : Int) then (if ((rd_T39 l0 x7_4).f1) > ((rd_T39 l0 (ji31)).f1) then (some 10) else (spileref08_Check.l3 k4 l0 true (wrap64 (x7_4 + 1)))) else (none)) else (none)) = some r := by first | (rw [hji31] at H; exact H) | (simp only [hji31] at H ⊢; exact H)
                 have hji31w : (IntKind.i64.wrap (x7_4 - 1)) = ji31 := (i64_w _).trans hji31
                 by_cases c32 : 0 ≤ (ji31)
                 ·rw [if_pos c32] at H
                  have c32b0 : decide (0 ≤ (ji31)) = true := decide_eq_true c32
                  clear c32
                  by_cases c33 : (ji31) < (l0.length : Int)
                  ·rw [if_pos c33] at H
                   have c33b0 : decide ((ji31) < (l0.length : Int)) = true := decide_eq_true c33
                   clear c33
                   by_cases c34 : ((rd_T39 l0 x7_4).f1) > ((rd_T39 l0 (ji31)).f1)
                   ·rw [if_pos c34] at H
                    have c34b0 : decide (((rd_T39 l0 (ji31)).f1) < ((rd_T39 l0 x7_4).f1)) = true := decide_eq_true c34
                    clear c34
                    obtain rfl := Option.some.inj H
                    have p357 : 0 ≤ (x7_4 : Int) := of_decide_eq_true (by first | (with_reducible assumption) | assumption)
                    have q357 : x7_4 < (l0.length : Int) := of_decide_eq_true (by first | (with_reducible assumption) | assumption)
                    obtain ⟨ad357, e357, hx357_0, hx357_1⟩ := at_T39 HR0.out x7_4 p357 q357
                    cases e357
                    replace p357 := eq_true p357
                    replace q357 := eq_true q357
                    have p358 : 0 ≤ ((ji31) : Int) := of_decide_eq_true (by first | (with_reducible assumption) | assumption)
                    have q358 : (ji31) < (l0.length : Int) := of_decide_eq_true (by first | (with_reducible assumption) | assumption)
                    obtain ⟨ad358, e358, hx358_0, hx358_1⟩ := at_T39 HR0.out (ji31) p358 q358
                    obtain rfl : ad357 = ad358 := (by injection e358)
                    replace p358 := eq_true p358
                    replace q358 := eq_true q358
                    go_wp2
                    repeat (go_quiet (fail); try go_wp2)
                    go_ret
                    exact ⟨by first | rfl | (simp; done) | (simp only [← hji31] <;> (first | rfl | simp)) | (simp [*]; done), by repeat (first | exact Drawn0.refl _ | apply Drawn0.step)⟩
                   ·rw [if_neg c34] at H
                    have c34b0 : decide (((rd_T39 l0 (ji31)).f1) < ((rd_T39 l0 x7_4).f1)) = false := decide_eq_false c34
                    clear c34
                    have H' := Aside0.mk H
                    clear H
                    have p357 : 0 ≤ (x7_4 : Int) := of_decide_eq_true (by first | (with_reducible assumption) | assumption)
                    have q357 : x7_4 < (l0.length : Int) := of_decide_eq_true (by first | (with_reducible assumption) | assumption)
                    obtain ⟨ad357, e357, hx357_0, hx357_1⟩ := at_T39 HR0.out x7_4 p357 q357
                    cases e357
                    replace p357 := eq_true p357
                    replace q357 := eq_true q357
                    have p358 : 0 ≤ ((ji31) : Int) := of_decide_eq_true (by first | (with_reducible assumption) | assumption)
                    have q358 : (ji31) < (l0.length : Int) := of_decide_eq_true (by first | (with_reducible assumption) | assumption)
                    obtain ⟨ad358, e358, hx358_0, hx358_1⟩ := at_T39 HR0.out (ji31) p358 q358
                    obtain rfl : ad357 = ad358 := (by injection e358)
                    replace p358 := eq_true p358
                    replace q358 := eq_true q358
                    go_wp2
                    repeat (go_quiet (fail); try go_wp2)
                    go_roundg k4
                    case measure => have := HK1.out; have := HK2.out; have := HK3.out; have := HK4.out; omega
                    case rel => exact ⟨(true), (wrap64 (x7_4 + 1)), (by first | rfl | (simp; done) | (simp [*]; done)), (by first | rfl | (simp; done) | (simp [*]; done)), H', ⟨by have := HK1.out; have := HK2.out; have := HK3.out; have := HK4.out; omega⟩, by repeat (first | exact Drawn0.refl _ | apply Drawn0.step)⟩
                  ·rw [if_neg c33] at H
                   exact absurd H (by simp)
                 ·rw [if_neg c32] at H
                  exact absurd H (by simp)
                ·rw [if_neg c30] at H
                 exact absurd H (by simp)
               ·replace c29 := Bool.eq_false_iff.mpr c29
                subst c29
                rw [if_neg (show ¬ (false = true) by decide)] at H
                by_cases c35 : 0 ≤ x7_4
                ·rw [if_pos c35] at H
                 have c35b0 : decide (0 ≤ x7_4) = true := decide_eq_true c35
                 clear c35
                 obtain ⟨ji36, hji36⟩ : ∃ j_ : Int, (wrap64 (x7_4 - 1)) = j_ := ⟨_, rfl⟩
                 replace H : (if 0 ≤ (ji36) then (if (ji36) < (l0.length : Int) then (spileref08_Check.l3 k4 l0 (decide (((rd_T39 l0 x7_4).f1) < ((rd_T39 l0 (ji36)).f1))) (wrap64 (x7_4 + 1))) else (none)) else (none)) = some r := by first | (rw [hji36] at H; exact H) | (simp only [hji36] at H ⊢; exact H)
                 have hji36w : (IntKind.i64.wrap (x7_4 - 1)) = ji36 := (i64_w _).trans hji36
                 by_cases c37 : 0 ≤ (ji36)
                 ·rw [if_pos c37] at H
                  have c37b0 : decide (0 ≤ (ji36)) = true := decide_eq_true c37
                  clear c37
                  by_cases c38 : (ji36) < (l0.length : Int)
                  ·rw [if_pos c38] at H
                   have c38b0 : decide ((ji36) < (l0.length : Int)) = true := decide_eq_true c38
                   clear c38
                   have H' := Aside0.mk H
                   clear H
                   have p359 : 0 ≤ (x7_4 : Int) := of_decide_eq_true (by first | (with_reducible assumption) | assumption)
                   have q359 : x7_4 < (l0.length : Int) := of_decide_eq_true (by first | (with_reducible assumption) | assumption)
                   obtain ⟨ad359, e359, hx359_0, hx359_1⟩ := at_T39 HR0.out x7_4 p359 q359
                   cases e359
                   replace p359 := eq_true p359
                   replace q359 := eq_true q359
                   have p360 : 0 ≤ ((ji36) : Int) := of_decide_eq_true (by first | (with_reducible assumption) | assumption)
                   have q360 : (ji36) < (l0.length : Int) := of_decide_eq_true (by first | (with_reducible assumption) | assumption)
                   obtain ⟨ad360, e360, hx360_0, hx360_1⟩ := at_T39 HR0.out (ji36) p360 q360
                   obtain rfl : ad359 = ad360 := (by injection e360)
                   replace p360 := eq_true p360
                   replace q360 := eq_true q360
                   go_wp2
                   repeat (go_quiet (fail); try go_wp2)
                   go_roundg k4
                   case measure => have := HK1.out; have := HK2.out; have := HK3.out; have := HK4.out; omega
                   case rel => exact ⟨(decide (((rd_T39 l0 x7_4).f1) < ((rd_T39 l0 (ji36)).f1))), (wrap64 (x7_4 + 1)), (by first | rfl | (simp; done) | (simp only [← hji36] <;> (first | rfl | simp)) | (simp [*]; done)), (by first | rfl | (simp; done) | (simp [*]; done)), H', ⟨by have := HK1.out; have := HK2.out; have := HK3.out; have := HK4.out; omega⟩, by repeat (first | exact Drawn0.refl _ | apply Drawn0.step)⟩
                  ·rw [if_neg c38] at H
                   exact absurd H (by simp)
                 ·rw [if_neg c37] at H
                  exact absurd H (by simp)
                ·rw [if_neg c35] at H
                 exact absurd H (by simp)
              ·rw [if_neg c28] at H
               have c28b0 : decide (x7_4 < (l0.length : Int)) = false := decide_eq_false c28
               clear c28
               obtain rfl := Option.some.inj H
               go_wp2
               repeat (go_quiet (fail); try go_wp2)
               go_ret
               exact ⟨by first | rfl | (simp; done) | (simp [*]; done), by repeat (first | exact Drawn0.refl _ | apply Drawn0.step)⟩
end Go.Proofs.Ytefjmcljkmppoaa.K
