import Derived.Test.YtefjmcljkmppoaaK0
import Derived.Test.YtefjmcljkmppoaaGShort
import Derived.Test.YtefjmcljkmppoaaK11
namespace Go.Proofs.Ytefjmcljkmppoaa.K
open Go.RowKit Go.Proofs.YtefjmcljkmppoaaW.PrintWords Go.Proofs.YtefjmcljkmppoaaW.PrintLast Go.Proofs.YtefjmcljkmppoaaW.PrintMore
attribute [local go_sem] max2_int min2_int max_two min_two max_three min_three max_four min_four   -- for this text's walks alone
set_option linter.unusedVariables false
set_option linter.unusedSimpArgs false
mutual
def spileref09_IsName.l0 : Nat → ByteArray → Int → Option (Bool)
 | 0, _, _ => none
 | k + 1, x0, x3 => if x3 < (x0.size : Int) then (if 0 ≤ x3 then (if (bt x0 x3) ≥ 97 then (if (bt x0 x3) ≤ 122 then (spileref09_IsName.j1 k x0 x3 (!true)) else (if (bt x0 x3) ≥ 65 then (if (bt x0 x3) ≤ 90 then (spileref09_IsName.j1 k x0 x3 (!true)) else (if (bt x0 x3) ≥ 48 then (if (bt x0 x3) ≤ 57 then (spileref09_IsName.j1 k x0 x3 (!true)) else (if (bt x0 x3) = 45 then (spileref09_IsName.j1 k x0 x3 (!true)) else (spileref09_IsName.j1 k x0 x3 (!((bt x0 x3) == 46))))) else (if (bt x0 x3) = 45 then (spileref09_IsName.j1 k x0 x3 (!true)) else (spileref09_IsName.j1 k x0 x3 (!((bt x0 x3) == 46)))))) else (if (bt x0 x3) ≥ 48 then (if (bt x0 x3) ≤ 57 then (spileref09_IsName.j1 k x0 x3 (!true)) else (if (bt x0 x3) = 45 then (spileref09_IsName.j1 k x0 x3 (!true)) else (spileref09_IsName.j1 k x0 x3 (!((bt x0 x3) == 46))))) else (if (bt x0 x3) = 45 then (spileref09_IsName.j1 k x0 x3 (!true)) else (spileref09_IsName.j1 k x0 x3 (!((bt x0 x3) == 46))))))) else (if (bt x0 x3) ≥ 65 then (if (bt x0 x3) ≤ 90 then (spileref09_IsName.j1 k x0 x3 (!true)) else (if (bt x0 x3) ≥ 48 then (if (bt x0 x3) ≤ 57 then (spileref09_IsName.j1 k x0 x3 (!true)) else (if (bt x0 x3) = 45 then (spileref09_IsName.j1 k x0 x3 (!true)) else (spileref09_IsName.j1 k x0 x3 (!((bt x0 x3) == 46))))) else (if (bt x0 x3) = 45 then (spileref09_IsName.j1 k x0 x3 (!true)) else (spileref09_IsName.j1 k x0 x3 (!((bt x0 x3) == 46)))))) else (if (bt x0 x3) ≥ 48 then (if (bt x0 x3) ≤ 57 then (spileref09_IsName.j1 k x0 x3 (!true)) else (if (bt x0 x3) = 45 then (spileref09_IsName.j1 k x0 x3 (!true)) else (spileref09_IsName.j1 k x0 x3 (!((bt x0 x3) == 46))))) else (if (bt x0 x3) = 45 then (spileref09_IsName.j1 k x0 x3 (!true)) else (spileref09_IsName.j1 k x0 x3 (!((bt x0 x3) == 46))))))) else (none)) else (if (x0.size : Int) ≥ 1 then (some (decide ((x0.size : Int) ≤ 64))) else (some false))
def spileref09_IsName.j1 : Nat → ByteArray → Int → Bool → Option (Bool)
 | 0, _, _, _ => none
 | k + 1, x0, x3, x44 => if x44 = true then (some false) else (spileref09_IsName.l0 k x0 (wrap64 (x3 + 1)))
end
def spileref09_IsName.f (k : Nat) (a0 : ByteArray) : Option (Bool) := spileref09_IsName.l0 k a0 0
set_option maxHeartbeats 8000000 in
set_option maxRecDepth 100000 in
theorem spileref09_IsName.calls (k : Nat) (a0 : ByteArray) (r : Bool) (w : World) (h : spileref09_IsName.f k a0 = some r) :
  Calls Try.prog 97 #[.string a0] w fun e w' => e = .returned (.bool r) ∧ Drawn0 w w' := by
 have H : (spileref09_IsName.l0 k a0 0) = some r := h
 clear h
 have H' := Aside0.mk H
 clear H
 go_enter Try.func97, Try.ntmps97
 go_wp2
 go_loopg [3] k (fun kq v3 w' => ∃ (x3_1 : Int), v3 = .int .i64 x3_1 ∧ Aside0 (spileref09_IsName.l0 kq a0 x3_1 = some r) ∧ Aside0 (kq ≤ k) ∧ Drawn0 w w')
 case atStart => exact ⟨(0), (by first | rfl | (simp; done) | (simp [*]; done)), H', ⟨Nat.le_refl _⟩, by repeat (first | exact Drawn0.refl _ | apply Drawn0.step)⟩
 case round =>
  clear H'
  obtain ⟨x3_1, rfl, HA, HK1, ⟨m1, rfl⟩⟩ := hrel
  cases gk with
  | zero => exact absurd HA.out (by simp [spileref09_IsName.l0])
  | succ k1 =>
   have H := HA.out
   clear HA
   simp only [spileref09_IsName.l0] at H
   by_cases c2 : x3_1 < (a0.size : Int)
   ·rw [if_pos c2] at H
    have c2b0 : decide (x3_1 < (a0.size : Int)) = true := decide_eq_true c2
    clear c2
    by_cases c3 : 0 ≤ x3_1
    ·rw [if_pos c3] at H
     have c3b0 : decide (0 ≤ x3_1) = true := decide_eq_true c3
     clear c3
     have HC5 := Aside0.mk H
     clear H
     have p4 : 0 ≤ (x3_1 : Int) := of_decide_eq_true (by first | (with_reducible assumption) | assumption)
     have q4 : x3_1 < (a0.size : Int) := of_decide_eq_true (by first | (with_reducible assumption) | assumption)
     have hx4 := bt_at a0 x3_1
     replace p4 := eq_true p4
     replace q4 := eq_true q4
     go_upto_region 5 with (fail)
     go_cut [44] (fun v44 wc => ∃ (kq : Nat) (x44_4 : Bool), v44 = .bool x44_4 ∧ Aside0 (spileref09_IsName.j1 kq a0 x3_1 x44_4 = some r) ∧ Aside0 (kq ≤ k1) ∧ Drawn0 w wc)
     case first =>
      have H := HC5.out
      clear HC5
      by_cases c6 : (bt a0 x3_1) ≥ 97
      ·rw [if_pos c6] at H
       have c6b0 : decide (97 ≤ (bt a0 x3_1)) = true := decide_eq_true c6
       clear c6
       (first | rw [c6b0] | (simp only [i64_w, i32_w]; rw [c6b0]) | skip)
       by_cases c7 : (bt a0 x3_1) ≤ 122
       ·rw [if_pos c7] at H
        have c7b0 : decide ((bt a0 x3_1) ≤ 122) = true := decide_eq_true c7
        clear c7
        have H' := Aside0.mk H
        clear H
        go_wp2
        go_meet
        case rel => exact ⟨_, (!true), (by first | rfl | (simp; done) | (simp [*]; done)), H', ⟨by have := HK1.out; first | omega | exact Nat.le_refl _⟩, by repeat (first | exact Drawn0.refl _ | apply Drawn0.step)⟩
       ·rw [if_neg c7] at H
        have c7b0 : decide ((bt a0 x3_1) ≤ 122) = false := decide_eq_false c7
        clear c7
        by_cases c8 : (bt a0 x3_1) ≥ 65
        ·rw [if_pos c8] at H
         have c8b0 : decide (65 ≤ (bt a0 x3_1)) = true := decide_eq_true c8
         clear c8
         by_cases c9 : (bt a0 x3_1) ≤ 90
         ·rw [if_pos c9] at H
          have c9b0 : decide ((bt a0 x3_1) ≤ 90) = true := decide_eq_true c9
          clear c9
          have H' := Aside0.mk H
          clear H
          go_wp2
          go_meet
          case rel => exact ⟨_, (!true), (by first | rfl | (simp; done) | (simp [*]; done)), H', ⟨by have := HK1.out; first | omega | exact Nat.le_refl _⟩, by repeat (first | exact Drawn0.refl _ | apply Drawn0.step)⟩
         ·rw [if_neg c9] at H
          have c9b0 : decide ((bt a0 x3_1) ≤ 90) = false := decide_eq_false c9
          clear c9
          by_cases c10 : (bt a0 x3_1) ≥ 48
          ·rw [if_pos c10] at H
           have c10b0 : decide (48 ≤ (bt a0 x3_1)) = true := decide_eq_true c10
           clear c10
           by_cases c11 : (bt a0 x3_1) ≤ 57
           ·rw [if_pos c11] at H
            have c11b0 : decide ((bt a0 x3_1) ≤ 57) = true := decide_eq_true c11
            clear c11
            have H' := Aside0.mk H
            clear H
            go_wp2
            go_meet
            case rel => exact ⟨_, (!true), (by first | rfl | (simp; done) | (simp [*]; done)), H', ⟨by have := HK1.out; first | omega | exact Nat.le_refl _⟩, by repeat (first | exact Drawn0.refl _ | apply Drawn0.step)⟩
           ·rw [if_neg c11] at H
            have c11b0 : decide ((bt a0 x3_1) ≤ 57) = false := decide_eq_false c11
            clear c11
            by_cases c12 : (bt a0 x3_1) = 45
            ·rw [if_pos c12] at H
             have c12b0 : ((bt a0 x3_1) == 45) = true := beq_iff_eq.mpr c12
             have c12b1 : ((bt a0 x3_1) != 45) = false := bne_eq_false_iff_eq.mpr c12
             clear c12
             have H' := Aside0.mk H
             clear H
             go_wp2
             go_meet
             case rel => exact ⟨_, (!true), (by first | rfl | (simp; done) | (simp [*]; done)), H', ⟨by have := HK1.out; first | omega | exact Nat.le_refl _⟩, by repeat (first | exact Drawn0.refl _ | apply Drawn0.step)⟩
            ·rw [if_neg c12] at H
             have c12b0 : ((bt a0 x3_1) == 45) = false := beq_eq_false_iff_ne.mpr c12
             have c12b1 : ((bt a0 x3_1) != 45) = true := bne_iff_ne.mpr c12
             have H' := Aside0.mk H
             clear H
             go_wp2
             go_meet
             case rel => exact ⟨_, (!((bt a0 x3_1) == 46)), (by first | rfl | (simp; done) | (simp [*]; done)), H', ⟨by have := HK1.out; first | omega | exact Nat.le_refl _⟩, by repeat (first | exact Drawn0.refl _ | apply Drawn0.step)⟩
          ·rw [if_neg c10] at H
           have c10b0 : decide (48 ≤ (bt a0 x3_1)) = false := decide_eq_false c10
           clear c10
           by_cases c13 : (bt a0 x3_1) = 45
           ·rw [if_pos c13] at H
            have c13b0 : ((bt a0 x3_1) == 45) = true := beq_iff_eq.mpr c13
            have c13b1 : ((bt a0 x3_1) != 45) = false := bne_eq_false_iff_eq.mpr c13
            clear c13
            have H' := Aside0.mk H
            clear H
            go_wp2
            go_meet
            case rel => exact ⟨_, (!true), (by first | rfl | (simp; done) | (simp [*]; done)), H', ⟨by have := HK1.out; first | omega | exact Nat.le_refl _⟩, by repeat (first | exact Drawn0.refl _ | apply Drawn0.step)⟩
           ·rw [if_neg c13] at H
            have c13b0 : ((bt a0 x3_1) == 45) = false := beq_eq_false_iff_ne.mpr c13
            have c13b1 : ((bt a0 x3_1) != 45) = true := bne_iff_ne.mpr c13
            have H' := Aside0.mk H
            clear H
            go_wp2
            go_meet
            case rel => exact ⟨_, (!((bt a0 x3_1) == 46)), (by first | rfl | (simp; done) | (simp [*]; done)), H', ⟨by have := HK1.out; first | omega | exact Nat.le_refl _⟩, by repeat (first | exact Drawn0.refl _ | apply Drawn0.step)⟩
        ·rw [if_neg c8] at H
         have c8b0 : decide (65 ≤ (bt a0 x3_1)) = false := decide_eq_false c8
         clear c8
         by_cases c14 : (bt a0 x3_1) ≥ 48
         ·rw [if_pos c14] at H
          have c14b0 : decide (48 ≤ (bt a0 x3_1)) = true := decide_eq_true c14
          clear c14
          by_cases c15 : (bt a0 x3_1) ≤ 57
          ·rw [if_pos c15] at H
           have c15b0 : decide ((bt a0 x3_1) ≤ 57) = true := decide_eq_true c15
           clear c15
           have H' := Aside0.mk H
           clear H
           go_wp2
           go_meet
           case rel => exact ⟨_, (!true), (by first | rfl | (simp; done) | (simp [*]; done)), H', ⟨by have := HK1.out; first | omega | exact Nat.le_refl _⟩, by repeat (first | exact Drawn0.refl _ | apply Drawn0.step)⟩
          ·rw [if_neg c15] at H
           have c15b0 : decide ((bt a0 x3_1) ≤ 57) = false := decide_eq_false c15
           clear c15
           by_cases c16 : (bt a0 x3_1) = 45
           ·rw [if_pos c16] at H
            have c16b0 : ((bt a0 x3_1) == 45) = true := beq_iff_eq.mpr c16
            have c16b1 : ((bt a0 x3_1) != 45) = false := bne_eq_false_iff_eq.mpr c16
            clear c16
            have H' := Aside0.mk H
            clear H
            go_wp2
            go_meet
            case rel => exact ⟨_, (!true), (by first | rfl | (simp; done) | (simp [*]; done)), H', ⟨by have := HK1.out; first | omega | exact Nat.le_refl _⟩, by repeat (first | exact Drawn0.refl _ | apply Drawn0.step)⟩
           ·rw [if_neg c16] at H
            have c16b0 : ((bt a0 x3_1) == 45) = false := beq_eq_false_iff_ne.mpr c16
            have c16b1 : ((bt a0 x3_1) != 45) = true := bne_iff_ne.mpr c16
            have H' := Aside0.mk H
            clear H
            go_wp2
            go_meet
            case rel => exact ⟨_, (!((bt a0 x3_1) == 46)), (by first | rfl | (simp; done) | (simp [*]; done)), H', ⟨by have := HK1.out; first | omega | exact Nat.le_refl _⟩, by repeat (first | exact Drawn0.refl _ | apply Drawn0.step)⟩
         ·rw [if_neg c14] at H
          have c14b0 : decide (48 ≤ (bt a0 x3_1)) = false := decide_eq_false c14
          clear c14
          by_cases c17 : (bt a0 x3_1) = 45
          ·rw [if_pos c17] at H
           have c17b0 : ((bt a0 x3_1) == 45) = true := beq_iff_eq.mpr c17
           have c17b1 : ((bt a0 x3_1) != 45) = false := bne_eq_false_iff_eq.mpr c17
           clear c17
           have H' := Aside0.mk H
           clear H
           go_wp2
           go_meet
           case rel => exact ⟨_, (!true), (by first | rfl | (simp; done) | (simp [*]; done)), H', ⟨by have := HK1.out; first | omega | exact Nat.le_refl _⟩, by repeat (first | exact Drawn0.refl _ | apply Drawn0.step)⟩
          ·rw [if_neg c17] at H
           have c17b0 : ((bt a0 x3_1) == 45) = false := beq_eq_false_iff_ne.mpr c17
           have c17b1 : ((bt a0 x3_1) != 45) = true := bne_iff_ne.mpr c17
           have H' := Aside0.mk H
           clear H
           go_wp2
           go_meet
           case rel => exact ⟨_, (!((bt a0 x3_1) == 46)), (by first | rfl | (simp; done) | (simp [*]; done)), H', ⟨by have := HK1.out; first | omega | exact Nat.le_refl _⟩, by repeat (first | exact Drawn0.refl _ | apply Drawn0.step)⟩
      ·rw [if_neg c6] at H
       have c6b0 : decide (97 ≤ (bt a0 x3_1)) = false := decide_eq_false c6
       clear c6
       (first | rw [c6b0] | (simp only [i64_w, i32_w]; rw [c6b0]) | skip)
       by_cases c18 : (bt a0 x3_1) ≥ 65
       ·rw [if_pos c18] at H
        have c18b0 : decide (65 ≤ (bt a0 x3_1)) = true := decide_eq_true c18
        clear c18
        by_cases c19 : (bt a0 x3_1) ≤ 90
        ·rw [if_pos c19] at H
         have c19b0 : decide ((bt a0 x3_1) ≤ 90) = true := decide_eq_true c19
         clear c19
         have H' := Aside0.mk H
         clear H
         go_wp2
         go_meet
         case rel => exact ⟨_, (!true), (by first | rfl | (simp; done) | (simp [*]; done)), H', ⟨by have := HK1.out; first | omega | exact Nat.le_refl _⟩, by repeat (first | exact Drawn0.refl _ | apply Drawn0.step)⟩
        ·rw [if_neg c19] at H
         have c19b0 : decide ((bt a0 x3_1) ≤ 90) = false := decide_eq_false c19
         clear c19
         by_cases c20 : (bt a0 x3_1) ≥ 48
         ·rw [if_pos c20] at H
          have c20b0 : decide (48 ≤ (bt a0 x3_1)) = true := decide_eq_true c20
          clear c20
          by_cases c21 : (bt a0 x3_1) ≤ 57
          ·rw [if_pos c21] at H
           have c21b0 : decide ((bt a0 x3_1) ≤ 57) = true := decide_eq_true c21
           clear c21
           have H' := Aside0.mk H
           clear H
           go_wp2
           go_meet
           case rel => exact ⟨_, (!true), (by first | rfl | (simp; done) | (simp [*]; done)), H', ⟨by have := HK1.out; first | omega | exact Nat.le_refl _⟩, by repeat (first | exact Drawn0.refl _ | apply Drawn0.step)⟩
          ·rw [if_neg c21] at H
           have c21b0 : decide ((bt a0 x3_1) ≤ 57) = false := decide_eq_false c21
           clear c21
           by_cases c22 : (bt a0 x3_1) = 45
           ·rw [if_pos c22] at H
            have c22b0 : ((bt a0 x3_1) == 45) = true := beq_iff_eq.mpr c22
            have c22b1 : ((bt a0 x3_1) != 45) = false := bne_eq_false_iff_eq.mpr c22
            clear c22
            have H' := Aside0.mk H
            clear H
            go_wp2
            go_meet
            case rel => exact ⟨_, (!true), (by first | rfl | (simp; done) | (simp [*]; done)), H', ⟨by have := HK1.out; first | omega | exact Nat.le_refl _⟩, by repeat (first | exact Drawn0.refl _ | apply Drawn0.step)⟩
           ·rw [if_neg c22] at H
            have c22b0 : ((bt a0 x3_1) == 45) = false := beq_eq_false_iff_ne.mpr c22
            have c22b1 : ((bt a0 x3_1) != 45) = true := bne_iff_ne.mpr c22
            have H' := Aside0.mk H
            clear H
            go_wp2
            go_meet
            case rel => exact ⟨_, (!((bt a0 x3_1) == 46)), (by first | rfl | (simp; done) | (simp [*]; done)), H', ⟨by have := HK1.out; first | omega | exact Nat.le_refl _⟩, by repeat (first | exact Drawn0.refl _ | apply Drawn0.step)⟩
         ·rw [if_neg c20] at H
          have c20b0 : decide (48 ≤ (bt a0 x3_1)) = false := decide_eq_false c20
          clear c20
          by_cases c23 : (bt a0 x3_1) = 45
          ·rw [if_pos c23] at H
           have c23b0 : ((bt a0 x3_1) == 45) = true := beq_iff_eq.mpr c23
           have c23b1 : ((bt a0 x3_1) != 45) = false := bne_eq_false_iff_eq.mpr c23
           clear c23
           have H' := Aside0.mk H
           clear H
           go_wp2
           go_meet
           case rel => exact ⟨_, (!true), (by first | rfl | (simp; done) | (simp [*]; done)), H', ⟨by have := HK1.out; first | omega | exact Nat.le_refl _⟩, by repeat (first | exact Drawn0.refl _ | apply Drawn0.step)⟩
          ·rw [if_neg c23] at H
           have c23b0 : ((bt a0 x3_1) == 45) = false := beq_eq_false_iff_ne.mpr c23
           have c23b1 : ((bt a0 x3_1) != 45) = true := bne_iff_ne.mpr c23
           have H' := Aside0.mk H
           clear H
           go_wp2
           go_meet
           case rel => exact ⟨_, (!((bt a0 x3_1) == 46)), (by first | rfl | (simp; done) | (simp [*]; done)), H', ⟨by have := HK1.out; first | omega | exact Nat.le_refl _⟩, by repeat (first | exact Drawn0.refl _ | apply Drawn0.step)⟩
       ·rw [if_neg c18] at H
        have c18b0 : decide (65 ≤ (bt a0 x3_1)) = false := decide_eq_false c18
        clear c18
        by_cases c24 : (bt a0 x3_1) ≥ 48
        ·rw [if_pos c24] at H
         have c24b0 : decide (48 ≤ (bt a0 x3_1)) = true := decide_eq_true c24
         clear c24
         by_cases c25 : (bt a0 x3_1) ≤ 57
         ·rw [if_pos c25] at H
          have c25b0 : decide ((bt a0 x3_1) ≤ 57) = true := decide_eq_true c25
          clear c25
          have H' := Aside0.mk H
          clear H
          go_wp2
          go_meet
          case rel => exact ⟨_, (!true), (by first | rfl | (simp; done) | (simp [*]; done)), H', ⟨by have := HK1.out; first | omega | exact Nat.le_refl _⟩, by repeat (first | exact Drawn0.refl _ | apply Drawn0.step)⟩
         ·rw [if_neg c25] at H
          have c25b0 : decide ((bt a0 x3_1) ≤ 57) = false := decide_eq_false c25
          clear c25
          by_cases c26 : (bt a0 x3_1) = 45
          ·rw [if_pos c26] at H
           have c26b0 : ((bt a0 x3_1) == 45) = true := beq_iff_eq.mpr c26
           have c26b1 : ((bt a0 x3_1) != 45) = false := bne_eq_false_iff_eq.mpr c26
           clear c26
           have H' := Aside0.mk H
           clear H
           go_wp2
           go_meet
           case rel => exact ⟨_, (!true), (by first | rfl | (simp; done) | (simp [*]; done)), H', ⟨by have := HK1.out; first | omega | exact Nat.le_refl _⟩, by repeat (first | exact Drawn0.refl _ | apply Drawn0.step)⟩
          ·rw [if_neg c26] at H
           have c26b0 : ((bt a0 x3_1) == 45) = false := beq_eq_false_iff_ne.mpr c26
           have c26b1 : ((bt a0 x3_1) != 45) = true := bne_iff_ne.mpr c26
           have H' := Aside0.mk H
           clear H
           go_wp2
           go_meet
           case rel => exact ⟨_, (!((bt a0 x3_1) == 46)), (by first | rfl | (simp; done) | (simp [*]; done)), H', ⟨by have := HK1.out; first | omega | exact Nat.le_refl _⟩, by repeat (first | exact Drawn0.refl _ | apply Drawn0.step)⟩
        ·rw [if_neg c24] at H
         have c24b0 : decide (48 ≤ (bt a0 x3_1)) = false := decide_eq_false c24
         clear c24
         by_cases c27 : (bt a0 x3_1) = 45
         ·rw [if_pos c27] at H
          have c27b0 : ((bt a0 x3_1) == 45) = true := beq_iff_eq.mpr c27
          have c27b1 : ((bt a0 x3_1) != 45) = false := bne_eq_false_iff_eq.mpr c27
          clear c27
          have H' := Aside0.mk H
          clear H
          go_wp2
          go_meet
          case rel => exact ⟨_, (!true), (by first | rfl | (simp; done) | (simp [*]; done)), H', ⟨by have := HK1.out; first | omega | exact Nat.le_refl _⟩, by repeat (first | exact Drawn0.refl _ | apply Drawn0.step)⟩
         ·rw [if_neg c27] at H
          have c27b0 : ((bt a0 x3_1) == 45) = false := beq_eq_false_iff_ne.mpr c27
          have c27b1 : ((bt a0 x3_1) != 45) = true := bne_iff_ne.mpr c27
          have H' := Aside0.mk H
          clear H
          go_wp2
          go_meet
          case rel => exact ⟨_, (!((bt a0 x3_1) == 46)), (by first | rfl | (simp; done) | (simp [*]; done)), H', ⟨by have := HK1.out; first | omega | exact Nat.le_refl _⟩, by repeat (first | exact Drawn0.refl _ | apply Drawn0.step)⟩
     case rest =>
      clear HC5
      try clear c2b0
      try clear c3b0
      try clear p4
      try clear q4
      try clear hx4
      obtain ⟨kq, x44_4, rfl, HA, HJ4, ⟨mc4, rfl⟩⟩ := hcut
      cases kq with
      | zero => exact absurd HA.out (by simp [spileref09_IsName.j1])
      | succ kj4 =>
       have H := HA.out
       clear HA
       simp only [spileref09_IsName.j1] at H
       by_cases c28 : x44_4 = true
       ·subst c28
        rw [if_pos rfl] at H
        obtain rfl := Option.some.inj H
        go_wp2
        go_ret
        exact ⟨by first | rfl | (simp; done) | (simp [*]; done), by repeat (first | exact Drawn0.refl _ | apply Drawn0.step)⟩
       ·replace c28 := Bool.eq_false_iff.mpr c28
        subst c28
        rw [if_neg (show ¬ (false = true) by decide)] at H
        have H' := Aside0.mk H
        clear H
        go_wp2
        go_roundg kj4
        case measure => have := HK1.out; have := HJ4.out; omega
        case rel => exact ⟨(wrap64 (x3_1 + 1)), (by first | rfl | (simp; done) | (simp [*]; done)), H', ⟨by have := HK1.out; have := HJ4.out; omega⟩, by repeat (first | exact Drawn0.refl _ | apply Drawn0.step)⟩
    ·rw [if_neg c3] at H
     exact absurd H (by simp)
   ·rw [if_neg c2] at H
    have c2b0 : decide (x3_1 < (a0.size : Int)) = false := decide_eq_false c2
    clear c2
    by_cases c29 : (a0.size : Int) ≥ 1
    ·rw [if_pos c29] at H
     have c29b0 : decide (1 ≤ (a0.size : Int)) = true := decide_eq_true c29
     have c29b1 : decide (1 ≤ a0.size) = true := decide_eq_true (by omega)
     clear c29
     obtain rfl := Option.some.inj H
     go_wp2
     go_ret
     exact ⟨by first | rfl | (simp; done) | (simp [*]; done), by repeat (first | exact Drawn0.refl _ | apply Drawn0.step)⟩
    ·rw [if_neg c29] at H
     have c29b0 : decide (1 ≤ (a0.size : Int)) = false := decide_eq_false c29
     have c29b1 : decide (1 ≤ a0.size) = false := decide_eq_false (by omega)
     clear c29
     obtain rfl := Option.some.inj H
     go_wp2
     go_ret
     exact ⟨by first | rfl | (simp; done) | (simp [*]; done), by repeat (first | exact Drawn0.refl _ | apply Drawn0.step)⟩
def spileref09_Check.j0 : Nat → Bool → ByteArray → Int → List (S39) → Int → Option (Int)
 | 0, _, _, _, _, _ => none
 | k + 1, x24, x382000, x382001, x382002, x382003 => if x24 = true then (some 2) else ((spileref08_Check.f k x382002).bind fun t383 => (some t383))
def spileref09_Check.f (k : Nat) (a0_0 : ByteArray) (a0_1 : Int) (l0_2 : List (S39)) (a0_3 : Int) : Option (Int) := (spileref09_IsName.f k a0_0).bind fun t382 => (if t382 = true then (if a0_1 = 1 then (if a0_3 < 0 then (spileref09_Check.j0 k true a0_0 a0_1 l0_2 a0_3) else (spileref09_Check.j0 k (decide (a0_3 > 1073741824)) a0_0 a0_1 l0_2 a0_3)) else (if a0_1 = 2 then (if a0_3 < 0 then (spileref09_Check.j0 k true a0_0 a0_1 l0_2 a0_3) else (spileref09_Check.j0 k (decide (a0_3 > 1073741824)) a0_0 a0_1 l0_2 a0_3)) else (spileref09_Check.j0 k true a0_0 a0_1 l0_2 a0_3))) else (some 4))
set_option maxHeartbeats 8000000 in
set_option maxRecDepth 100000 in
theorem spileref09_Check.calls (k : Nat) (a0_0 : ByteArray) (a0_1 : Int) (A0_2 : Option Addr) (c0_2 : Nat) (l0_2 : List (S39)) (a0_3 : Int) (r : Int) (w : World) (hr0_2 : Kd.C k39 w A0_2 l0_2.length l0_2) (hc0_2 : l0_2.length ≤ c0_2) (h : spileref09_Check.f k a0_0 a0_1 l0_2 a0_3 = some r) :
  Calls Try.prog 82 #[.agg #[.string a0_0, .int .i64 a0_1, .slice A0_2 l0_2.length c0_2, .int .i64 a0_3]] w fun e w' => e = .returned (.int .i64 r) ∧ Below w.heap.size w w' := by
 have hu24 := Try.underlying24
 have HR0_2 := Aside0.mk hr0_2
 have HC0_2 := Aside0.mk hc0_2
 clear hr0_2 hc0_2
 have HB := Aside0.mk (Below.refl w.heap.size w)
 have H : ((spileref09_IsName.f k a0_0).bind fun t382 => (if t382 = true then (if a0_1 = 1 then (if a0_3 < 0 then (spileref09_Check.j0 k true a0_0 a0_1 l0_2 a0_3) else (spileref09_Check.j0 k (decide (a0_3 > 1073741824)) a0_0 a0_1 l0_2 a0_3)) else (if a0_1 = 2 then (if a0_3 < 0 then (spileref09_Check.j0 k true a0_0 a0_1 l0_2 a0_3) else (spileref09_Check.j0 k (decide (a0_3 > 1073741824)) a0_0 a0_1 l0_2 a0_3)) else (spileref09_Check.j0 k true a0_0 a0_1 l0_2 a0_3))) else (some 4))) = some r := h
 clear h
 replace H := Option.bind_eq_some_iff.mp H
 obtain ⟨t382, A20, H⟩ := H
 try (set_option simprocs false in dsimp only at H)
 have A2 := Aside0.mk A20
 clear A20
 by_cases c3 : t382 = true
 ·subst c3
  rw [if_pos rfl] at H
  have HC4 := Aside0.mk H
  clear H
  go_enter Try.func82, Try.ntmps82
  go_upto_region 3 with (first | ((with_reducible refine gqD (N := 1) rfl ?_); refine GS.bx (N := 1) (cs := #[.string a0_0, .int .i64 a0_1, .slice A0_2 l0_2.length c0_2, .int .i64 a0_3]) (t := 24) ?_; intro gb381 hg w5 hbox hb; have q_ := GS.q4 (GS.kH HB hb) (Aside0.mk hbox) (GS.kZ hg HB) (GS.kZ hg HB); clear HB; obtain ⟨HB, BK381, GW381, GE381⟩ := q_; clear hb hbox hg; obtain ⟨hcz6_0, hcz6_1, hcz6_2, hcz6_3, hfz6_0, hfz6_1, hfz6_2, hfz6_3⟩ := GS.c4 BK381.out) | ((with_reducible refine gqC (f := 97) rfl ?_); refine GS.gL (some 5) Try.func97 #[.string a0_0] ?_; (with_reducible refine (spileref09_IsName.calls k a0_0 true _ A2.out).mono ?_); rintro e w' ⟨rfl, ⟨nd, rfl⟩⟩; refine ⟨_, rfl, ?_⟩))
  (try simp only [Act.put, List.setIfInBounds_toArray, List.set_cons_zero, List.set_cons_succ])
  go_cut [24] (fun v24 wc => ∃ (kq : Nat) (x24_3 : Bool), v24 = .bool x24_3 ∧ Aside0 (spileref09_Check.j0 kq x24_3 a0_0 a0_1 l0_2 a0_3 = some r) ∧ Aside0 (kq ≤ k) ∧ Aside0 (wc.heap[gb381]? = some (.cells #[.string a0_0, .int .i64 a0_1, (.slice A0_2 l0_2.length c0_2), .int .i64 a0_3] 24 (0, 0))) ∧ Aside0 (Below w.heap.size w wc))
  case first =>
   have H := HC4.out
   clear HC4
   by_cases c7 : a0_1 = 1
   ·rw [if_pos c7] at H
    have c7b0 : (a0_1 == 1) = true := beq_iff_eq.mpr c7
    have c7b1 : (a0_1 != 1) = false := bne_eq_false_iff_eq.mpr c7
    clear c7
    (first | rw [c7b0] | (simp only [i64_w, i32_w]; rw [c7b0]) | skip)
    by_cases c8 : a0_3 < 0
    ·rw [if_pos c8] at H
     have c8b0 : decide (a0_3 < 0) = true := decide_eq_true c8
     clear c8
     have H' := Aside0.mk H
     clear H
     obtain ⟨hcz9_0, hcz9_1, hcz9_2, hcz9_3, hfz9_0, hfz9_1, hfz9_2, hfz9_3⟩ := GS.c4 BK381.out
     go_wp2
     go_meet
     case rel => exact ⟨_, (true), (by first | rfl | (simp; done) | (simp [*]; done)), H', ⟨by first | omega | exact Nat.le_refl _⟩, ⟨GS.bqX BK381.out⟩, ⟨GS.lB HB.out⟩⟩
    ·rw [if_neg c8] at H
     have c8b0 : decide (a0_3 < 0) = false := decide_eq_false c8
     clear c8
     have H' := Aside0.mk H
     clear H
     obtain ⟨hcz10_0, hcz10_1, hcz10_2, hcz10_3, hfz10_0, hfz10_1, hfz10_2, hfz10_3⟩ := GS.c4 BK381.out
     go_wp2
     go_meet
     case rel => exact ⟨_, (decide (a0_3 > 1073741824)), (by first | rfl | (simp; done) | (simp [*]; done)), H', ⟨by first | omega | exact Nat.le_refl _⟩, ⟨GS.bqX BK381.out⟩, ⟨GS.lB HB.out⟩⟩
   ·rw [if_neg c7] at H
    have c7b0 : (a0_1 == 1) = false := beq_eq_false_iff_ne.mpr c7
    have c7b1 : (a0_1 != 1) = true := bne_iff_ne.mpr c7
    (first | rw [c7b0] | (simp only [i64_w, i32_w]; rw [c7b0]) | skip)
    by_cases c11 : a0_1 = 2
    ·rw [if_pos c11] at H
     have c11b0 : (a0_1 == 2) = true := beq_iff_eq.mpr c11
     have c11b1 : (a0_1 != 2) = false := bne_eq_false_iff_eq.mpr c11
     clear c11
     by_cases c12 : a0_3 < 0
     ·rw [if_pos c12] at H
      have c12b0 : decide (a0_3 < 0) = true := decide_eq_true c12
      clear c12
      have H' := Aside0.mk H
      clear H
      obtain ⟨hcz13_0, hcz13_1, hcz13_2, hcz13_3, hfz13_0, hfz13_1, hfz13_2, hfz13_3⟩ := GS.c4 BK381.out
      go_wp2
      go_meet
      case rel => exact ⟨_, (true), (by first | rfl | (simp; done) | (simp [*]; done)), H', ⟨by first | omega | exact Nat.le_refl _⟩, ⟨GS.bqX BK381.out⟩, ⟨GS.lB HB.out⟩⟩
     ·rw [if_neg c12] at H
      have c12b0 : decide (a0_3 < 0) = false := decide_eq_false c12
      clear c12
      have H' := Aside0.mk H
      clear H
      obtain ⟨hcz14_0, hcz14_1, hcz14_2, hcz14_3, hfz14_0, hfz14_1, hfz14_2, hfz14_3⟩ := GS.c4 BK381.out
      go_wp2
      go_meet
      case rel => exact ⟨_, (decide (a0_3 > 1073741824)), (by first | rfl | (simp; done) | (simp [*]; done)), H', ⟨by first | omega | exact Nat.le_refl _⟩, ⟨GS.bqX BK381.out⟩, ⟨GS.lB HB.out⟩⟩
    ·rw [if_neg c11] at H
     have c11b0 : (a0_1 == 2) = false := beq_eq_false_iff_ne.mpr c11
     have c11b1 : (a0_1 != 2) = true := bne_iff_ne.mpr c11
     have H' := Aside0.mk H
     clear H
     obtain ⟨hcz15_0, hcz15_1, hcz15_2, hcz15_3, hfz15_0, hfz15_1, hfz15_2, hfz15_3⟩ := GS.c4 BK381.out
     go_wp2
     go_meet
     case rel => exact ⟨_, (true), (by first | rfl | (simp; done) | (simp [*]; done)), H', ⟨by first | omega | exact Nat.le_refl _⟩, ⟨GS.bqX BK381.out⟩, ⟨GS.lB HB.out⟩⟩
  case rest =>
   clear HC4
   try clear hcz6_0
   try clear hcz6_1
   try clear hcz6_2
   try clear hcz6_3
   try clear hfz6_0
   try clear hfz6_1
   try clear hfz6_2
   try clear hfz6_3
   obtain ⟨kq, x24_3, rfl, HA, HJ3, BK381, HB⟩ := hcut
   cases kq with
   | zero => exact absurd HA.out (by simp [spileref09_Check.j0])
   | succ kj3 =>
    have H := HA.out
    clear HA
    simp only [spileref09_Check.j0] at H
    by_cases c16 : x24_3 = true
    ·subst c16
     rw [if_pos rfl] at H
     obtain rfl := Option.some.inj H
     go_wp2
     go_ret
     exact ⟨by first | rfl | (simp [errW_none, errW_some] <;> rfl) | (simp [*, errW_none, errW_some] <;> rfl), GS.lB HB.out⟩
    ·replace c16 := Bool.eq_false_iff.mpr c16
     subst c16
     rw [if_neg (show ¬ (false = true) by decide)] at H
     replace H := Option.bind_eq_some_iff.mp H
     obtain ⟨t383, A170, H⟩ := H
     replace H : (some t383) = some r := H
     have A17 := Aside0.mk A170
     clear A170
     obtain rfl := Option.some.inj H
     obtain ⟨hcz18_0, hcz18_1, hcz18_2, hcz18_3, hfz18_0, hfz18_1, hfz18_2, hfz18_3⟩ := GS.c4 BK381.out
     go_wp2_with (first | ((with_reducible refine gqC (f := 30) rfl ?_); refine GS.gL (some 27) Try.func30 #[.slice A0_2 l0_2.length c0_2] ?_; (with_reducible refine (spileref08_Check.calls kj3 _ _ l0_2 t383 _ ?side1 ?side2 A17.out).mono ?_); (case side1 => exact GS.rC (Kd.C_below HR0_2.out HB.out)); (case side2 => exact HC0_2.out); rintro e w' ⟨rfl, ⟨nd, rfl⟩⟩; refine ⟨_, rfl, ?_⟩))
     go_ret
     exact ⟨by first | rfl | (simp [errW_none, errW_some] <;> rfl) | (simp [*, errW_none, errW_some] <;> rfl), GS.lB HB.out⟩
 ·replace c3 := Bool.eq_false_iff.mpr c3
  subst c3
  rw [if_neg (show ¬ (false = true) by decide)] at H
  obtain rfl := Option.some.inj H
  go_enter Try.func82, Try.ntmps82
  go_wp2_with (first | ((with_reducible refine gqD (N := 1) rfl ?_); refine GS.bx (N := 1) (cs := #[.string a0_0, .int .i64 a0_1, .slice A0_2 l0_2.length c0_2, .int .i64 a0_3]) (t := 24) ?_; intro gb381 hg w19 hbox hb; have q_ := GS.q4 (GS.kH HB hb) (Aside0.mk hbox) (GS.kZ hg HB) (GS.kZ hg HB); clear HB; obtain ⟨HB, BK381, GW381, GE381⟩ := q_; clear hb hbox hg; obtain ⟨hcz20_0, hcz20_1, hcz20_2, hcz20_3, hfz20_0, hfz20_1, hfz20_2, hfz20_3⟩ := GS.c4 BK381.out) | ((with_reducible refine gqC (f := 97) rfl ?_); refine GS.gL (some 5) Try.func97 #[.string a0_0] ?_; (with_reducible refine (spileref09_IsName.calls k a0_0 false _ A2.out).mono ?_); rintro e w' ⟨rfl, ⟨nd, rfl⟩⟩; refine ⟨_, rfl, ?_⟩))
  go_ret
  exact ⟨by first | rfl | (simp [errW_none, errW_some] <;> rfl) | (simp [*, errW_none, errW_some] <;> rfl), GS.lB HB.out⟩
def spileref11_is.f (k : Nat) (a0_0 : ByteArray) (a0_1 : Int) (l0_2 : List (S39)) (a0_3 : Int) : Option (Int) := (spileref09_Check.f k a0_0 a0_1 l0_2 a0_3).bind fun t385 => (if t385 = 0 then (if a0_1 = 1 then (some 0) else (some 10)) else (some 1))
set_option maxHeartbeats 8000000 in
set_option maxRecDepth 100000 in
theorem spileref11_is.calls (k : Nat) (a0_0 : ByteArray) (a0_1 : Int) (A0_2 : Option Addr) (c0_2 : Nat) (l0_2 : List (S39)) (a0_3 : Int) (r : Int) (w : World) (hr0_2 : Kd.C k39 w A0_2 l0_2.length l0_2) (hc0_2 : l0_2.length ≤ c0_2) (h : spileref11_is.f k a0_0 a0_1 l0_2 a0_3 = some r) :
  Calls Try.prog 54 #[.agg #[.string a0_0, .int .i64 a0_1, .slice A0_2 l0_2.length c0_2, .int .i64 a0_3]] w fun e w' => e = .returned (.int .i64 r) ∧ Below w.heap.size w w' := by
 have hu24 := Try.underlying24
 have HR0_2 := Aside0.mk hr0_2
 have HC0_2 := Aside0.mk hc0_2
 clear hr0_2 hc0_2
 have HB := Aside0.mk (Below.refl w.heap.size w)
 have H : ((spileref09_Check.f k a0_0 a0_1 l0_2 a0_3).bind fun t385 => (if t385 = 0 then (if a0_1 = 1 then (some 0) else (some 10)) else (some 1))) = some r := h
 clear h
 replace H := Option.bind_eq_some_iff.mp H
 obtain ⟨t385, A20, H⟩ := H
 try (set_option simprocs false in dsimp only at H)
 have A2 := Aside0.mk A20
 clear A20
 by_cases c3 : t385 = 0
 ·rw [if_pos c3] at H
  have c3b0 : (t385 == 0) = true := beq_iff_eq.mpr c3
  have c3b1 : (t385 != 0) = false := bne_eq_false_iff_eq.mpr c3
  clear c3
  by_cases c4 : a0_1 = 1
  ·rw [if_pos c4] at H
   have c4b0 : (a0_1 == 1) = true := beq_iff_eq.mpr c4
   have c4b1 : (a0_1 != 1) = false := bne_eq_false_iff_eq.mpr c4
   clear c4
   obtain rfl := Option.some.inj H
   go_enter Try.func54, Try.ntmps54
   go_wp2_with (first | ((with_reducible refine gqD (N := 1) rfl ?_); refine GS.bx (N := 1) (cs := #[.string a0_0, .int .i64 a0_1, .slice A0_2 l0_2.length c0_2, .int .i64 a0_3]) (t := 24) ?_; intro gb384 hg w5 hbox hb; have q_ := GS.q4 (GS.kH HB hb) (Aside0.mk hbox) (GS.kZ hg HB) (GS.kZ hg HB); clear HB; obtain ⟨HB, BK384, GW384, GE384⟩ := q_; clear hb hbox hg; obtain ⟨hcz6_0, hcz6_1, hcz6_2, hcz6_3, hfz6_0, hfz6_1, hfz6_2, hfz6_3⟩ := GS.c4 BK384.out) | ((with_reducible refine gqC (f := 82) rfl ?_); refine GS.gL (some 4) Try.func82 #[.agg #[.string a0_0, .int .i64 a0_1, .slice A0_2 l0_2.length c0_2, .int .i64 a0_3]] ?_; (with_reducible refine (spileref09_Check.calls k a0_0 a0_1 _ _ l0_2 a0_3 t385 _ ?side1 ?side2 A2.out).mono ?_); (case side1 => exact GS.rC (Kd.C_below HR0_2.out HB.out)); (case side2 => exact HC0_2.out); rintro e w7 ⟨rfl, hb⟩; refine ⟨_, rfl, ?_⟩; have q_ := GS.q2 (GS.kB BK384 hb) (GS.kH HB hb); clear BK384 HB; obtain ⟨BK384, HB⟩ := q_; (try clear hb); (try clear hb2); (try clear hk); (try clear hi); obtain ⟨hcz8_0, hcz8_1, hcz8_2, hcz8_3, hfz8_0, hfz8_1, hfz8_2, hfz8_3⟩ := GS.c4 BK384.out))
   go_ret
   exact ⟨by first | rfl | (simp [errW_none, errW_some] <;> rfl) | (simp [*, errW_none, errW_some] <;> rfl), GS.lB HB.out⟩
  ·rw [if_neg c4] at H
   have c4b0 : (a0_1 == 1) = false := beq_eq_false_iff_ne.mpr c4
   have c4b1 : (a0_1 != 1) = true := bne_iff_ne.mpr c4
   obtain rfl := Option.some.inj H
   go_enter Try.func54, Try.ntmps54
   go_wp2_with (first | ((with_reducible refine gqD (N := 1) rfl ?_); refine GS.bx (N := 1) (cs := #[.string a0_0, .int .i64 a0_1, .slice A0_2 l0_2.length c0_2, .int .i64 a0_3]) (t := 24) ?_; intro gb384 hg w9 hbox hb; have q_ := GS.q4 (GS.kH HB hb) (Aside0.mk hbox) (GS.kZ hg HB) (GS.kZ hg HB); clear HB; obtain ⟨HB, BK384, GW384, GE384⟩ := q_; clear hb hbox hg; obtain ⟨hcz10_0, hcz10_1, hcz10_2, hcz10_3, hfz10_0, hfz10_1, hfz10_2, hfz10_3⟩ := GS.c4 BK384.out) | ((with_reducible refine gqC (f := 82) rfl ?_); refine GS.gL (some 4) Try.func82 #[.agg #[.string a0_0, .int .i64 a0_1, .slice A0_2 l0_2.length c0_2, .int .i64 a0_3]] ?_; (with_reducible refine (spileref09_Check.calls k a0_0 a0_1 _ _ l0_2 a0_3 t385 _ ?side1 ?side2 A2.out).mono ?_); (case side1 => exact GS.rC (Kd.C_below HR0_2.out HB.out)); (case side2 => exact HC0_2.out); rintro e w11 ⟨rfl, hb⟩; refine ⟨_, rfl, ?_⟩; have q_ := GS.q2 (GS.kB BK384 hb) (GS.kH HB hb); clear BK384 HB; obtain ⟨BK384, HB⟩ := q_; (try clear hb); (try clear hb2); (try clear hk); (try clear hi); obtain ⟨hcz12_0, hcz12_1, hcz12_2, hcz12_3, hfz12_0, hfz12_1, hfz12_2, hfz12_3⟩ := GS.c4 BK384.out))
   go_ret
   exact ⟨by first | rfl | (simp [errW_none, errW_some] <;> rfl) | (simp [*, errW_none, errW_some] <;> rfl), GS.lB HB.out⟩
 ·rw [if_neg c3] at H
  have c3b0 : (t385 == 0) = false := beq_eq_false_iff_ne.mpr c3
  have c3b1 : (t385 != 0) = true := bne_iff_ne.mpr c3
  obtain rfl := Option.some.inj H
  go_enter Try.func54, Try.ntmps54
  go_wp2_with (first | ((with_reducible refine gqD (N := 1) rfl ?_); refine GS.bx (N := 1) (cs := #[.string a0_0, .int .i64 a0_1, .slice A0_2 l0_2.length c0_2, .int .i64 a0_3]) (t := 24) ?_; intro gb384 hg w13 hbox hb; have q_ := GS.q4 (GS.kH HB hb) (Aside0.mk hbox) (GS.kZ hg HB) (GS.kZ hg HB); clear HB; obtain ⟨HB, BK384, GW384, GE384⟩ := q_; clear hb hbox hg; obtain ⟨hcz14_0, hcz14_1, hcz14_2, hcz14_3, hfz14_0, hfz14_1, hfz14_2, hfz14_3⟩ := GS.c4 BK384.out) | ((with_reducible refine gqC (f := 82) rfl ?_); refine GS.gL (some 4) Try.func82 #[.agg #[.string a0_0, .int .i64 a0_1, .slice A0_2 l0_2.length c0_2, .int .i64 a0_3]] ?_; (with_reducible refine (spileref09_Check.calls k a0_0 a0_1 _ _ l0_2 a0_3 t385 _ ?side1 ?side2 A2.out).mono ?_); (case side1 => exact GS.rC (Kd.C_below HR0_2.out HB.out)); (case side2 => exact HC0_2.out); rintro e w15 ⟨rfl, hb⟩; refine ⟨_, rfl, ?_⟩; have q_ := GS.q2 (GS.kB BK384 hb) (GS.kH HB hb); clear BK384 HB; obtain ⟨BK384, HB⟩ := q_; (try clear hb); (try clear hb2); (try clear hk); (try clear hi)))
  go_ret
  exact ⟨by first | rfl | (simp [errW_none, errW_some] <;> rfl) | (simp [*, errW_none, errW_some] <;> rfl), GS.lB HB.out⟩
end Go.Proofs.Ytefjmcljkmppoaa.K
