import Derived.Test.YtefjmcljkmppoaaK0
import Derived.Test.YtefjmcljkmppoaaGShort
import Derived.Test.YtefjmcljkmppoaaGAt
namespace Go.Proofs.Ytefjmcljkmppoaa.K
open Go.RowKit Go.Proofs.YtefjmcljkmppoaaW.PrintWords Go.Proofs.YtefjmcljkmppoaaW.PrintLast Go.Proofs.YtefjmcljkmppoaaW.PrintMore
attribute [local go_sem] max2_int min2_int max_two min_two max_three min_three max_four min_four   -- for this text's walks alone
set_option linter.unusedVariables false
set_option linter.unusedSimpArgs false
mutual
def cask_named.j0 : Nat → ByteArray → Bool → Option (Bool)
 | 0, _, _ => none
 | k + 1, x0, x12 => if x12 = true then (some false) else (cask_named.l0 k x0 (x0.size : Int) 0)
def cask_named.l0 : Nat → ByteArray → Int → Int → Option (Bool)
 | 0, _, _, _ => none
 | k + 1, x0, x14, x15 => if x15 < x14 then (if 0 ≤ x15 then (if x15 < (x0.size : Int) then (if (bt x0 x15) ≥ 97 then (if (bt x0 x15) ≤ 122 then (cask_named.j2 k x0 x14 x15 (!true)) else (if (bt x0 x15) ≥ 65 then (if (bt x0 x15) ≤ 90 then (cask_named.j2 k x0 x14 x15 (!true)) else (if (bt x0 x15) ≥ 48 then (if (bt x0 x15) ≤ 57 then (cask_named.j2 k x0 x14 x15 (!true)) else (if (bt x0 x15) = 45 then (cask_named.j2 k x0 x14 x15 (!true)) else (cask_named.j2 k x0 x14 x15 (!((bt x0 x15) == 46))))) else (if (bt x0 x15) = 45 then (cask_named.j2 k x0 x14 x15 (!true)) else (cask_named.j2 k x0 x14 x15 (!((bt x0 x15) == 46)))))) else (if (bt x0 x15) ≥ 48 then (if (bt x0 x15) ≤ 57 then (cask_named.j2 k x0 x14 x15 (!true)) else (if (bt x0 x15) = 45 then (cask_named.j2 k x0 x14 x15 (!true)) else (cask_named.j2 k x0 x14 x15 (!((bt x0 x15) == 46))))) else (if (bt x0 x15) = 45 then (cask_named.j2 k x0 x14 x15 (!true)) else (cask_named.j2 k x0 x14 x15 (!((bt x0 x15) == 46))))))) else (if (bt x0 x15) ≥ 65 then (if (bt x0 x15) ≤ 90 then (cask_named.j2 k x0 x14 x15 (!true)) else (if (bt x0 x15) ≥ 48 then (if (bt x0 x15) ≤ 57 then (cask_named.j2 k x0 x14 x15 (!true)) else (if (bt x0 x15) = 45 then (cask_named.j2 k x0 x14 x15 (!true)) else (cask_named.j2 k x0 x14 x15 (!((bt x0 x15) == 46))))) else (if (bt x0 x15) = 45 then (cask_named.j2 k x0 x14 x15 (!true)) else (cask_named.j2 k x0 x14 x15 (!((bt x0 x15) == 46)))))) else (if (bt x0 x15) ≥ 48 then (if (bt x0 x15) ≤ 57 then (cask_named.j2 k x0 x14 x15 (!true)) else (if (bt x0 x15) = 45 then (cask_named.j2 k x0 x14 x15 (!true)) else (cask_named.j2 k x0 x14 x15 (!((bt x0 x15) == 46))))) else (if (bt x0 x15) = 45 then (cask_named.j2 k x0 x14 x15 (!true)) else (cask_named.j2 k x0 x14 x15 (!((bt x0 x15) == 46))))))) else (none)) else (none)) else (some true)
def cask_named.j2 : Nat → ByteArray → Int → Int → Bool → Option (Bool)
 | 0, _, _, _, _ => none
 | k + 1, x0, x14, x15, x51 => if x51 = true then (some false) else (cask_named.l0 k x0 x14 (wrap64 (x15 + 1)))
end
def cask_named.f (k : Nat) (a0 : ByteArray) : Option (Bool) := if (a0.size : Int) < 1 then (cask_named.j0 k a0 true) else (cask_named.j0 k a0 (decide ((a0.size : Int) > 64)))
set_option maxHeartbeats 8000000 in
set_option maxRecDepth 100000 in
theorem cask_named.calls (k : Nat) (a0 : ByteArray) (r : Bool) (w : World) (h : cask_named.f k a0 = some r) :
  Calls Try.prog 96 #[.string a0] w fun e w' => e = .returned (.bool r) ∧ Drawn0 w w' := by
 have H : (if (a0.size : Int) < 1 then (cask_named.j0 k a0 true) else (cask_named.j0 k a0 (decide ((a0.size : Int) > 64)))) = some r := h
 clear h
 have HC2 := Aside0.mk H
 clear H
 go_enter Try.func96, Try.ntmps96
 go_upto_region 1 with (fail)
 go_cut [12] (fun v12 wc => ∃ (kq : Nat) (x12_1 : Bool), v12 = .bool x12_1 ∧ Aside0 (cask_named.j0 kq a0 x12_1 = some r) ∧ Aside0 (kq ≤ k) ∧ Drawn0 w wc)
 case first =>
  have H := HC2.out
  clear HC2
  by_cases c3 : (a0.size : Int) < 1
  ·rw [if_pos c3] at H
   have c3b0 : decide ((a0.size : Int) < 1) = true := decide_eq_true c3
   have c3b1 : decide (a0.size < 1) = true := decide_eq_true (by omega)
   clear c3
   (first | rw [c3b0] | (simp only [i64_w, i32_w]; rw [c3b0]) | skip)
   have H' := Aside0.mk H
   clear H
   go_wp2
   go_meet
   case rel => exact ⟨_, (true), (by first | rfl | (simp; done) | (simp [*]; done)), H', ⟨by first | omega | exact Nat.le_refl _⟩, by repeat (first | exact Drawn0.refl _ | apply Drawn0.step)⟩
  ·rw [if_neg c3] at H
   have c3b0 : decide ((a0.size : Int) < 1) = false := decide_eq_false c3
   have c3b1 : decide (a0.size < 1) = false := decide_eq_false (by omega)
   clear c3
   (first | rw [c3b0] | (simp only [i64_w, i32_w]; rw [c3b0]) | skip)
   have H' := Aside0.mk H
   clear H
   go_wp2
   go_meet
   case rel => exact ⟨_, (decide ((a0.size : Int) > 64)), (by first | rfl | (simp; done) | (simp [*]; done)), H', ⟨by first | omega | exact Nat.le_refl _⟩, by repeat (first | exact Drawn0.refl _ | apply Drawn0.step)⟩
 case rest =>
  clear HC2
  obtain ⟨kq, x12_1, rfl, HA, HJ1, ⟨mc1, rfl⟩⟩ := hcut
  cases kq with
  | zero => exact absurd HA.out (by simp [cask_named.j0])
  | succ kj1 =>
   have H := HA.out
   clear HA
   simp only [cask_named.j0] at H
   by_cases c4 : x12_1 = true
   ·subst c4
    rw [if_pos rfl] at H
    obtain rfl := Option.some.inj H
    go_wp2
    go_ret
    exact ⟨by first | rfl | (simp; done) | (simp [*]; done), by repeat (first | exact Drawn0.refl _ | apply Drawn0.step)⟩
   ·replace c4 := Bool.eq_false_iff.mpr c4
    subst c4
    rw [if_neg (show ¬ (false = true) by decide)] at H
    have H' := Aside0.mk H
    clear H
    go_wp2
    go_loopg [15] kj1 (fun kq v15 w' => ∃ (x15_2 : Int), v15 = .int .i64 x15_2 ∧ Aside0 (cask_named.l0 kq a0 (a0.size : Int) x15_2 = some r) ∧ Aside0 (kq ≤ kj1) ∧ Drawn0 w w')
    case atStart => exact ⟨(0), (by first | rfl | (simp; done) | (simp [*]; done)), H', ⟨Nat.le_refl _⟩, by repeat (first | exact Drawn0.refl _ | apply Drawn0.step)⟩
    case round =>
     clear H'
     obtain ⟨x15_2, rfl, HA, HK2, ⟨m2, rfl⟩⟩ := hrel
     cases gk with
     | zero => exact absurd HA.out (by simp [cask_named.l0])
     | succ k2 =>
      have H := HA.out
      clear HA
      simp only [cask_named.l0] at H
      by_cases c5 : x15_2 < (a0.size : Int)
      ·rw [if_pos c5] at H
       have c5b0 : decide (x15_2 < (a0.size : Int)) = true := decide_eq_true c5
       clear c5
       by_cases c6 : 0 ≤ x15_2
       ·rw [if_pos c6] at H
        have c6b0 : decide (0 ≤ x15_2) = true := decide_eq_true c6
        clear c6
        by_cases c7 : x15_2 < (a0.size : Int)
        ·rw [if_pos c7] at H
         have c7b0 : decide (x15_2 < (a0.size : Int)) = true := decide_eq_true c7
         clear c7
         have HC9 := Aside0.mk H
         clear H
         have p8 : 0 ≤ (x15_2 : Int) := of_decide_eq_true (by first | (with_reducible assumption) | assumption)
         have q8 : x15_2 < (a0.size : Int) := of_decide_eq_true (by first | (with_reducible assumption) | assumption)
         have hx8 := bt_at a0 x15_2
         replace p8 := eq_true p8
         replace q8 := eq_true q8
         go_upto_region 7 with (fail)
         go_cut [51] (fun v51 wc => ∃ (kq : Nat) (x51_8 : Bool), v51 = .bool x51_8 ∧ Aside0 (cask_named.j2 kq a0 (a0.size : Int) x15_2 x51_8 = some r) ∧ Aside0 (kq ≤ k2) ∧ Drawn0 w wc)
         case first =>
          have H := HC9.out
          clear HC9
          by_cases c10 : (bt a0 x15_2) ≥ 97
          ·rw [if_pos c10] at H
           have c10b0 : decide (97 ≤ (bt a0 x15_2)) = true := decide_eq_true c10
           clear c10
           (first | rw [c10b0] | (simp only [i64_w, i32_w]; rw [c10b0]) | skip)
           by_cases c11 : (bt a0 x15_2) ≤ 122
           ·rw [if_pos c11] at H
            have c11b0 : decide ((bt a0 x15_2) ≤ 122) = true := decide_eq_true c11
            clear c11
            have H' := Aside0.mk H
            clear H
            go_wp2
            go_meet
            case rel => exact ⟨_, (!true), (by first | rfl | (simp; done) | (simp [*]; done)), H', ⟨by have := HJ1.out; have := HK2.out; first | omega | exact Nat.le_refl _⟩, by repeat (first | exact Drawn0.refl _ | apply Drawn0.step)⟩
           ·rw [if_neg c11] at H
            have c11b0 : decide ((bt a0 x15_2) ≤ 122) = false := decide_eq_false c11
            clear c11
            by_cases c12 : (bt a0 x15_2) ≥ 65
            ·rw [if_pos c12] at H
             have c12b0 : decide (65 ≤ (bt a0 x15_2)) = true := decide_eq_true c12
             clear c12
             by_cases c13 : (bt a0 x15_2) ≤ 90
             ·rw [if_pos c13] at H
              have c13b0 : decide ((bt a0 x15_2) ≤ 90) = true := decide_eq_true c13
              clear c13
              have H' := Aside0.mk H
              clear H
              go_wp2
              go_meet
              case rel => exact ⟨_, (!true), (by first | rfl | (simp; done) | (simp [*]; done)), H', ⟨by have := HJ1.out; have := HK2.out; first | omega | exact Nat.le_refl _⟩, by repeat (first | exact Drawn0.refl _ | apply Drawn0.step)⟩
             ·rw [if_neg c13] at H
              have c13b0 : decide ((bt a0 x15_2) ≤ 90) = false := decide_eq_false c13
              clear c13
              by_cases c14 : (bt a0 x15_2) ≥ 48
              ·rw [if_pos c14] at H
               have c14b0 : decide (48 ≤ (bt a0 x15_2)) = true := decide_eq_true c14
               clear c14
               by_cases c15 : (bt a0 x15_2) ≤ 57
               ·rw [if_pos c15] at H
                have c15b0 : decide ((bt a0 x15_2) ≤ 57) = true := decide_eq_true c15
                clear c15
                have H' := Aside0.mk H
                clear H
                go_wp2
                go_meet
                case rel => exact ⟨_, (!true), (by first | rfl | (simp; done) | (simp [*]; done)), H', ⟨by have := HJ1.out; have := HK2.out; first | omega | exact Nat.le_refl _⟩, by repeat (first | exact Drawn0.refl _ | apply Drawn0.step)⟩
               ·rw [if_neg c15] at H
                have c15b0 : decide ((bt a0 x15_2) ≤ 57) = false := decide_eq_false c15
                clear c15
                by_cases c16 : (bt a0 x15_2) = 45
                ·rw [if_pos c16] at H
                 have c16b0 : ((bt a0 x15_2) == 45) = true := beq_iff_eq.mpr c16
                 have c16b1 : ((bt a0 x15_2) != 45) = false := bne_eq_false_iff_eq.mpr c16
                 clear c16
                 have H' := Aside0.mk H
                 clear H
                 go_wp2
                 go_meet
                 case rel => exact ⟨_, (!true), (by first | rfl | (simp; done) | (simp [*]; done)), H', ⟨by have := HJ1.out; have := HK2.out; first | omega | exact Nat.le_refl _⟩, by repeat (first | exact Drawn0.refl _ | apply Drawn0.step)⟩
                ·rw [if_neg c16] at H
                 have c16b0 : ((bt a0 x15_2) == 45) = false := beq_eq_false_iff_ne.mpr c16
                 have c16b1 : ((bt a0 x15_2) != 45) = true := bne_iff_ne.mpr c16
                 have H' := Aside0.mk H
                 clear H
                 go_wp2
                 go_meet
                 case rel => exact ⟨_, (!((bt a0 x15_2) == 46)), (by first | rfl | (simp; done) | (simp [*]; done)), H', ⟨by have := HJ1.out; have := HK2.out; first | omega | exact Nat.le_refl _⟩, by repeat (first | exact Drawn0.refl _ | apply Drawn0.step)⟩
              ·rw [if_neg c14] at H
               have c14b0 : decide (48 ≤ (bt a0 x15_2)) = false := decide_eq_false c14
               clear c14
               by_cases c17 : (bt a0 x15_2) = 45
               ·rw [if_pos c17] at H
                have c17b0 : ((bt a0 x15_2) == 45) = true := beq_iff_eq.mpr c17
                have c17b1 : ((bt a0 x15_2) != 45) = false := bne_eq_false_iff_eq.mpr c17
                clear c17
                have H' := Aside0.mk H
                clear H
                go_wp2
                go_meet
                case rel => exact ⟨_, (!true), (by first | rfl | (simp; done) | (simp [*]; done)), H', ⟨by have := HJ1.out; have := HK2.out; first | omega | exact Nat.le_refl _⟩, by repeat (first | exact Drawn0.refl _ | apply Drawn0.step)⟩
               ·rw [if_neg c17] at H
                have c17b0 : ((bt a0 x15_2) == 45) = false := beq_eq_false_iff_ne.mpr c17
                have c17b1 : ((bt a0 x15_2) != 45) = true := bne_iff_ne.mpr c17
                have H' := Aside0.mk H
                clear H
                go_wp2
                go_meet
                case rel => exact ⟨_, (!((bt a0 x15_2) == 46)), (by first | rfl | (simp; done) | (simp [*]; done)), H', ⟨by have := HJ1.out; have := HK2.out; first | omega | exact Nat.le_refl _⟩, by repeat (first | exact Drawn0.refl _ | apply Drawn0.step)⟩
            ·rw [if_neg c12] at H
             have c12b0 : decide (65 ≤ (bt a0 x15_2)) = false := decide_eq_false c12
             clear c12
             by_cases c18 : (bt a0 x15_2) ≥ 48
             ·rw [if_pos c18] at H
              have c18b0 : decide (48 ≤ (bt a0 x15_2)) = true := decide_eq_true c18
              clear c18
              by_cases c19 : (bt a0 x15_2) ≤ 57
              ·rw [if_pos c19] at H
               have c19b0 : decide ((bt a0 x15_2) ≤ 57) = true := decide_eq_true c19
               clear c19
               have H' := Aside0.mk H
               clear H
               go_wp2
               go_meet
               case rel => exact ⟨_, (!true), (by first | rfl | (simp; done) | (simp [*]; done)), H', ⟨by have := HJ1.out; have := HK2.out; first | omega | exact Nat.le_refl _⟩, by repeat (first | exact Drawn0.refl _ | apply Drawn0.step)⟩
              ·rw [if_neg c19] at H
               have c19b0 : decide ((bt a0 x15_2) ≤ 57) = false := decide_eq_false c19
               clear c19
               by_cases c20 : (bt a0 x15_2) = 45
               ·rw [if_pos c20] at H
                have c20b0 : ((bt a0 x15_2) == 45) = true := beq_iff_eq.mpr c20
                have c20b1 : ((bt a0 x15_2) != 45) = false := bne_eq_false_iff_eq.mpr c20
                clear c20
                have H' := Aside0.mk H
                clear H
                go_wp2
                go_meet
                case rel => exact ⟨_, (!true), (by first | rfl | (simp; done) | (simp [*]; done)), H', ⟨by have := HJ1.out; have := HK2.out; first | omega | exact Nat.le_refl _⟩, by repeat (first | exact Drawn0.refl _ | apply Drawn0.step)⟩
               ·rw [if_neg c20] at H
                have c20b0 : ((bt a0 x15_2) == 45) = false := beq_eq_false_iff_ne.mpr c20
                have c20b1 : ((bt a0 x15_2) != 45) = true := bne_iff_ne.mpr c20
                have H' := Aside0.mk H
                clear H
                go_wp2
                go_meet
                case rel => exact ⟨_, (!((bt a0 x15_2) == 46)), (by first | rfl | (simp; done) | (simp [*]; done)), H', ⟨by have := HJ1.out; have := HK2.out; first | omega | exact Nat.le_refl _⟩, by repeat (first | exact Drawn0.refl _ | apply Drawn0.step)⟩
             ·rw [if_neg c18] at H
              have c18b0 : decide (48 ≤ (bt a0 x15_2)) = false := decide_eq_false c18
              clear c18
              by_cases c21 : (bt a0 x15_2) = 45
              ·rw [if_pos c21] at H
               have c21b0 : ((bt a0 x15_2) == 45) = true := beq_iff_eq.mpr c21
               have c21b1 : ((bt a0 x15_2) != 45) = false := bne_eq_false_iff_eq.mpr c21
               clear c21
               have H' := Aside0.mk H
               clear H
               go_wp2
               go_meet
               case rel => exact ⟨_, (!true), (by first | rfl | (simp; done) | (simp [*]; done)), H', ⟨by have := HJ1.out; have := HK2.out; first | omega | exact Nat.le_refl _⟩, by repeat (first | exact Drawn0.refl _ | apply Drawn0.step)⟩
              ·rw [if_neg c21] at H
               have c21b0 : ((bt a0 x15_2) == 45) = false := beq_eq_false_iff_ne.mpr c21
               have c21b1 : ((bt a0 x15_2) != 45) = true := bne_iff_ne.mpr c21
               have H' := Aside0.mk H
               clear H
               go_wp2
               go_meet
               case rel => exact ⟨_, (!((bt a0 x15_2) == 46)), (by first | rfl | (simp; done) | (simp [*]; done)), H', ⟨by have := HJ1.out; have := HK2.out; first | omega | exact Nat.le_refl _⟩, by repeat (first | exact Drawn0.refl _ | apply Drawn0.step)⟩
          ·rw [if_neg c10] at H
           have c10b0 : decide (97 ≤ (bt a0 x15_2)) = false := decide_eq_false c10
           clear c10
           (first | rw [c10b0] | (simp only [i64_w, i32_w]; rw [c10b0]) | skip)
           by_cases c22 : (bt a0 x15_2) ≥ 65
           ·rw [if_pos c22] at H
            have c22b0 : decide (65 ≤ (bt a0 x15_2)) = true := decide_eq_true c22
            clear c22
            by_cases c23 : (bt a0 x15_2) ≤ 90
            ·rw [if_pos c23] at H
             have c23b0 : decide ((bt a0 x15_2) ≤ 90) = true := decide_eq_true c23
             clear c23
             have H' := Aside0.mk H
             clear H
             go_wp2
             go_meet
             case rel => exact ⟨_, (!true), (by first | rfl | (simp; done) | (simp [*]; done)), H', ⟨by have := HJ1.out; have := HK2.out; first | omega | exact Nat.le_refl _⟩, by repeat (first | exact Drawn0.refl _ | apply Drawn0.step)⟩
            ·rw [if_neg c23] at H
             have c23b0 : decide ((bt a0 x15_2) ≤ 90) = false := decide_eq_false c23
             clear c23
             by_cases c24 : (bt a0 x15_2) ≥ 48
             ·rw [if_pos c24] at H
              have c24b0 : decide (48 ≤ (bt a0 x15_2)) = true := decide_eq_true c24
              clear c24
              by_cases c25 : (bt a0 x15_2) ≤ 57
              ·rw [if_pos c25] at H
               have c25b0 : decide ((bt a0 x15_2) ≤ 57) = true := decide_eq_true c25
               clear c25
               have H' := Aside0.mk H
               clear H
               go_wp2
               go_meet
               case rel => exact ⟨_, (!true), (by first | rfl | (simp; done) | (simp [*]; done)), H', ⟨by have := HJ1.out; have := HK2.out; first | omega | exact Nat.le_refl _⟩, by repeat (first | exact Drawn0.refl _ | apply Drawn0.step)⟩
              ·rw [if_neg c25] at H
               have c25b0 : decide ((bt a0 x15_2) ≤ 57) = false := decide_eq_false c25
               clear c25
               by_cases c26 : (bt a0 x15_2) = 45
               ·rw [if_pos c26] at H
                have c26b0 : ((bt a0 x15_2) == 45) = true := beq_iff_eq.mpr c26
                have c26b1 : ((bt a0 x15_2) != 45) = false := bne_eq_false_iff_eq.mpr c26
                clear c26
                have H' := Aside0.mk H
                clear H
                go_wp2
                go_meet
                case rel => exact ⟨_, (!true), (by first | rfl | (simp; done) | (simp [*]; done)), H', ⟨by have := HJ1.out; have := HK2.out; first | omega | exact Nat.le_refl _⟩, by repeat (first | exact Drawn0.refl _ | apply Drawn0.step)⟩
               ·rw [if_neg c26] at H
                have c26b0 : ((bt a0 x15_2) == 45) = false := beq_eq_false_iff_ne.mpr c26
                have c26b1 : ((bt a0 x15_2) != 45) = true := bne_iff_ne.mpr c26
                have H' := Aside0.mk H
                clear H
                go_wp2
                go_meet
                case rel => exact ⟨_, (!((bt a0 x15_2) == 46)), (by first | rfl | (simp; done) | (simp [*]; done)), H', ⟨by have := HJ1.out; have := HK2.out; first | omega | exact Nat.le_refl _⟩, by repeat (first | exact Drawn0.refl _ | apply Drawn0.step)⟩
             ·rw [if_neg c24] at H
              have c24b0 : decide (48 ≤ (bt a0 x15_2)) = false := decide_eq_false c24
              clear c24
              by_cases c27 : (bt a0 x15_2) = 45
              ·rw [if_pos c27] at H
               have c27b0 : ((bt a0 x15_2) == 45) = true := beq_iff_eq.mpr c27
               have c27b1 : ((bt a0 x15_2) != 45) = false := bne_eq_false_iff_eq.mpr c27
               clear c27
               have H' := Aside0.mk H
               clear H
               go_wp2
               go_meet
               case rel => exact ⟨_, (!true), (by first | rfl | (simp; done) | (simp [*]; done)), H', ⟨by have := HJ1.out; have := HK2.out; first | omega | exact Nat.le_refl _⟩, by repeat (first | exact Drawn0.refl _ | apply Drawn0.step)⟩
              ·rw [if_neg c27] at H
               have c27b0 : ((bt a0 x15_2) == 45) = false := beq_eq_false_iff_ne.mpr c27
               have c27b1 : ((bt a0 x15_2) != 45) = true := bne_iff_ne.mpr c27
               have H' := Aside0.mk H
               clear H
               go_wp2
               go_meet
               case rel => exact ⟨_, (!((bt a0 x15_2) == 46)), (by first | rfl | (simp; done) | (simp [*]; done)), H', ⟨by have := HJ1.out; have := HK2.out; first | omega | exact Nat.le_refl _⟩, by repeat (first | exact Drawn0.refl _ | apply Drawn0.step)⟩
           ·rw [if_neg c22] at H
            have c22b0 : decide (65 ≤ (bt a0 x15_2)) = false := decide_eq_false c22
            clear c22
            by_cases c28 : (bt a0 x15_2) ≥ 48
            ·rw [if_pos c28] at H
             have c28b0 : decide (48 ≤ (bt a0 x15_2)) = true := decide_eq_true c28
             clear c28
             by_cases c29 : (bt a0 x15_2) ≤ 57
             ·rw [if_pos c29] at H
              have c29b0 : decide ((bt a0 x15_2) ≤ 57) = true := decide_eq_true c29
              clear c29
              have H' := Aside0.mk H
              clear H
              go_wp2
              go_meet
              case rel => exact ⟨_, (!true), (by first | rfl | (simp; done) | (simp [*]; done)), H', ⟨by have := HJ1.out; have := HK2.out; first | omega | exact Nat.le_refl _⟩, by repeat (first | exact Drawn0.refl _ | apply Drawn0.step)⟩
             ·rw [if_neg c29] at H
              have c29b0 : decide ((bt a0 x15_2) ≤ 57) = false := decide_eq_false c29
              clear c29
              by_cases c30 : (bt a0 x15_2) = 45
              ·rw [if_pos c30] at H
               have c30b0 : ((bt a0 x15_2) == 45) = true := beq_iff_eq.mpr c30
               have c30b1 : ((bt a0 x15_2) != 45) = false := bne_eq_false_iff_eq.mpr c30
               clear c30
               have H' := Aside0.mk H
               clear H
               go_wp2
               go_meet
               case rel => exact ⟨_, (!true), (by first | rfl | (simp; done) | (simp [*]; done)), H', ⟨by have := HJ1.out; have := HK2.out; first | omega | exact Nat.le_refl _⟩, by repeat (first | exact Drawn0.refl _ | apply Drawn0.step)⟩
              ·rw [if_neg c30] at H
               have c30b0 : ((bt a0 x15_2) == 45) = false := beq_eq_false_iff_ne.mpr c30
               have c30b1 : ((bt a0 x15_2) != 45) = true := bne_iff_ne.mpr c30
               have H' := Aside0.mk H
               clear H
               go_wp2
               go_meet
               case rel => exact ⟨_, (!((bt a0 x15_2) == 46)), (by first | rfl | (simp; done) | (simp [*]; done)), H', ⟨by have := HJ1.out; have := HK2.out; first | omega | exact Nat.le_refl _⟩, by repeat (first | exact Drawn0.refl _ | apply Drawn0.step)⟩
            ·rw [if_neg c28] at H
             have c28b0 : decide (48 ≤ (bt a0 x15_2)) = false := decide_eq_false c28
             clear c28
             by_cases c31 : (bt a0 x15_2) = 45
             ·rw [if_pos c31] at H
              have c31b0 : ((bt a0 x15_2) == 45) = true := beq_iff_eq.mpr c31
              have c31b1 : ((bt a0 x15_2) != 45) = false := bne_eq_false_iff_eq.mpr c31
              clear c31
              have H' := Aside0.mk H
              clear H
              go_wp2
              go_meet
              case rel => exact ⟨_, (!true), (by first | rfl | (simp; done) | (simp [*]; done)), H', ⟨by have := HJ1.out; have := HK2.out; first | omega | exact Nat.le_refl _⟩, by repeat (first | exact Drawn0.refl _ | apply Drawn0.step)⟩
             ·rw [if_neg c31] at H
              have c31b0 : ((bt a0 x15_2) == 45) = false := beq_eq_false_iff_ne.mpr c31
              have c31b1 : ((bt a0 x15_2) != 45) = true := bne_iff_ne.mpr c31
              have H' := Aside0.mk H
              clear H
              go_wp2
              go_meet
              case rel => exact ⟨_, (!((bt a0 x15_2) == 46)), (by first | rfl | (simp; done) | (simp [*]; done)), H', ⟨by have := HJ1.out; have := HK2.out; first | omega | exact Nat.le_refl _⟩, by repeat (first | exact Drawn0.refl _ | apply Drawn0.step)⟩
         case rest =>
          clear HC9
          try clear c5b0
          try clear c6b0
          try clear c7b0
          try clear p8
          try clear q8
          try clear hx8
          obtain ⟨kq, x51_8, rfl, HA, HJ8, ⟨mc8, rfl⟩⟩ := hcut
          cases kq with
          | zero => exact absurd HA.out (by simp [cask_named.j2])
          | succ kj8 =>
           have H := HA.out
           clear HA
           simp only [cask_named.j2] at H
           by_cases c32 : x51_8 = true
           ·subst c32
            rw [if_pos rfl] at H
            obtain rfl := Option.some.inj H
            go_wp2
            go_ret
            exact ⟨by first | rfl | (simp; done) | (simp [*]; done), by repeat (first | exact Drawn0.refl _ | apply Drawn0.step)⟩
           ·replace c32 := Bool.eq_false_iff.mpr c32
            subst c32
            rw [if_neg (show ¬ (false = true) by decide)] at H
            have H' := Aside0.mk H
            clear H
            go_wp2
            go_roundg kj8
            case measure => have := HJ1.out; have := HK2.out; have := HJ8.out; omega
            case rel => exact ⟨(wrap64 (x15_2 + 1)), (by first | rfl | (simp; done) | (simp [*]; done)), H', ⟨by have := HJ1.out; have := HK2.out; have := HJ8.out; omega⟩, by repeat (first | exact Drawn0.refl _ | apply Drawn0.step)⟩
        ·rw [if_neg c7] at H
         exact absurd H (by simp)
       ·rw [if_neg c6] at H
        exact absurd H (by simp)
      ·rw [if_neg c5] at H
       have c5b0 : decide (x15_2 < (a0.size : Int)) = false := decide_eq_false c5
       clear c5
       obtain rfl := Option.some.inj H
       go_wp2
       go_ret
       exact ⟨by first | rfl | (simp; done) | (simp [*]; done), by repeat (first | exact Drawn0.refl _ | apply Drawn0.step)⟩
def cask_Check.j0 : Nat → Bool → ByteArray → Int → List (S39) → Int → Option (Int)
 | 0, _, _, _, _, _ => none
 | k + 1, x8, x114000, x114001, x114002, x114003 => if x8 = true then (some 2) else (if x114003 < 0 then (some 2) else (if x114003 > 1073741824 then (some 2) else ((check48.f x114002).bind fun t115 => (some t115))))
def cask_Check.f (k : Nat) (a0_0 : ByteArray) (a0_1 : Int) (l0_2 : List (S39)) (a0_3 : Int) : Option (Int) := (cask_named.f k a0_0).bind fun t114 => (if t114 = true then (if a0_1 = 1 then (cask_Check.j0 k false a0_0 a0_1 l0_2 a0_3) else (cask_Check.j0 k (a0_1 != 2) a0_0 a0_1 l0_2 a0_3)) else (some 4))
set_option maxHeartbeats 8000000 in
set_option maxRecDepth 100000 in
theorem cask_Check.calls (k : Nat) (a0_0 : ByteArray) (a0_1 : Int) (A0_2 : Option Addr) (c0_2 : Nat) (l0_2 : List (S39)) (a0_3 : Int) (r : Int) (w : World) (hr0_2 : Kd.C k39 w A0_2 l0_2.length l0_2) (hc0_2 : l0_2.length ≤ c0_2) (h : cask_Check.f k a0_0 a0_1 l0_2 a0_3 = some r) :
  Calls Try.prog 80 #[.agg #[.string a0_0, .int .i64 a0_1, .slice A0_2 l0_2.length c0_2, .int .i64 a0_3]] w fun e w' => e = .returned (.int .i64 r) ∧ Below w.heap.size w w' := by
 have hu24 := Try.underlying24
 have HR0_2 := Aside0.mk hr0_2
 have HC0_2 := Aside0.mk hc0_2
 clear hr0_2 hc0_2
 have HB := Aside0.mk (Below.refl w.heap.size w)
 have H : ((cask_named.f k a0_0).bind fun t114 => (if t114 = true then (if a0_1 = 1 then (cask_Check.j0 k false a0_0 a0_1 l0_2 a0_3) else (cask_Check.j0 k (a0_1 != 2) a0_0 a0_1 l0_2 a0_3)) else (some 4))) = some r := h
 clear h
 replace H := Option.bind_eq_some_iff.mp H
 obtain ⟨t114, A20, H⟩ := H
 try (set_option simprocs false in dsimp only at H)
 have A2 := Aside0.mk A20
 clear A20
 by_cases c3 : t114 = true
 ·subst c3
  rw [if_pos rfl] at H
  have HC4 := Aside0.mk H
  clear H
  go_enter Try.func80, Try.ntmps80
  go_upto_region 3 with (first | ((with_reducible refine gqD (N := 1) rfl ?_); refine GS.bx (N := 1) (cs := #[.string a0_0, .int .i64 a0_1, .slice A0_2 l0_2.length c0_2, .int .i64 a0_3]) (t := 24) ?_; intro gb113 hg w5 hbox hb; have q_ := GS.q4 (GS.kH HB hb) (Aside0.mk hbox) (GS.kZ hg HB) (GS.kZ hg HB); clear HB; obtain ⟨HB, BK113, GW113, GE113⟩ := q_; clear hb hbox hg; obtain ⟨hcz6_0, hcz6_1, hcz6_2, hcz6_3, hfz6_0, hfz6_1, hfz6_2, hfz6_3⟩ := GS.c4 BK113.out) | ((with_reducible refine gqC (f := 96) rfl ?_); refine GS.gL (some 6) Try.func96 #[.string a0_0] ?_; (with_reducible refine (cask_named.calls k a0_0 true _ A2.out).mono ?_); rintro e w' ⟨rfl, ⟨nd, rfl⟩⟩; refine ⟨_, rfl, ?_⟩))
  (try simp only [Act.put, List.setIfInBounds_toArray, List.set_cons_zero, List.set_cons_succ])
  go_cut [8] (fun v8 wc => ∃ (kq : Nat) (x8_3 : Bool), v8 = .bool x8_3 ∧ Aside0 (cask_Check.j0 kq x8_3 a0_0 a0_1 l0_2 a0_3 = some r) ∧ Aside0 (kq ≤ k) ∧ Aside0 (wc.heap[gb113]? = some (.cells #[.string a0_0, .int .i64 a0_1, (.slice A0_2 l0_2.length c0_2), .int .i64 a0_3] 24 (0, 0))) ∧ Aside0 (Below w.heap.size w wc))
  case first =>
   have H := HC4.out
   clear HC4
   by_cases c7 : a0_1 = 1
   ·rw [if_pos c7] at H
    have c7b0 : (a0_1 == 1) = true := beq_iff_eq.mpr c7
    have c7b1 : (a0_1 != 1) = false := bne_eq_false_iff_eq.mpr c7
    clear c7
    (first | rw [c7b0] | (simp only [i64_w, i32_w]; rw [c7b0]) | skip)
    have H' := Aside0.mk H
    clear H
    obtain ⟨hcz8_0, hcz8_1, hcz8_2, hcz8_3, hfz8_0, hfz8_1, hfz8_2, hfz8_3⟩ := GS.c4 BK113.out
    go_wp2
    go_meet
    case rel => exact ⟨_, (false), (by first | rfl | (simp; done) | (simp [*]; done)), H', ⟨by first | omega | exact Nat.le_refl _⟩, ⟨GS.bqX BK113.out⟩, ⟨GS.lB HB.out⟩⟩
   ·rw [if_neg c7] at H
    have c7b0 : (a0_1 == 1) = false := beq_eq_false_iff_ne.mpr c7
    have c7b1 : (a0_1 != 1) = true := bne_iff_ne.mpr c7
    (first | rw [c7b0] | (simp only [i64_w, i32_w]; rw [c7b0]) | skip)
    have H' := Aside0.mk H
    clear H
    obtain ⟨hcz9_0, hcz9_1, hcz9_2, hcz9_3, hfz9_0, hfz9_1, hfz9_2, hfz9_3⟩ := GS.c4 BK113.out
    go_wp2
    go_meet
    case rel => exact ⟨_, ((a0_1 != 2)), (by first | rfl | (simp; done) | (simp [*]; done)), H', ⟨by first | omega | exact Nat.le_refl _⟩, ⟨GS.bqX BK113.out⟩, ⟨GS.lB HB.out⟩⟩
  case rest =>
   clear HC4
   try clear hcz6_0
   try clear hcz6_1
   try clear hcz6_2
   try clear hcz6_3
   try clear hfz6_0
   try clear hfz6_1
   try clear hfz6_2
   try clear hfz6_3
   obtain ⟨kq, x8_3, rfl, HA, HJ3, BK113, HB⟩ := hcut
   cases kq with
   | zero => exact absurd HA.out (by simp [cask_Check.j0])
   | succ kj3 =>
    have H := HA.out
    clear HA
    simp only [cask_Check.j0] at H
    by_cases c10 : x8_3 = true
    ·subst c10
     rw [if_pos rfl] at H
     obtain rfl := Option.some.inj H
     go_wp2
     go_ret
     exact ⟨by first | rfl | (simp [errW_none, errW_some] <;> rfl) | (simp [*, errW_none, errW_some] <;> rfl), GS.lB HB.out⟩
    ·replace c10 := Bool.eq_false_iff.mpr c10
     subst c10
     rw [if_neg (show ¬ (false = true) by decide)] at H
     by_cases c11 : a0_3 < 0
     ·rw [if_pos c11] at H
      have c11b0 : decide (a0_3 < 0) = true := decide_eq_true c11
      clear c11
      obtain rfl := Option.some.inj H
      obtain ⟨hcz12_0, hcz12_1, hcz12_2, hcz12_3, hfz12_0, hfz12_1, hfz12_2, hfz12_3⟩ := GS.c4 BK113.out
      go_wp2
      go_ret
      exact ⟨by first | rfl | (simp [errW_none, errW_some] <;> rfl) | (simp [*, errW_none, errW_some] <;> rfl), GS.lB HB.out⟩
     ·rw [if_neg c11] at H
      have c11b0 : decide (a0_3 < 0) = false := decide_eq_false c11
      clear c11
      by_cases c13 : a0_3 > 1073741824
      ·rw [if_pos c13] at H
       have c13b0 : decide (1073741824 < a0_3) = true := decide_eq_true c13
       clear c13
       obtain rfl := Option.some.inj H
       obtain ⟨hcz14_0, hcz14_1, hcz14_2, hcz14_3, hfz14_0, hfz14_1, hfz14_2, hfz14_3⟩ := GS.c4 BK113.out
       go_wp2
       go_ret
       exact ⟨by first | rfl | (simp [errW_none, errW_some] <;> rfl) | (simp [*, errW_none, errW_some] <;> rfl), GS.lB HB.out⟩
      ·rw [if_neg c13] at H
       have c13b0 : decide (1073741824 < a0_3) = false := decide_eq_false c13
       clear c13
       replace H := Option.bind_eq_some_iff.mp H
       obtain ⟨t115, A150, H⟩ := H
       replace H : (some t115) = some r := H
       have A15 := Aside0.mk A150
       clear A150
       obtain rfl := Option.some.inj H
       obtain ⟨hcz16_0, hcz16_1, hcz16_2, hcz16_3, hfz16_0, hfz16_1, hfz16_2, hfz16_3⟩ := GS.c4 BK113.out
       go_wp2_with (first | ((with_reducible refine gqC (f := 48) rfl ?_); refine GS.gL (some 28) Try.func48 #[.slice A0_2 l0_2.length c0_2] ?_; (with_reducible refine (check48.calls _ _ l0_2 t115 _ ?side1 ?side2 A15.out).mono ?_); (case side1 => exact GS.rC (Kd.C_below HR0_2.out HB.out)); (case side2 => exact HC0_2.out); rintro e w17 ⟨rfl, hb⟩; refine ⟨_, rfl, ?_⟩; have q_ := GS.q2 (GS.kB BK113 hb) (GS.kH HB hb); clear BK113 HB; obtain ⟨BK113, HB⟩ := q_; (try clear hb); (try clear hb2); (try clear hk); (try clear hi)))
       go_ret
       exact ⟨by first | rfl | (simp [errW_none, errW_some] <;> rfl) | (simp [*, errW_none, errW_some] <;> rfl), GS.lB HB.out⟩
 ·replace c3 := Bool.eq_false_iff.mpr c3
  subst c3
  rw [if_neg (show ¬ (false = true) by decide)] at H
  obtain rfl := Option.some.inj H
  go_enter Try.func80, Try.ntmps80
  go_wp2_with (first | ((with_reducible refine gqD (N := 1) rfl ?_); refine GS.bx (N := 1) (cs := #[.string a0_0, .int .i64 a0_1, .slice A0_2 l0_2.length c0_2, .int .i64 a0_3]) (t := 24) ?_; intro gb113 hg w18 hbox hb; have q_ := GS.q4 (GS.kH HB hb) (Aside0.mk hbox) (GS.kZ hg HB) (GS.kZ hg HB); clear HB; obtain ⟨HB, BK113, GW113, GE113⟩ := q_; clear hb hbox hg; obtain ⟨hcz19_0, hcz19_1, hcz19_2, hcz19_3, hfz19_0, hfz19_1, hfz19_2, hfz19_3⟩ := GS.c4 BK113.out) | ((with_reducible refine gqC (f := 96) rfl ?_); refine GS.gL (some 6) Try.func96 #[.string a0_0] ?_; (with_reducible refine (cask_named.calls k a0_0 false _ A2.out).mono ?_); rintro e w' ⟨rfl, ⟨nd, rfl⟩⟩; refine ⟨_, rfl, ?_⟩))
  go_ret
  exact ⟨by first | rfl | (simp [errW_none, errW_some] <;> rfl) | (simp [*, errW_none, errW_some] <;> rfl), GS.lB HB.out⟩
def lying_lies.f (k : Nat) (a0_0 : ByteArray) (a0_1 : Int) (l0_2 : List (S39)) (a0_3 : Int) : Option (Int) := (cask_Check.f k a0_0 a0_1 l0_2 a0_3).bind fun t117 => (if t117 = 0 then (if a0_1 = 1 then (some 0) else (some 10)) else (some 1))
set_option maxHeartbeats 8000000 in
set_option maxRecDepth 100000 in
theorem lying_lies.calls (k : Nat) (a0_0 : ByteArray) (a0_1 : Int) (A0_2 : Option Addr) (c0_2 : Nat) (l0_2 : List (S39)) (a0_3 : Int) (r : Int) (w : World) (hr0_2 : Kd.C k39 w A0_2 l0_2.length l0_2) (hc0_2 : l0_2.length ≤ c0_2) (h : lying_lies.f k a0_0 a0_1 l0_2 a0_3 = some r) :
  Calls Try.prog 51 #[.agg #[.string a0_0, .int .i64 a0_1, .slice A0_2 l0_2.length c0_2, .int .i64 a0_3]] w fun e w' => e = .returned (.int .i64 r) ∧ Below w.heap.size w w' := by
 have hu24 := Try.underlying24
 have HR0_2 := Aside0.mk hr0_2
 have HC0_2 := Aside0.mk hc0_2
 clear hr0_2 hc0_2
 have HB := Aside0.mk (Below.refl w.heap.size w)
 have H : ((cask_Check.f k a0_0 a0_1 l0_2 a0_3).bind fun t117 => (if t117 = 0 then (if a0_1 = 1 then (some 0) else (some 10)) else (some 1))) = some r := h
 clear h
 replace H := Option.bind_eq_some_iff.mp H
 obtain ⟨t117, A20, H⟩ := H
 try (set_option simprocs false in dsimp only at H)
 have A2 := Aside0.mk A20
 clear A20
 by_cases c3 : t117 = 0
 ·rw [if_pos c3] at H
  have c3b0 : (t117 == 0) = true := beq_iff_eq.mpr c3
  have c3b1 : (t117 != 0) = false := bne_eq_false_iff_eq.mpr c3
  clear c3
  by_cases c4 : a0_1 = 1
  ·rw [if_pos c4] at H
   have c4b0 : (a0_1 == 1) = true := beq_iff_eq.mpr c4
   have c4b1 : (a0_1 != 1) = false := bne_eq_false_iff_eq.mpr c4
   clear c4
   obtain rfl := Option.some.inj H
   go_enter Try.func51, Try.ntmps51
   go_wp2_with (first | ((with_reducible refine gqD (N := 1) rfl ?_); refine GS.bx (N := 1) (cs := #[.string a0_0, .int .i64 a0_1, .slice A0_2 l0_2.length c0_2, .int .i64 a0_3]) (t := 24) ?_; intro gb116 hg w5 hbox hb; have q_ := GS.q4 (GS.kH HB hb) (Aside0.mk hbox) (GS.kZ hg HB) (GS.kZ hg HB); clear HB; obtain ⟨HB, BK116, GW116, GE116⟩ := q_; clear hb hbox hg; obtain ⟨hcz6_0, hcz6_1, hcz6_2, hcz6_3, hfz6_0, hfz6_1, hfz6_2, hfz6_3⟩ := GS.c4 BK116.out) | ((with_reducible refine gqC (f := 80) rfl ?_); refine GS.gL (some 4) Try.func80 #[.agg #[.string a0_0, .int .i64 a0_1, .slice A0_2 l0_2.length c0_2, .int .i64 a0_3]] ?_; (with_reducible refine (cask_Check.calls k a0_0 a0_1 _ _ l0_2 a0_3 t117 _ ?side1 ?side2 A2.out).mono ?_); (case side1 => exact GS.rC (Kd.C_below HR0_2.out HB.out)); (case side2 => exact HC0_2.out); rintro e w7 ⟨rfl, hb⟩; refine ⟨_, rfl, ?_⟩; have q_ := GS.q2 (GS.kB BK116 hb) (GS.kH HB hb); clear BK116 HB; obtain ⟨BK116, HB⟩ := q_; (try clear hb); (try clear hb2); (try clear hk); (try clear hi); obtain ⟨hcz8_0, hcz8_1, hcz8_2, hcz8_3, hfz8_0, hfz8_1, hfz8_2, hfz8_3⟩ := GS.c4 BK116.out))
   go_ret
   exact ⟨by first | rfl | (simp [errW_none, errW_some] <;> rfl) | (simp [*, errW_none, errW_some] <;> rfl), GS.lB HB.out⟩
  ·rw [if_neg c4] at H
   have c4b0 : (a0_1 == 1) = false := beq_eq_false_iff_ne.mpr c4
   have c4b1 : (a0_1 != 1) = true := bne_iff_ne.mpr c4
   obtain rfl := Option.some.inj H
   go_enter Try.func51, Try.ntmps51
   go_wp2_with (first | ((with_reducible refine gqD (N := 1) rfl ?_); refine GS.bx (N := 1) (cs := #[.string a0_0, .int .i64 a0_1, .slice A0_2 l0_2.length c0_2, .int .i64 a0_3]) (t := 24) ?_; intro gb116 hg w9 hbox hb; have q_ := GS.q4 (GS.kH HB hb) (Aside0.mk hbox) (GS.kZ hg HB) (GS.kZ hg HB); clear HB; obtain ⟨HB, BK116, GW116, GE116⟩ := q_; clear hb hbox hg; obtain ⟨hcz10_0, hcz10_1, hcz10_2, hcz10_3, hfz10_0, hfz10_1, hfz10_2, hfz10_3⟩ := GS.c4 BK116.out) | ((with_reducible refine gqC (f := 80) rfl ?_); refine GS.gL (some 4) Try.func80 #[.agg #[.string a0_0, .int .i64 a0_1, .slice A0_2 l0_2.length c0_2, .int .i64 a0_3]] ?_; (with_reducible refine (cask_Check.calls k a0_0 a0_1 _ _ l0_2 a0_3 t117 _ ?side1 ?side2 A2.out).mono ?_); (case side1 => exact GS.rC (Kd.C_below HR0_2.out HB.out)); (case side2 => exact HC0_2.out); rintro e w11 ⟨rfl, hb⟩; refine ⟨_, rfl, ?_⟩; have q_ := GS.q2 (GS.kB BK116 hb) (GS.kH HB hb); clear BK116 HB; obtain ⟨BK116, HB⟩ := q_; (try clear hb); (try clear hb2); (try clear hk); (try clear hi); obtain ⟨hcz12_0, hcz12_1, hcz12_2, hcz12_3, hfz12_0, hfz12_1, hfz12_2, hfz12_3⟩ := GS.c4 BK116.out))
   go_ret
   exact ⟨by first | rfl | (simp [errW_none, errW_some] <;> rfl) | (simp [*, errW_none, errW_some] <;> rfl), GS.lB HB.out⟩
 ·rw [if_neg c3] at H
  have c3b0 : (t117 == 0) = false := beq_eq_false_iff_ne.mpr c3
  have c3b1 : (t117 != 0) = true := bne_iff_ne.mpr c3
  obtain rfl := Option.some.inj H
  go_enter Try.func51, Try.ntmps51
  go_wp2_with (first | ((with_reducible refine gqD (N := 1) rfl ?_); refine GS.bx (N := 1) (cs := #[.string a0_0, .int .i64 a0_1, .slice A0_2 l0_2.length c0_2, .int .i64 a0_3]) (t := 24) ?_; intro gb116 hg w13 hbox hb; have q_ := GS.q4 (GS.kH HB hb) (Aside0.mk hbox) (GS.kZ hg HB) (GS.kZ hg HB); clear HB; obtain ⟨HB, BK116, GW116, GE116⟩ := q_; clear hb hbox hg; obtain ⟨hcz14_0, hcz14_1, hcz14_2, hcz14_3, hfz14_0, hfz14_1, hfz14_2, hfz14_3⟩ := GS.c4 BK116.out) | ((with_reducible refine gqC (f := 80) rfl ?_); refine GS.gL (some 4) Try.func80 #[.agg #[.string a0_0, .int .i64 a0_1, .slice A0_2 l0_2.length c0_2, .int .i64 a0_3]] ?_; (with_reducible refine (cask_Check.calls k a0_0 a0_1 _ _ l0_2 a0_3 t117 _ ?side1 ?side2 A2.out).mono ?_); (case side1 => exact GS.rC (Kd.C_below HR0_2.out HB.out)); (case side2 => exact HC0_2.out); rintro e w15 ⟨rfl, hb⟩; refine ⟨_, rfl, ?_⟩; have q_ := GS.q2 (GS.kB BK116 hb) (GS.kH HB hb); clear BK116 HB; obtain ⟨BK116, HB⟩ := q_; (try clear hb); (try clear hb2); (try clear hk); (try clear hi)))
  go_ret
  exact ⟨by first | rfl | (simp [errW_none, errW_some] <;> rfl) | (simp [*, errW_none, errW_some] <;> rfl), GS.lB HB.out⟩
end Go.Proofs.Ytefjmcljkmppoaa.K
