/- By hand: root.of. -/
import Derived.Test.YtefjmcljkmppoaaK0
import Derived.Test.YtefjmcljkmppoaaGShort
import Derived.WalkKit
import Derived.WalkMore
import Derived.ScopeJumps
namespace Go.Proofs.Ytefjmcljkmppoaa.K
open Go Go.RowKit Go.Proofs.YtefjmcljkmppoaaW.PrintWords Go.Proofs.YtefjmcljkmppoaaW.PrintLast Go.Proofs.YtefjmcljkmppoaaW.PrintMore
set_option linter.unusedVariables false
set_option linter.unusedSimpArgs false
def P2 (k : Nat) : Int := ((2 ^ k : Nat) : Int)
theorem P2_succ (k : Nat) : P2 (k + 1) = 2 * P2 k := by unfold P2; rw [Nat.pow_succ]; omega
theorem P2_pos (k : Nat) : 1 ≤ P2 k := by have := Nat.two_pow_pos k; unfold P2; omega
def bis : Nat → Int → Int → Int
  | 0, _, lo => lo
  | k + 1, n, lo => if lo + P2 k ≤ wrap64 (Int.tdiv n (lo + P2 k)) then bis k n (lo + P2 k) else bis k n lo
def of109.f (n : Int) : Option Int := some (bis 31 n 0)
set_option maxHeartbeats 4000000 in
set_option maxRecDepth 100000 in
theorem of109.calls (n r : Int) (w : World) (h : of109.f n = some r) : Calls Try.prog 109 #[.int .i64 n] w fun e w' => e = .returned (.int .i64 r) ∧ Below w.heap.size w w' := by
  have HE := Aside0.mk (Option.some.inj h)
  clear h
  have HB := Aside0.mk (Below.refl w.heap.size w)
  go_enter Try.func109, Try.ntmps109
  go_wp2
  go_step3
  go_wp2
  go_step3
  go_wp2
  go_loopg [3, 4] 31 (fun kq v3 v4 w' => ∃ lo : Int, v3 = .int .i64 lo ∧ v4 = .int .i64 (lo + P2 kq) ∧ Aside0 (0 ≤ lo ∧ lo + P2 kq ≤ 2147483648) ∧ Aside0 (bis kq n lo = r) ∧ Aside0 (Below w.heap.size w w'))
  case atStart => exact ⟨0, rfl, rfl, ⟨by decide⟩, ⟨HE.out⟩, ⟨HB.out⟩⟩
  case round =>
    obtain ⟨lo, rfl, rfl, HL, HR, HB⟩ := hrel
    cases gk with
    | zero =>
      have q : wrap64 (lo + P2 0 - lo) = 1 := by unfold wrap64; have : P2 0 = 1 := rfl; omega
      have cq : (wrap64 (lo + P2 0 - lo) == 1) = true := by rw [q]; rfl
      have cq2 : decide (wrap64 (lo + P2 0 - lo) = 1) = true := decide_eq_true q
      go_wp2
      rw [Exit.noGoto_ret]
      go_ret
      exact ⟨by rw [show r = lo from HR.out.symm]; rfl, HB.out⟩
    | succ k =>
      have HP := Aside0.mk (P2_pos k)
      obtain ⟨d, hd⟩ : ∃ d, P2 k = d := ⟨_, rfl⟩
      have HS : P2 (k + 1) = 2 * d := by rw [P2_succ, hd]
      have HD := Aside0.mk hd
      have hb := HL.out
      have hp := HP.out
      rw [HS] at hb
      rw [hd] at hp
      simp only [HS]
      have q1 : decide (wrap64 (lo + 2 * d - lo) = 1) = false := decide_eq_false (by unfold wrap64; omega)
      have q1b : (wrap64 (lo + 2 * d - lo) == 1) = false := by simpa using q1
      have q2 : wrap64 ((wrap64 (lo + (lo + 2 * d))).tdiv 2) = lo + d := by
        have e : wrap64 (lo + (lo + 2 * d)) = 2 * (lo + d) := by unfold wrap64; omega
        rw [e, Int.tdiv_eq_ediv_of_nonneg (by omega)]
        unfold wrap64
        omega
      have q3 : (lo + d = 0) = False := eq_false (by omega)
      have q4 : ((lo + d) == 0) = false := by simp [q3]
      have HB1 := Aside0.mk (And.intro hb hp)
      have HW := Aside0.mk q2
      clear hb hp hd HS
      by_cases c : lo + d ≤ wrap64 (Int.tdiv n (lo + d))
      · have c1 : decide (lo + d ≤ wrap64 (Int.tdiv n (lo + d))) = true := decide_eq_true c
        have C := Aside0.mk c
        clear c
        go_wp2
        go_roundg k
        case measure => omega
        case rel =>
          have hbb := HB1.out
          have hrr := HR.out
          rw [bis, HD.out, if_pos C.out] at hrr
          exact ⟨lo + d, by rw [HW.out], by rw [HD.out]; congr 1; omega, ⟨by rw [HD.out]; omega⟩, ⟨hrr⟩, HB⟩
      · have c1 : decide (lo + d ≤ wrap64 (Int.tdiv n (lo + d))) = false := decide_eq_false c
        have C := Aside0.mk c
        clear c
        go_wp2
        go_roundg k
        case measure => omega
        case rel =>
          have hbb := HB1.out
          have hrr := HR.out
          rw [bis, HD.out, if_neg (Int.not_le.2 C.out)] at hrr
          exact ⟨lo, rfl, by rw [HD.out], ⟨by rw [HD.out]; omega⟩, ⟨hrr⟩, HB⟩
end Go.Proofs.Ytefjmcljkmppoaa.K
