/- By hand: sort.Search over a closure that only reads: the binary search over what the closure tells. -/
import Derived.Test.YtfafeeobjlkjnaaK0
import Derived.Test.YtfafeeobjlkjnaaGW
namespace Go.Proofs.Ytfafeeobjlkjnaa.K
open Go.RowKit Go.Proofs.YtfafeeobjlkjnaaW.PrintWords Go.Proofs.YtfafeeobjlkjnaaW.PrintLast Go.Proofs.YtfafeeobjlkjnaaW.PrintMore Go.Proofs.Ytfafeeobjlkjnaa.GW
set_option linter.unusedVariables false
set_option linter.unusedSimpArgs false

def sort_Search.l0 (p : Int → Bool) : Nat → Int → Int → Option Int
  | 0, _, _ => none
  | k + 1, i, j => if i < j then (if p ((i + j) / 2) = true then sort_Search.l0 p k i ((i + j) / 2) else sort_Search.l0 p k ((i + j) / 2 + 1) j) else some i
def sort_Search.f (k : Nat) (p : Int → Bool) (n : Int) : Option Int := sort_Search.l0 p k 0 n

set_option maxHeartbeats 4000000 in
set_option maxRecDepth 100000 in
theorem sort_Search.calls (k : Nat) (p : Int → Bool) (n : Int) (hn0 : 0 ≤ n) (hn : n ≤ 4611686018427387903) (c1 c2 : Value) (r : Int) (w : World)
    (hf : ∀ W, Drawn0 w W → ∀ i, 0 ≤ i → i < n → Calls Try.prog 48 #[.int .i64 i, c1, c2] W fun e w' => e = .returned (.bool (p i)) ∧ Drawn0 W w') (h : sort_Search.f k p n = some r) :
    Calls Try.prog 47 #[.int .i64 n, .func (.func 48) #[] #[c1, c2]] w fun e w' => e = .returned (.int .i64 r) ∧ Drawn0 w w' := by
  have HF := Aside0.mk hf
  have HH := Aside0.mk (show sort_Search.l0 p k 0 n = some r from h)
  have HN := Aside0.mk hn
  have HN0 := Aside0.mk hn0
  clear hf h hn hn0
  go_enter Try.func47, Try.ntmps47
  go_wp2
  go_loopg [5, 6] k (fun kq v5 v6 w' => ∃ i j : Int, v5 = .int .i64 i ∧ v6 = .int .i64 j ∧ Aside0 (0 ≤ i ∧ i ≤ j ∧ j ≤ n) ∧ Aside0 (sort_Search.l0 p kq i j = some r) ∧ Aside0 (kq ≤ k) ∧ Drawn0 w w')
  case atStart => exact ⟨0, n, rfl, rfl, ⟨by omega, HN0.out, Int.le_refl _⟩, HH, ⟨Nat.le_refl _⟩, Drawn0.refl _⟩
  case round =>
    clear HH
    obtain ⟨i, j, rfl, rfl, HI, HA, HK, HD⟩ := hrel
    cases gk with
    | zero => exact absurd HA.out (by simp [sort_Search.l0])
    | succ k1 =>
      have H := HA.out
      clear HA
      simp only [sort_Search.l0] at H
      by_cases c : i < j
      · rw [if_pos c] at H
        have cb : decide (i < j) = true := decide_eq_true c
        have hs : 0 ≤ i + j := by have := HI.out; omega
        have hs2 : i + j ≤ 9223372036854775806 := by have := HI.out; have := HN.out; omega
        have hm0 : 0 ≤ (i + j) / 2 := by omega
        have hm1 : (i + j) / 2 < n := by have := HI.out; omega
        have hmb : decide ((i + j) / 2 < n) = true := decide_eq_true hm1
        have HD0 := Aside0.mk HD
        have HM := Aside0.mk (And.intro hm0 hm1)
        have HS := Aside0.mk hs2
        clear HD hm1
        by_cases cp : p ((i + j) / 2) = true
        · rw [if_pos cp] at H
          have HA := Aside0.mk H
          clear H
          go_wp2_with fail
          refine (HF.out wr HD0.out _ HM.out.1 HM.out.2).mono ?_
          rintro e w' ⟨rfl, hd⟩
          have HD2 := Aside0.mk (drawn_trans HD0.out hd)
          clear hd
          go_wp2
          go_roundg k1
          case measure => omega
          case rel => exact ⟨i, (i + j) / 2, rfl, rfl, ⟨by have := HI.out; omega⟩, HA, ⟨by have := HK.out; omega⟩, HD2.out⟩
        · rw [if_neg cp] at H
          have HA := Aside0.mk H
          clear H
          have cpf : p ((i + j) / 2) = false := by simpa using cp
          go_wp2_with fail
          refine (HF.out wr HD0.out _ HM.out.1 HM.out.2).mono ?_
          rintro e w' ⟨rfl, hd⟩
          have HD2 := Aside0.mk (drawn_trans HD0.out hd)
          clear hd
          go_wp2
          go_roundg k1
          case measure => omega
          case rel => exact ⟨(i + j) / 2 + 1, j, rfl, rfl, ⟨by have := HI.out; omega⟩, HA, ⟨by have := HK.out; omega⟩, HD2.out⟩
      · rw [if_neg c] at H
        have cb : decide (i < j) = false := decide_eq_false c
        obtain rfl := Option.some.inj H
        go_wp2
        go_ret
        exact ⟨rfl, HD⟩
end Go.Proofs.Ytfafeeobjlkjnaa.K
