/- By hand: struct type 24 (a place with two days), which the printed parts have in fields only. -/
import Derived.Test.YtfjenooajbdcmaaK0
import Derived.Test.YtfjenooajbdcmaaGMapW
namespace Go.Proofs.Ytfjenooajbdcmaa.K
open Go.RowKit Go.Proofs.YtfjenooajbdcmaaW.PrintWords
set_option linter.unusedVariables false
structure S24 where
  f0 : Int
  f1 : Int
  f2 : Int
def k24 : Kd S24 := Kd.iso (Kd.pair (Kd.int .i64) (Kd.pair (Kd.int .i64) (Kd.int .i64))) (fun x : S24 => (x.f0, x.f1, x.f2))
theorem k24_open {w : World} {x : S24} {cs : List Value} (h : k24.K w x cs) : cs = [.int .i64 x.f0, .int .i64 x.f1, .int .i64 x.f2] := by
  obtain ⟨_, _, rfl, rfl, ⟨_, _, rfl, rfl, rfl⟩⟩ := h
  exact rfl
end Go.Proofs.Ytfjenooajbdcmaa.K
namespace Go.Proofs.Ytfjenooajbdcmaa.K
open Go Go.RowKit Go.Proofs.YtfjenooajbdcmaaW.PrintWords Go.Proofs.Ytfjenooajbdcmaa.GM
set_option linter.unusedVariables false
def wf34 (x : S34) : Bool := (Lit.int .i64 x.f2).wf
def badP (x : S34) : Bool := decide (x.f0 < 0) || (decide (x.f0 > 100000) || (decide (x.f1 < 1) || (decide (x.f1 > 1073741824) || (decide (x.f2 < 1) || (decide (x.f2 > 1073741824) || (decide (x.f3 < 1) || decide (x.f3 > 4)))))))
/-- The fault of an event behind others: M tells how the seals stand, p is the day of the last event. -/
def faultP (M : Int → Option St) (p : Option Int) (x : S34) : Int :=
  if badP x = true then 2 else if (p.any fun d => decide (x.f0 < d)) = true then 5 else
  if x.f3 = 1 then (if (M x.f2).isSome = true then 6 else 0) else
  if (M x.f2).isSome = false then 7 else if ((M x.f2).getD ⟨0, 0, 0⟩).pl ≠ x.f1 then 10 else if ((M x.f2).getD ⟨0, 0, 0⟩).tt ≠ 100002 then 11 else 0
def newSt (s : St) (x : S34) : St := if x.f3 = 1 then ⟨x.f1, x.f0, 100002⟩ else if x.f3 = 3 ∨ x.f3 = 4 then ⟨s.pl, s.fr, x.f0⟩ else s
def stepP (M : Int → Option St) (x : S34) : Int → Option St := mput M x.f2 (newSt ((M x.f2).getD ⟨0, 0, 0⟩) x)
def folgo : (Int → Option St) → Option Int → Nat → List S34 → (Int → Option St) × Int × Int
  | M, _, _, [] => (M, -1, 0)
  | M, p, i, x :: l => if faultP M p x = 0 then folgo (stepP M x) (some x.f0) (i + 1) l else (M, (i : Int), faultP M p x)
def fol (l : List S34) : (Int → Option St) × Int × Int := if l.length > 128 then (fun _ => none, -1, 8) else folgo (fun _ => none) none 0 l
def sprev (L : List S34) (i : Nat) : Option Int := if i = 0 then none else some (L[i - 1]?.getD z34).f0
theorem rd34_get (xs : List S34) (i : Nat) (h : i < xs.length) : rd_T34 xs (i : Int) = xs[i] := by
  unfold rd_T34
  simp [List.getD_eq_getElem?_getD, h]
end Go.Proofs.Ytfjenooajbdcmaa.K
