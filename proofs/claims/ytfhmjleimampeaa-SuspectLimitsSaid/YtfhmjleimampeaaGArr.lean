/- By hand: an array of two whole numbers, as a struct of two; its data opened. -/
import Derived.Test.YtfhmjleimampeaaGRow
import Derived.Test.YtfhmjleimampeaaK0
import Derived.OpenShut
namespace Go.WideShapes
theorem okWide_array {P : Program} {w : World} {r : Reach} {base : Nat} {t : TypeId} {v : Value} {n : Nat} {e : TypeId} (ht : P.underlying t = some (.array n e)) (h : Value.okWide P w r base t v) : ∃ cs, v = .agg cs ∧ cs.size = P.cellsOf t := by
  simp only [Value.okWide, ht] at h
  obtain ⟨cs, h1, h2, _⟩ := h
  exact ⟨cs, h1, h2⟩
end Go.WideShapes
namespace Go.Proofs.Ytfhmjleimampeaa.K
open Go Go.RowKit Go.Proofs.YtfhmjleimampeaaW.PrintWords Go.Proofs.Ytfhmjleimampeaa.GRow
set_option linter.unusedVariables false
structure S42 where
  f0 : Int
  f1 : Int
def k42 : Kd S42 := Kd.iso (Kd.pair (Kd.int .i64) (Kd.int .i64)) (fun x : S42 => (x.f0, x.f1))
theorem k42_open {w : World} {x : S42} {cs : List Value} (h : k42.K w x cs) : cs = [.int .i64 x.f0, .int .i64 x.f1] := by
  obtain ⟨_, _, rfl, h1, h2⟩ := h
  cases h1
  cases h2
  rfl
theorem opens_array2 {P : Program} {t e : TypeId} {α : Type} {k : Kd α} {ok : α → Prop} (ht : P.underlying t = some (.array 2 e)) (hc : P.cellsOf t = 2 * k.sz) (h : Opens P e k ok) : Opens P t (Kd.pair k k) (Two ok ok) :=
  ⟨by rw [hc]; show 2 * k.sz = k.sz + k.sz; omega, fun enc w base spare held fuel cs y hy => by
    obtain ⟨xs, m, _, _, hl, hxl, hf⟩ := DataW.trod_array ht hy
    have f0 := hf 0 (by omega)
    have f1 := hf 1 (by omega)
    rw [h.1] at f0 f1
    rw [Nat.zero_mul, List.drop_zero, List.getElem?_eq_getElem (by omega)] at f0
    rw [Nat.one_mul, List.getElem?_eq_getElem (by omega), List.take_of_length_le (by rw [List.length_drop]; omega)] at f1
    obtain ⟨x0, h0, o0⟩ := h.2 enc w base spare held m _ _ f0
    obtain ⟨x1, h1, o1⟩ := h.2 enc w base spare held m _ _ f1
    exact ⟨(x0, x1), ⟨_, _, (List.take_append_drop k.sz cs).symm, h0, h1⟩, o0, o1⟩⟩
end Go.Proofs.Ytfhmjleimampeaa.K
