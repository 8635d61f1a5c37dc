/- By hand: a row of slices that came in, as a row of values. -/
import Derived.Test.YtefjmcljkmppoaaK0
namespace Go.Proofs.Ytefjmcljkmppoaa.K
open Go Go.RowKit Go.Proofs.YtefjmcljkmppoaaW.PrintWords Go.Proofs.YtefjmcljkmppoaaW.PrintLast Go.Proofs.YtefjmcljkmppoaaW.PrintMore
set_option linter.unusedVariables false
/-- Values that take one cell each. -/
def kV : Kd Value where
  sz := 1
  E := []
  K := fun w x cs => cs = [x] ∧ x.oneCell' = true
  M := fun w base ok x cs => cs = [x] ∧ x.oneCell' = true
  K_len := by rintro w x cs ⟨rfl, _⟩; rfl
  K_one := by rintro w x cs ⟨rfl, h⟩ u hu; rw [List.mem_singleton.1 hu]; exact h
  K_below := by rintro w w1 x cs _ h; exact h
  K_of_M := by rintro w base ok x cs h; exact h
  M_mono := by rintro w base ok ok' x cs _ h; exact h
  M_bound := by rintro w base ok x cs h; exact h
  M_move := by rintro w w1 base ok x cs _ h; exact h
  M_lower := by rintro w base base' ok x cs _ h; exact h
theorem rawC {w : World} {A : Option Addr} {vs : List Value} {ls : List (List Int)} (h : Kd.C kV w A vs.length vs) (hl : vs.length = ls.length)
    (hx : ∀ (j : Nat) (v : Value) (l : List Int), vs[j]? = some v → ls[j]? = some l → ∃ B c, v = .slice B l.length c ∧ l.length ≤ c ∧ Kd.C (Kd.int .i64) w B l.length l) : Kd.C (Kd.slice 3 (Kd.int .i64)) w A ls.length ls := by
  refine ⟨rfl, hl ▸ h.2.1, fun h0 => ?_⟩
  obtain ⟨ad, e, q⟩ := h.2.2 (by omega)
  refine ⟨ad, e, fun j p hp => ?_⟩
  have hj : j < vs.length := by have := (List.getElem?_eq_some_iff.1 hp).1; omega
  obtain ⟨c, c1, ⟨c2, _⟩, c3⟩ := q j _ (List.getElem?_eq_getElem hj)
  obtain ⟨B, k, e1, e2, e3⟩ := hx j _ p (List.getElem?_eq_getElem hj) hp
  refine ⟨c, c1, ⟨B, k, ?_, e2, e3⟩, c3⟩
  rw [c2, e1]
theorem rawC1 {w : World} {A B : Option Addr} {l : List Int} {c : Nat} (h : Kd.C kV w A 1 [.slice B l.length c]) (hc : l.length ≤ c) (hl : Kd.C (Kd.int .i64) w B l.length l) : Kd.C (Kd.slice 3 (Kd.int .i64)) w A 1 [l] :=
  rawC (vs := [.slice B l.length c]) (ls := [l]) h rfl (fun j v x e1 e2 => by
    cases j with
    | zero => cases e1; cases e2; exact ⟨B, c, rfl, hc, hl⟩
    | succ j => simp at e1)
theorem rawC2 {w : World} {A B D : Option Addr} {l m : List Int} {c d : Nat} (h : Kd.C kV w A 2 [.slice B l.length c, .slice D m.length d]) (hc : l.length ≤ c) (hl : Kd.C (Kd.int .i64) w B l.length l) (hd : m.length ≤ d) (hm : Kd.C (Kd.int .i64) w D m.length m) : Kd.C (Kd.slice 3 (Kd.int .i64)) w A 2 [l, m] :=
  rawC (vs := [.slice B l.length c, .slice D m.length d]) (ls := [l, m]) h rfl (fun j v x e1 e2 => by
    cases j with
    | zero => cases e1; cases e2; exact ⟨B, c, rfl, hc, hl⟩
    | succ j => cases j with
      | zero => cases e1; cases e2; exact ⟨D, d, rfl, hd, hm⟩
      | succ j => simp at e1)
end Go.Proofs.Ytefjmcljkmppoaa.K
