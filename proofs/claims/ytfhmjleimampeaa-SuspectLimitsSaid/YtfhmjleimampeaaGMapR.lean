/- By hand: a map from whole numbers to lists of whole numbers, each in a row of its own; its operations' runs. -/
import Derived.Test.YtfhmjleimampeaaWMore
import Derived.Test.YtfhmjleimampeaaProg
import Derived.Test.YtfhmjleimampeaaGW
import Derived.Test.YtfhmjleimampeaaK0
import Derived.Maps.Own
import Derived.Maps.OwnSet
import Derived.Maps.AppendAt
import Derived.WalkSpells
import Derived.WalkKit
namespace Go.Proofs.Ytfhmjleimampeaa.RM
open Go Go.RowKit Go.Maps Go.Proofs.YtfhmjleimampeaaW.PrintWords
set_option linter.unusedVariables false
set_option linter.unusedSimpArgs false
def hR : Value → Option (DataW Value × List MemPlace) := fun v => some (.held v, [])
/-- D reads as the function M. -/
def Reads (D : DataW Value) (M : Int → Option Value) : Prop :=
  (∀ x, has D (.int .i64 x) = (M x).isSome) ∧ ∀ x z, D.atKey (.int .i64 x) z = match M x with | none => z | some v => .held v
def mput (M : Int → Option Value) (x : Int) (v : Value) : Int → Option Value := fun y => if y = x then some v else M y
theorem Reads.nil : Reads (.map []) (fun _ => none) := ⟨fun x => by simp [has], fun x z => rfl⟩
theorem Reads.put {D : DataW Value} {M : Int → Option Value} (h : Reads D M) (hD : IsMap D) (x : Int) (v : Value) : Reads (D.put (.int .i64 x) (.held v)) (mput M x v) := by
  refine ⟨fun y => ?_, fun y z => ?_⟩
  · unfold mput
    by_cases e : y = x
    · subst e
      rw [has_put_same hD (by trivial), if_pos rfl]
      rfl
    · rw [has_put_other (fun e' => e (by injection e')), if_neg e]
      exact h.1 y
  · unfold mput
    by_cases e : y = x
    · subst e
      rw [atKey_put_same hD (by trivial), if_pos rfl]
    · rw [atKey_put_other (fun e' => e (by injection e')), if_neg e]
      exact h.2 y z
/-- Block gm of w is a map of at most n entries that reads as M. -/
structure HM (w : World) (gm n : Nat) (M : Int → Option Value) : Prop where
  out : ∃ D : DataW Value, w.ownsMap Try.prog 3 hR gm n D ∧ Reads D M
section
variable {w w' : World} {gm n : Nat} {M : Int → Option Value}
theorem K3 : Keyed Try.prog 3 := int_keyed Try.underlying3
theorem key3 {x : Int} (h : (Lit.int .i64 x).wf = true) : keyOf Try.prog 3 (.int .i64 x) = some (.int .i64 x) := keyOf_int_mk Try.underlying3 h
theorem zeroSl (w : World) : (zeroValue 31).run Try.prog w = .ok (.slice none 0 0) w := Try.zeroValue31 w
theorem HM.new (h : w.heap[gm]? = some (.map #[] 0)) : HM w gm 0 (fun _ => none) := by
  refine ⟨.map [], ?_, Reads.nil⟩
  obtain ⟨es, clock, hb, F, hs, hD⟩ := World.ownsMap_made w Try.prog 3 hR
  have e : (w.alloc (.map #[] 0)).heap[w.heap.size]? = some (.map #[] 0) := blk_new w _
  rw [e] at hb
  injection hb with hb
  injection hb with h1 h2
  subst h1
  subst h2
  exact ⟨_, _, h, F, hs, hD⟩
theorem HM.kept {row : Option Nat} (h : HM w gm n M) (hg : w.grownBy w' row) (hne : some gm ≠ row) : HM w' gm n M := by
  obtain ⟨D, h1, h2⟩ := h.out
  exact ⟨D, h1.kept hg hne, h2⟩
theorem HM.lt (h : HM w gm n M) : gm < w.heap.size := by
  obtain ⟨D, h1, h2⟩ := h.out
  exact h1.lt
set_option maxRecDepth 100000 in
theorem HM.look (h : HM w gm n M) {x : Int} (hx : (Lit.int .i64 x).wf = true) : (Instr.lookup 57 (.map (some gm)) (.int .i64 x) false).run Try.prog w = .ok ((M x).getD (.slice none 0 0)) w := by
  obtain ⟨D, h1, h2⟩ := h.out
  obtain ⟨v, ps, hrun, hv⟩ := h1.lookup K3 Try.underlying57 (zeroSl w) (show hR (.slice none 0 0) = some (.held (.slice none 0 0), []) from rfl) (key3 hx)
  have hv : some (DataW.held v, ([] : List MemPlace)) = _ := hv
  have e := (Prod.mk.inj (Option.some.inj hv)).1
  rw [h2.2] at e
  rw [hrun]
  cases hM : M x with
  | none =>
    rw [hM] at e
    injection e with e
    rw [e]
    rfl
  | some t =>
    rw [hM] at e
    injection e with e
    rw [e]
    rfl
set_option maxRecDepth 100000 in
theorem HM.update (h : HM w gm n M) (hn : n < maxLen) {x : Int} (hx : (Lit.int .i64 x).wf = true) (v : Value) : ∃ w', (Instr.mapUpdate 57 (.map (some gm)) (.int .i64 x) v).run Try.prog w = .ok () w' ∧ HM w' gm (n + 1) (mput M x v) ∧ w.grownBy w' (some gm) := by
  obtain ⟨D, h1, h2⟩ := h.out
  obtain ⟨w', hrun, h3, h4⟩ := h1.update K3 Try.underlying57 hn (key3 hx) (show hR v = some (.held v, []) from rfl)
  exact ⟨w', hrun, ⟨_, h3, h2.put h1.isMap x v⟩, h4⟩
end
/-- A list of whole numbers in a row of its own. -/
def Row (w : World) (base : Nat) (v : Value) (xs : List Int) : Prop := w.ownsRow base 3 1 v xs.length (xs.map (Value.int .i64))
/-- The map's rows: G tells each key's list. -/
structure RMap (w : World) (base gm n : Nat) (M : Int → Option Value) (G : Int → List Int) : Prop where
  map : HM w gm n M
  row : ∀ x v, M x = some v → Row w base v (G x) ∧ v.ownBlock ≠ some gm ∧ G x ≠ []
  non : ∀ x, M x = none → G x = []
  apart : ∀ x y u v b, x ≠ y → M x = some u → M y = some v → u.ownBlock = some b → v.ownBlock ≠ some b
theorem Row.lt {w : World} {base : Nat} {v : Value} {xs : List Int} {b : Nat} (h : Row w base v xs) (hb : v.ownBlock = some b) : b < w.heap.size ∧ base ≤ b := by
  rcases h.2 with ⟨rfl, _⟩ | ⟨g, cap, cur, rfl, h1, h2, _⟩
  · cases hb
  · injection hb with hb
    have hb : g = b := hb
    subst hb
    exact ⟨(Array.getElem?_eq_some_iff.1 h2).1, h1⟩
theorem Row.kept {w w' : World} {base : Nat} {v : Value} {xs : List Int} {row : Option Nat} (h : Row w base v xs) (hg : w.grownBy w' row) (hne : ∀ b, v.ownBlock = some b → row ≠ some b) : Row w' base v xs :=
  World.ownsRow.kept h hg (by
    cases hv : v.ownBlock with
    | none => exact .inl rfl
    | some b => exact .inr (fun e => hne b hv e.symm))
theorem Row.nil (w : World) (base : Nat) : Row w base (.slice none 0 0) [] := ⟨rfl, .inl ⟨rfl, rfl⟩⟩
section
variable {w w' : World} {base gm n : Nat} {M : Int → Option Value} {G : Int → List Int}
theorem RMap.kept (h : RMap w base gm n M G) (hb : Below w.heap.size w w') : RMap w' base gm n M G :=
  ⟨h.map.kept (grown_of_below hb none) (by simp), fun x v hx => ⟨(h.row x v hx).1.kept (grown_of_below hb none) (fun b _ e => by cases e), (h.row x v hx).2⟩, h.non, h.apart⟩
theorem RMap.rowD (h : RMap w base gm n M G) (x : Int) : Row w base ((M x).getD (.slice none 0 0)) (G x) := by
  cases hM : M x with
  | none => rw [h.non x hM]; exact Row.nil w base
  | some v => exact (h.row x v hM).1
def gput (G : Int → List Int) (x : Int) (p : Int) : Int → List Int := fun y => if y = x then G y ++ [p] else G y
theorem RMap.append (h : RMap w base gm n M G) (hn : n < maxLen) {x : Int} (hx : (Lit.int .i64 x).wf = true) {w1 : World} {v1 : Value} {p : Int} (hrow : Row w1 base v1 (G x ++ [p]))
    (hg : w.grownBy w1 ((M x).getD (.slice none 0 0)).ownBlock) (hat : v1.ownBlock = ((M x).getD (.slice none 0 0)).ownBlock ∨ v1.ownBlock = some w.heap.size) :
    ∃ w2, (Instr.mapUpdate 57 (.map (some gm)) (.int .i64 x) v1).run Try.prog w1 = .ok () w2 ∧ RMap w2 base gm (n + 1) (mput M x v1) (gput G x p) ∧ w1.grownBy w2 (some gm) := by
  have hv0 : ((M x).getD (.slice none 0 0)).ownBlock ≠ some gm := by
    cases hM : M x with
    | none => intro e; cases e
    | some v => exact (h.row x v hM).2.1
  have hother : ∀ y u b, y ≠ x → M y = some u → u.ownBlock = some b → ((M x).getD (.slice none 0 0)).ownBlock ≠ some b := by
    intro y u b hy hu hb
    cases hM : M x with
    | none => intro e; cases e
    | some v => exact h.apart y x u v b hy hu hM hb
  have hm1 := h.map.kept hg (fun e => hv0 e.symm)
  obtain ⟨w2, hrun, hm2, hg2⟩ := hm1.update hn hx v1
  have hlt := h.map.lt
  have hv1 : v1.ownBlock ≠ some gm := by
    rcases hat with e | e
    · rw [e]; exact hv0
    · rw [e]
      intro e2
      injection e2 with e2
      omega
  refine ⟨w2, hrun, ⟨hm2, fun y v hy => ?_, fun y hy => ?_, fun y z u v b hyz hu hv hb => ?_⟩, hg2⟩
  · unfold mput at hy
    unfold gput
    by_cases e : y = x
    · subst e
      rw [if_pos rfl] at hy
      injection hy with hy
      subst hy
      rw [if_pos rfl]
      exact ⟨hrow.kept hg2 (fun b hb e => hv1 (by rw [hb, e])), hv1, by simp⟩
    · rw [if_neg e] at hy
      rw [if_neg e]
      obtain ⟨r1, r2, r3⟩ := h.row y v hy
      exact ⟨(r1.kept hg (fun b hb => hother y v b e hy hb)).kept hg2 (fun b hb e => r2 (by rw [hb, e])), r2, r3⟩
  · unfold mput at hy
    unfold gput
    by_cases e : y = x
    · rw [if_pos e] at hy; cases hy
    · rw [if_neg e] at hy
      rw [if_neg e]
      exact h.non y hy
  · unfold mput at hu hv
    by_cases e : y = x
    · rw [if_pos e] at hu
      injection hu with hu
      subst hu
      have e2 : z ≠ x := fun e3 => hyz (e.trans e3.symm)
      rw [if_neg e2] at hv
      intro hvb
      rcases hat with e3 | e3
      · exact hother z v b e2 hv hvb (by rw [← e3]; exact hb)
      · rw [e3] at hb
        injection hb with hb
        have := (h.row z v hv).1.lt hvb
        omega
    · rw [if_neg e] at hu
      by_cases e2 : z = x
      · rw [if_pos e2] at hv
        injection hv with hv
        subst hv
        intro hvb
        rcases hat with e3 | e3
        · exact hother y u b e hu hb (by rw [← e3]; exact hvb)
        · rw [e3] at hvb
          injection hvb with hvb
          have := (h.row y u hu).1.lt hb
          omega
      · rw [if_neg e2] at hv
        exact h.apart y z u v b hyz hu hv hb
theorem RMap.new (h : w.heap[gm]? = some (.map #[] 0)) (base : Nat) : RMap w base gm 0 (fun _ => none) (fun _ => []) :=
  ⟨HM.new h, (fun x v hx => by cases hx), (fun x _ => rfl), (fun x y u v b _ hu => by cases hu)⟩
end
theorem Row.toR {w : World} {base : Nat} {v : Value} {xs : List Int} (h : Row w base v xs) : (Kd.int .i64).R 3 w base (fun _ => True) v xs := by
  refine ⟨fun _ _ => trivial, xs.map (Value.int .i64), h, by simp [Kd.int, Kd.scalar], fun j p hj => ?_⟩
  obtain ⟨hl, hp⟩ := List.getElem?_eq_some_iff.1 hj
  have hl' : j < (xs.map (Value.int .i64)).length := by simpa using hl
  show ((xs.map (Value.int .i64)).drop (j * 1)).take 1 = [Value.int .i64 p]
  rw [Nat.mul_one, List.drop_eq_getElem_cons hl']
  simp [hp]
end Go.Proofs.Ytfhmjleimampeaa.RM
